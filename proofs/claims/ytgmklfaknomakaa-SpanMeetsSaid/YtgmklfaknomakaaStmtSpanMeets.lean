/- The statement about lists and numbers that is left of the law SpanMeets. -/
import Derived.Test.YtgmklfaknomakaaPSpanMeetsx1
namespace Go.Proofs.Ytgmklfaknomakaa.RSpanMeets
open Go Go.RowKit Go.Proofs.YtgmklfaknomakaaW.PrintWords Go.Proofs.Ytgmklfaknomakaa.PSpanMeets
set_option linter.unusedVariables false
def SpanMeets.Pure : Prop := ∀ (a0_0 : Int) (a0_1 : Int) (a1_0 : Int) (a1_1 : Int), (Lit.int .i64 (a0_0)).wf = true → (Lit.int .i64 (a0_1)).wf = true → (Lit.int .i64 (a1_0)).wf = true → (Lit.int .i64 (a1_1)).wf = true → cubbylaw12_SpanMeets.f a0_0 a0_1 a1_0 a1_1 = some true
end Go.Proofs.Ytgmklfaknomakaa.RSpanMeets
