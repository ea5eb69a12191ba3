/- The statement about lists and numbers that is left of the law IrReads. -/
import Derived.Test.YtgmklfaknomakaaDoorQcubbylaw07IrReads
namespace Go.Proofs.YtgmklfaknomakaaDoor.RIrReads
open Go Go.RowKit Go.Proofs.YtgmklfaknomakaaDoorW.PrintWords Go.Proofs.YtgmklfaknomakaaDoor.Q
set_option linter.unusedVariables false
def IrReads.Pure : Prop := ∀ (a0_0 : Int) (a0_1 : Int) (a0_2 : Int) (a0_3 : Int) (a0_4 : ByteArray) (l0_5 : List (Int)) (a1_0 : Int) (a1_1 : Int) (a1_2 : Int) (a1_3 : Int) (a1_4 : ByteArray) (l1_5 : List (Int)), (Lit.int .i64 (a0_0)).wf = true → (Lit.int .i64 (a0_1)).wf = true → (Lit.int .i64 (a0_2)).wf = true → (Lit.int .i64 (a0_3)).wf = true → (a0_4).size ≤ 140737488351232 → ((l0_5).length * 8 ≤ 140737488351232 ∧ (l0_5).length ≤ maxLen ∧ ∀ y1 ∈ (l0_5), (Lit.int .i64 (y1)).wf = true) → (Lit.int .i64 (a1_0)).wf = true → (Lit.int .i64 (a1_1)).wf = true → (Lit.int .i64 (a1_2)).wf = true → (Lit.int .i64 (a1_3)).wf = true → (a1_4).size ≤ 140737488351232 → ((l1_5).length * 8 ≤ 140737488351232 ∧ (l1_5).length ≤ maxLen ∧ ∀ y1 ∈ (l1_5), (Lit.int .i64 (y1)).wf = true) → ∃ k, cubbylaw07_IrReads.f k a0_0 a0_1 a0_2 a0_3 a0_4 l0_5 a1_0 a1_1 a1_2 a1_3 a1_4 l1_5 = some true
end Go.Proofs.YtgmklfaknomakaaDoor.RIrReads
