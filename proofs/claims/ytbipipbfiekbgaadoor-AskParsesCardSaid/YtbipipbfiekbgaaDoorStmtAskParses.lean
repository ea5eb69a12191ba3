/- The statement about lists and numbers that is left of the law AskParses. -/
import Derived.Test.YtbipipbfiekbgaaDoorQcubbylaw21AskParses
namespace Go.Proofs.YtbipipbfiekbgaaDoor.RAskParses
open Go Go.RowKit Go.Proofs.YtbipipbfiekbgaaDoorW.PrintWords Go.Proofs.YtbipipbfiekbgaaDoor.Q
set_option linter.unusedVariables false
def AskParses.Pure : Prop := ∀ (a0 : ByteArray) (a1_0 : Int) (a1_1 : ByteArray) (a1_2 : ByteArray), (a0).size ≤ 140737488351232 → (Lit.int .i64 (a1_0)).wf = true → (a1_1).size ≤ 140737488351232 → (a1_2).size ≤ 140737488351232 → ∃ k, cubbylaw21_AskParses.f k a0 a1_0 a1_1 a1_2 = some true
end Go.Proofs.YtbipipbfiekbgaaDoor.RAskParses
