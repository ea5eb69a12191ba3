/- The statement about lists and numbers that is left of the law AskNames. -/
import Derived.Test.YtbipipbfiekbgaaDoorQcubbylaw21AskNames
namespace Go.Proofs.YtbipipbfiekbgaaDoor.RAskNames
open Go Go.RowKit Go.Proofs.YtbipipbfiekbgaaDoorW.PrintWords Go.Proofs.YtbipipbfiekbgaaDoor.Q
set_option linter.unusedVariables false
def AskNames.Pure : Prop := ∀ (a0 : Int) (a1 : ByteArray), (Lit.int .u8 (a0)).wf = true → (a1).size ≤ 140737488351232 → ∃ k, cubbylaw21_AskNames.f k a0 a1 = some true
end Go.Proofs.YtbipipbfiekbgaaDoor.RAskNames
