/- The statement about lists and numbers that is left of the law IrNames. -/
import Derived.Test.YtgmklfaknomakaaDoorQcubbylaw07IrNames
namespace Go.Proofs.YtgmklfaknomakaaDoor.RIrNames
open Go Go.RowKit Go.Proofs.YtgmklfaknomakaaDoorW.PrintWords Go.Proofs.YtgmklfaknomakaaDoor.Q
set_option linter.unusedVariables false
def IrNames.Pure : Prop := ∀ (a0 : ByteArray), (a0).size ≤ 140737488351232 → ∃ k, cubbylaw07_IrNames.f k a0 = some true
end Go.Proofs.YtgmklfaknomakaaDoor.RIrNames
