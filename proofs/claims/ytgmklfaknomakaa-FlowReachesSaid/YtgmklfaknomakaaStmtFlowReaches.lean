/- The statement about lists and numbers that is left of the law FlowReaches. -/
import Derived.Test.YtgmklfaknomakaaQcubbylaw09FlowReaches
namespace Go.Proofs.Ytgmklfaknomakaa.RFlowReaches
open Go Go.RowKit Go.Proofs.YtgmklfaknomakaaW.PrintWords Go.Proofs.Ytgmklfaknomakaa.Q
set_option linter.unusedVariables false
def GIns (x : SIns) : Prop := (Lit.int .i64 (x.f0)).wf = true ∧ (Lit.int .i64 (x.f1)).wf = true ∧ (Lit.int .i64 (x.f2)).wf = true ∧ (Lit.int .i64 (x.f3)).wf = true ∧ (x.f4).size ≤ 140737488351232 ∧ ((x.f5).length * 8 ≤ 140737488351232 ∧ (x.f5).length ≤ maxLen ∧ ∀ y1 ∈ (x.f5), (Lit.int .i64 (y1)).wf = true)
def FlowReaches.Pure : Prop := ∀ (l0 : List (List (SIns))), ((l0).length * 24 ≤ 140737488351232 ∧ (l0).length ≤ maxLen ∧ ∀ y1 ∈ (l0), ((y1).length * 72 ≤ 140737488351232 ∧ (y1).length ≤ maxLen ∧ ∀ y2 ∈ (y1), GIns (y2))) → ∃ k, cubbylaw09_FlowReaches.f k l0 = some true
end Go.Proofs.Ytgmklfaknomakaa.RFlowReaches
