/- The law FlowNext over numbers and lists. -/
import Derived.Test.YtgmklfaknomakaaStmtFlowNext
import Derived.Test.YtgmklfaknomakaaPlainLaw09
namespace Go.Proofs.Ytgmklfaknomakaa.RFlowNext.Pure
open Go Go.RowKit Go.Proofs.YtgmklfaknomakaaW.PrintWords Go.Proofs.YtgmklfaknomakaaW.PrintMore Go.Proofs.Ytgmklfaknomakaa.Q Go.Proofs.Ytgmklfaknomakaa.Plain Go.Proofs.Ytgmklfaknomakaa.PlainFlow Go.Proofs.Ytgmklfaknomakaa.PlainLaw09
theorem FlowNext : FlowNext.Pure := by
  intro x i _ _
  refine Ev.rounds (g := fun k => cubbylaw09_FlowNext.f k x i) ?_
  obtain ⟨r, hr, hl⟩ := heavy_ev x
  refine Ev.bind hr ?_
  cases r with
  | true => exact Ev.now _
  | false =>
    have h := hl rfl
    simp only [Bool.false_eq_true, if_false]
    have h1 := succs_len x i
    refine Ev.bind (succs_ev x i h.small) (Ev.bind (refsuccs_ev x i h.small) (Ev.bind (same_ev _ (by omega)) ?_))
    simp only [if_true]
    have hx := h.1
    have h2 : (preds x i).length ≤ x.length := by
      unfold preds
      refine Nat.le_trans (List.length_filter_le _ _) ?_
      simp
    exact Ev.bind (preds_ev x i h.small (by omega)) (Ev.bind (refpreds_ev x i h.small (by omega)) (Ev.bind (same_ev _ (by omega)) (Ev.now _)))
end Go.Proofs.Ytgmklfaknomakaa.RFlowNext.Pure
