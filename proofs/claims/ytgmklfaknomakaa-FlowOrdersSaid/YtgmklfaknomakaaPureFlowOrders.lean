/- The law FlowOrders over lists. -/
import Derived.Test.YtgmklfaknomakaaStmtFlowOrders
import Derived.Test.YtgmklfaknomakaaPlainLaw09
import Derived.Test.YtgmklfaknomakaaPlainReach
namespace Go.Proofs.Ytgmklfaknomakaa.RFlowOrders.Pure
open Go Go.RowKit Go.Proofs.YtgmklfaknomakaaW.PrintWords Go.Proofs.YtgmklfaknomakaaW.PrintMore Go.Proofs.Ytgmklfaknomakaa.Q Go.Proofs.Ytgmklfaknomakaa.Plain Go.Proofs.Ytgmklfaknomakaa.PlainFlow Go.Proofs.Ytgmklfaknomakaa.PlainLaw09 Go.Proofs.Ytgmklfaknomakaa.Dfs Go.Proofs.Ytgmklfaknomakaa.PlainOrder Go.Proofs.Ytgmklfaknomakaa.PlainReach
theorem FlowOrders : FlowOrders.Pure := by
  intro x _
  refine Ev.rounds (g := fun k => cubbylaw09_FlowOrders.f k x) ?_
  obtain ⟨r, hr, hl⟩ := heavy_ev x
  refine Ev.bind hr ?_
  cases r with
  | true => exact Ev.now _
  | false =>
    have h := hl rfl
    have hx := h.1
    simp only [Bool.false_eq_true, if_false]
    have hol := order_len x
    have loop : ∀ (d i : Nat), (reached x).length - i = d → i ≤ (reached x).length → Ev (fun k => cubbylaw09_FlowOrders.l0 k x (reached x) (reached x) (i : Int)) true := by
      have hrl : (reached x).length = x.length := by unfold reached; exact bits_len _ _
      intro d
      induction d with
      | zero =>
        intro i hd hi
        refine Ev.step (fun k => by simp only [cubbylaw09_FlowOrders.l0]; rw [if_neg (by omega)]) (Ev.bind (order_ev (x := x) (by omega) h.small) (Ev.bind (reforder_ev (x := x) (by omega) h.small) (Ev.bind (same_ev (order (succs x) x.length) (by omega)) (Ev.now _))))
      | succ d ih =>
        intro i hd hi
        refine Ev.step (fun k => ?_) (ih (i + 1) (by omega) (by omega))
        simp only [cubbylaw09_FlowOrders.l0]
        rw [if_pos (by omega), if_pos (by omega), if_pos (by omega), if_neg (by simp), wrap_nat (by omega)]
    refine Ev.bind (reach_ev (by omega) h.small) (Ev.bind (refreach_ev (by omega) h.small) ?_)
    exact Ev.congr (f := fun k => cubbylaw09_FlowOrders.l0 k x (reached x) (reached x) 0) (fun k => by rw [if_pos rfl]) (loop _ 0 rfl (by omega))
end Go.Proofs.Ytgmklfaknomakaa.RFlowOrders.Pure
