/- The law FlowOnce over lists. -/
import Derived.Test.YtgmklfaknomakaaStmtFlowOnce
import Derived.Test.YtgmklfaknomakaaPlainLaw09
import Derived.Test.YtgmklfaknomakaaPlainReach
namespace Go.Proofs.Ytgmklfaknomakaa.RFlowOnce.Pure
open Go Go.RowKit Go.Proofs.YtgmklfaknomakaaW.PrintWords Go.Proofs.YtgmklfaknomakaaW.PrintMore Go.Proofs.Ytgmklfaknomakaa.Q Go.Proofs.Ytgmklfaknomakaa.Plain Go.Proofs.Ytgmklfaknomakaa.PlainFlow Go.Proofs.Ytgmklfaknomakaa.PlainLaw09 Go.Proofs.Ytgmklfaknomakaa.Dfs Go.Proofs.Ytgmklfaknomakaa.PlainOrder Go.Proofs.Ytgmklfaknomakaa.PlainReach
theorem count_loop (x : List (List SIns)) (L : List Int) (r : List Bool) (i : Nat) (hL : L.length ≤ 1000000) (hd : L.Nodup) (hi : i < r.length) (hr : rdOf false r (i : Int) = decide ((i : Int) ∈ L)) :
    ∀ (d j c : Nat), L.length - j = d → j ≤ L.length → (c = 0 ∨ c = 1 ∧ (i : Int) ∉ L.drop j) → ((i : Int) ∈ L ↔ c = 1 ∨ (i : Int) ∈ L.drop j) → ∀ z, Ev (fun k => cubbylaw09_FlowOnce.l0 k x L r (wrap64 ((i : Int) + 1))) z → Ev (fun k => cubbylaw09_FlowOnce.l1 k x L r (i : Int) (c : Int) (j : Int)) z := by
  intro d
  induction d with
  | zero =>
    intro j c hj hle hc hm z hz
    rw [List.drop_eq_nil_of_le (by omega)] at hm
    refine Ev.step (fun k => ?_) hz
    simp only [cubbylaw09_FlowOnce.l1]
    rw [if_neg (by omega), if_neg (by omega), if_pos (by omega), if_pos (by omega), hr, if_neg]
    rw [Bool.not_eq_true, bne_eq_false_iff_eq]
    by_cases h1 : c = 1
    · rw [decide_eq_true (hm.2 (.inl h1)), beq_iff_eq]
      omega
    · rw [decide_eq_false (fun h => by rcases hm.1 h with h | h; exact h1 h; simp at h), beq_eq_false_iff_ne]
      omega
  | succ d ih =>
    intro j c hj hle hc hm z hz
    have hlt : j < L.length := by omega
    have hdd : (L.drop j).Nodup := hd.sublist (List.drop_sublist _ _)
    rw [drop_cons hlt] at hm hc hdd
    have hnd := (List.nodup_cons.1 hdd).1
    by_cases e : L[j] = (i : Int)
    · have h0 : c = 0 := by
        rcases hc with h | ⟨_, h⟩
        · exact h
        · exact absurd (by rw [e]; exact List.mem_cons_self) h
      subst h0
      refine Ev.step (fun k => ?_) (ih (j + 1) 1 (by omega) (by omega) (.inr ⟨rfl, by rw [← e]; exact hnd⟩) ⟨fun _ => .inl rfl, fun _ => hm.2 (.inr (by rw [e]; exact List.mem_cons_self))⟩ z hz)
      simp only [cubbylaw09_FlowOnce.l1]
      rw [if_pos (by omega), if_pos (by omega), rd_get hlt, if_pos e, wrap_nat (by omega), wrap_nat (by omega)]
    · refine Ev.step (fun k => ?_) (ih (j + 1) c (by omega) (by omega) (hc.imp id (fun h => ⟨h.1, fun hq => h.2 (List.mem_cons_of_mem _ hq)⟩)) ⟨fun h => (hm.1 h).imp id (fun h => (List.mem_cons.1 h).resolve_left (Ne.symm e)), fun h => hm.2 (h.imp id (List.mem_cons_of_mem _))⟩ z hz)
      simp only [cubbylaw09_FlowOnce.l1]
      rw [if_pos (by omega), if_pos (by omega), rd_get hlt, if_neg e, wrap_nat (by omega)]
theorem FlowOnce : FlowOnce.Pure := by
  intro x _
  refine Ev.rounds (g := fun k => cubbylaw09_FlowOnce.f k x) ?_
  obtain ⟨r, hr, hl⟩ := heavy_ev x
  refine Ev.bind hr ?_
  cases r with
  | true => exact Ev.now _
  | false =>
    have h := hl rfl
    have hx := h.1
    simp only [Bool.false_eq_true, if_false]
    refine Ev.bind (order_ev (by omega) h.small) (Ev.bind (refreach_ev (by omega) h.small) ?_)
    by_cases h0 : x.length = 0
    · have : order (succs x) x.length = [] := by unfold order; rw [if_pos h0]
      simp only [this]
      refine Ev.congr (f := fun _ => some true) (fun k => by rw [if_pos (by omega)]; rfl) (Ev.now _)
    · obtain ⟨t, ht⟩ := order_head (g := succs x) (n := x.length) (by omega)
      have hlen : 0 < (order (succs x) x.length).length := by rw [ht]; simp
      have hol := order_len x
      have loop : ∀ (d i : Nat), x.length - i = d → i ≤ x.length → Ev (fun k => cubbylaw09_FlowOnce.l0 k x (order (succs x) x.length) (reached x) (i : Int)) true := by
        intro d
        induction d with
        | zero =>
          intro i hd hi
          exact Ev.step (f := fun _ => some true) (fun k => by simp only [cubbylaw09_FlowOnce.l0]; rw [if_neg (by omega)]) (Ev.now _)
        | succ d ih =>
          intro i hd hi
          have hi' : i < (reached x).length := by unfold reached; rw [bits_len]; omega
          refine Ev.step (fun k => ?_) (count_loop x (order (succs x) x.length) (reached x) i (by omega) (order_nodup rng) hi' (by unfold reached; rw [rdOf_bits (by omega) (by omega)]) _ 0 0 rfl (by omega) (.inl rfl) (by simp) true (by
            rw [wrap_nat (by omega)]
            exact ih (i + 1) (by omega) (by omega)))
          simp only [cubbylaw09_FlowOnce.l0]
          rw [if_pos (by omega)]
          rfl
      refine Ev.congr (f := fun k => cubbylaw09_FlowOnce.j0 k x (order (succs x) x.length) (reached x) false) (fun k => ?_) ?_
      · rw [if_neg (by omega), if_neg (by omega), if_pos (by omega), ht]
        rfl
      · refine Ev.step (fun k => ?_) (loop _ 0 rfl (by omega))
        simp only [cubbylaw09_FlowOnce.j0]
        rw [if_neg (by simp)]
        rfl
end Go.Proofs.Ytgmklfaknomakaa.RFlowOnce.Pure
