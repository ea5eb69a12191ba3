/- The law FlowReaches over lists. -/
import Derived.Test.YtgmklfaknomakaaStmtFlowReaches
import Derived.Test.YtgmklfaknomakaaPlainLaw09
import Derived.Test.YtgmklfaknomakaaPlainReach
namespace Go.Proofs.Ytgmklfaknomakaa.RFlowReaches.Pure
open Go Go.RowKit Go.Proofs.YtgmklfaknomakaaW.PrintWords Go.Proofs.YtgmklfaknomakaaW.PrintMore Go.Proofs.Ytgmklfaknomakaa.Q Go.Proofs.Ytgmklfaknomakaa.Plain Go.Proofs.Ytgmklfaknomakaa.PlainFlow Go.Proofs.Ytgmklfaknomakaa.PlainLaw09 Go.Proofs.Ytgmklfaknomakaa.Dfs Go.Proofs.Ytgmklfaknomakaa.PlainOrder Go.Proofs.Ytgmklfaknomakaa.PlainReach
set_option linter.unusedVariables false
section
variable {x : List (List SIns)} (hx : x.length ≤ 1000000)
theorem rd_reached {v : Int} (h0 : 0 ≤ v) (h1 : v < x.length) : rdOf false (reached x) v = decide (v ∈ order (succs x) x.length) := by
  unfold reached
  exact rdOf_bits h0 h1
theorem reached_len : (reached x).length = x.length := by unfold reached; exact bits_len _ _
include hx
theorem l2_loop (i : Nat) (hi : i < x.length) (l : List Int) (hl : l.length ≤ 1000000) (hlr : ∀ v ∈ l, 0 ≤ v ∧ v < x.length) (z : Bool)
    (hz : Ev (fun k => cubbylaw09_FlowReaches.l0 k x (reached x) ((i + 1 : Nat) : Int)) z) : ∀ (d j : Nat) (s : Bool), l.length - j = d → j ≤ l.length → (0 < i → (i : Int) ∈ order (succs x) x.length → s = true ∨ ∃ p ∈ l.drop j, p ∈ order (succs x) x.length) →
    Ev (fun k => cubbylaw09_FlowReaches.l2 k x (reached x) (i : Int) l s (j : Int)) z := by
  have hrl := reached_len (x := x)
  intro d
  induction d with
  | zero =>
    intro j s hd hj hs
    rw [List.drop_eq_nil_of_le (by omega)] at hs
    refine Ev.step (fun k => ?_) hz
    simp only [cubbylaw09_FlowReaches.l2]
    rw [if_neg (by omega), wrap_nat (by omega)]
    by_cases h0 : (i : Int) > 0
    · rw [if_pos h0, if_pos (by omega), if_pos (by omega), rd_reached (by omega) (by omega)]
      by_cases hr : (i : Int) ∈ order (succs x) x.length
      · rcases hs (by omega) hr with h | ⟨p, hp, _⟩
        · rw [if_pos (by simp [hr]), if_pos h]
        · simp at hp
      · rw [if_neg (by simp [hr])]
    · rw [if_neg h0]
  | succ d ih =>
    intro j s hd hj hs
    have hlt : j < l.length := by omega
    obtain ⟨k0, k1⟩ := hlr l[j] (List.getElem_mem hlt)
    cases s with
    | true =>
      refine Ev.step (fun k => ?_) (ih (j + 1) true (by omega) (by omega) (fun _ _ => .inl rfl))
      simp only [cubbylaw09_FlowReaches.l2]
      rw [if_pos (by omega), if_pos trivial, wrap_nat (by omega)]
    | false =>
      refine Ev.step (fun k => ?_) (ih (j + 1) (decide (l[j] ∈ order (succs x) x.length)) (by omega) (by omega) (fun h1 h2 => ?_))
      · simp only [cubbylaw09_FlowReaches.l2]
        rw [if_pos (by omega), if_neg (by simp), if_pos (by omega), rd_get hlt, if_pos k0, if_pos (by omega), rd_reached k0 k1, wrap_nat (by omega)]
      · rcases hs h1 h2 with h | ⟨p, hp, hq⟩
        · simp at h
        · rw [drop_cons hlt] at hp
          rcases List.mem_cons.1 hp with rfl | hp
          · exact .inl (by simp [hq])
          · exact .inr ⟨p, hp, hq⟩
theorem l1_loop (hsm : Small x) (i : Nat) (hi : i < x.length) (l : List Int) (hl : l.length ≤ 1000000) (hlr : ∀ v ∈ l, 0 ≤ v ∧ v < x.length) (hcl : (i : Int) ∈ order (succs x) x.length → ∀ v ∈ l, v ∈ order (succs x) x.length) (z : Bool)
    (hz : Ev (fun k => cubbylaw09_FlowReaches.l0 k x (reached x) ((i + 1 : Nat) : Int)) z) : ∀ (d j : Nat), l.length - j = d → j ≤ l.length →
    Ev (fun k => cubbylaw09_FlowReaches.l1 k x (reached x) (i : Int) l (j : Int)) z := by
  have hrl := reached_len (x := x)
  intro d
  induction d with
  | zero =>
    intro j hd hj
    have hpl : (preds x i).length ≤ x.length := by
      unfold preds
      refine Nat.le_trans (List.length_filter_le _ _) ?_
      simp
    refine Ev.step (f := fun k => (flow_Preds.f k x (i : Int)).bind fun t => cubbylaw09_FlowReaches.l2 k x (reached x) (i : Int) t false 0) (fun k => ?_) (Ev.bind (preds_ev x i hsm (by omega)) (l2_loop hx i hi (preds x i) (by omega) (fun v hv => ?_) z hz _ 0 false rfl (by omega) (fun h1 h2 => ?_)))
    · simp only [cubbylaw09_FlowReaches.l1]
      rw [if_neg (by omega)]
    · unfold preds at hv
      simp only [List.mem_filter, List.mem_map, List.mem_range] at hv
      obtain ⟨⟨a, ha, rfl⟩, _⟩ := hv
      omega
    · right
      rw [List.drop_zero]
      rw [order_iff rng (by omega)] at h2
      generalize hq : (i : Int) = q at h2 ⊢
      cases h2 with
      | here => omega
      | there hf hk =>
        rename_i v
        have hv : v ∈ order (succs x) x.length := (order_iff rng (by omega) v).2 hf
        have hr := order_rng rng v hv
        refine ⟨v, ?_, hv⟩
        unfold preds
        simp only [List.mem_filter, List.mem_map, List.mem_range, decide_eq_true_eq]
        exact ⟨⟨v.toNat, by omega, by omega⟩, hk⟩
  | succ d ih =>
    intro j hd hj
    have hlt : j < l.length := by omega
    obtain ⟨k0, k1⟩ := hlr l[j] (List.getElem_mem hlt)
    refine Ev.step (fun k => ?_) (ih (j + 1) (by omega) (by omega))
    simp only [cubbylaw09_FlowReaches.l1]
    rw [if_pos (by omega), if_pos (by omega), if_pos (by omega), rd_reached (by omega) (by omega), wrap_nat (by omega)]
    by_cases hr : (i : Int) ∈ order (succs x) x.length
    · rw [if_pos (by simp [hr]), if_pos (by omega), rd_get hlt, if_pos k0, if_pos (by omega), rd_reached k0 k1, if_pos (by simp [hcl hr l[j] (List.getElem_mem hlt)])]
    · rw [if_neg (by simp [hr])]
end
theorem FlowReaches : FlowReaches.Pure := by
  intro x _
  refine Ev.rounds (g := fun k => cubbylaw09_FlowReaches.f k x) ?_
  obtain ⟨r, hr, hl⟩ := heavy_ev x
  refine Ev.bind hr ?_
  cases r with
  | true => exact Ev.now _
  | false =>
    have h := hl rfl
    have hx := h.1
    simp only [Bool.false_eq_true, if_false]
    have hol := order_len x
    have hrl := reached_len (x := x)
    have loop : ∀ (d i : Nat), x.length - i = d → i ≤ x.length → Ev (fun k => cubbylaw09_FlowReaches.l0 k x (reached x) (i : Int)) true := by
      intro d
      induction d with
      | zero =>
        intro i hd hi
        by_cases h0 : x.length = 0
        · refine Ev.step (f := fun _ => some true) (fun k => by simp only [cubbylaw09_FlowReaches.l0]; rw [if_neg (by omega), if_pos (by omega)]) (Ev.now _)
        · refine Ev.step (fun k => by simp only [cubbylaw09_FlowReaches.l0]; rw [if_neg (by omega), if_neg (by omega)]) (Ev.bind (order_ev (x := x) (by omega) h.small) (Ev.bind (reforder_ev (x := x) (by omega) h.small) (Ev.bind (same_ev (order (succs x) x.length) (by omega)) (Ev.now _))))
      | succ d ih =>
        intro i hd hi
        have hs := succs_len x i
        refine Ev.step (f := fun k => (flow_Succs.f k x (i : Int)).bind fun t => cubbylaw09_FlowReaches.l1 k x (reached x) (i : Int) t 0) (fun k => by simp only [cubbylaw09_FlowReaches.l0]; rw [if_pos (by omega)]) ?_
        refine Ev.bind (succs_ev x i h.small) (l1_loop (by omega) h.small i (by omega) (succs x i) (by omega) (succs_mem x i) (fun hi' v hv => ?_) true (ih (i + 1) (by omega) (by omega)) _ 0 rfl (by omega))
        rw [order_iff rng (by omega)] at hi' ⊢
        exact .there hi' hv
    refine Ev.bind (reach_ev (by omega) h.small) ?_
    refine Ev.congr (f := fun k => cubbylaw09_FlowReaches.j0 k x (reached x) false) (fun k => ?_) (Ev.step (fun k => ?_) (loop _ 0 rfl (by omega)))
    · rw [if_pos (by omega)]
      by_cases h0 : x.length = 0
      · rw [if_neg (by omega)]
      · rw [if_pos (by omega), if_pos (by omega), rd_reached (by omega) (by omega)]
        obtain ⟨t, ht⟩ := order_head (g := succs x) (n := x.length) (by omega)
        rw [ht]
        simp
    · simp only [cubbylaw09_FlowReaches.j0]
      rw [if_neg (by simp)]
      rfl
end Go.Proofs.Ytgmklfaknomakaa.RFlowReaches.Pure
