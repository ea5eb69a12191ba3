/- The law FlowTurned over lists. -/
import Derived.Test.YtgmklfaknomakaaStmtFlowTurned
import Derived.Test.YtgmklfaknomakaaPlainLaw09
import Derived.Test.YtgmklfaknomakaaPlainOrder
namespace Go.Proofs.Ytgmklfaknomakaa.RFlowTurned.Pure
open Go Go.RowKit Go.Proofs.YtgmklfaknomakaaW.PrintWords Go.Proofs.YtgmklfaknomakaaW.PrintMore Go.Proofs.Ytgmklfaknomakaa.Q Go.Proofs.Ytgmklfaknomakaa.Plain Go.Proofs.Ytgmklfaknomakaa.PlainFlow Go.Proofs.Ytgmklfaknomakaa.PlainLaw09 Go.Proofs.Ytgmklfaknomakaa.Dfs Go.Proofs.Ytgmklfaknomakaa.PlainOrder
theorem lhas_loop (l : List Int) (x : Int) (hl : l.length ≤ 4611686018427387904) : ∀ (d j : Nat), l.length - j = d → j ≤ l.length → Ev (fun k => cubbylaw09_has.l0 k l x (j : Int)) (decide (x ∈ l.drop j)) := by
  intro d
  induction d with
  | zero =>
    intro j hd hj
    refine Ev.step (f := fun _ => some false) (fun k => by simp only [cubbylaw09_has.l0]; rw [if_neg (by omega)]) ?_
    rw [List.drop_eq_nil_of_le (by omega)]
    exact Ev.now _
  | succ d ih =>
    intro j hd hj
    have hlt : j < l.length := by omega
    rw [drop_cons hlt]
    by_cases e : l[j] = x
    · refine Ev.step (f := fun _ => some true) (fun k => by simp only [cubbylaw09_has.l0]; rw [if_pos (by omega), if_pos (by omega), rd_get hlt, if_pos e]) ?_
      rw [decide_eq_true (by simp [e])]
      exact Ev.now _
    · refine Ev.step (f := fun k => cubbylaw09_has.l0 k l x ((j + 1 : Nat) : Int)) (fun k => by simp only [cubbylaw09_has.l0]; rw [if_pos (by omega), if_pos (by omega), rd_get hlt, if_neg e, wrap_nat (by omega)]) ?_
      have := ih (j + 1) (by omega) (by omega)
      rw [show (decide (x ∈ l[j] :: l.drop (j + 1))) = decide (x ∈ l.drop (j + 1)) by rw [decide_eq_decide, List.mem_cons]; exact ⟨fun h => h.resolve_left (Ne.symm e), Or.inr⟩]
      exact this
theorem lhas_ev (l : List Int) (x : Int) (hl : l.length ≤ 4611686018427387904) : Ev (fun k => cubbylaw09_has.f k l x) (decide (x ∈ l)) := by
  have := lhas_loop l x hl l.length 0 (by omega) (by omega)
  simpa [cubbylaw09_has.f] using this
theorem empty_true (x : List (List SIns)) (a b : Int) : Ev (fun k => cubbylaw09_FlowTurned.j0 k x a b true) true := by
  refine Ev.step (f := fun k => (flow_Order.f k []).bind fun t => some ((t.length : Int) == 0)) (fun k => by simp only [cubbylaw09_FlowTurned.j0, if_true]) ?_
  exact Ev.bind (order_ev (x := []) (by simp) ⟨by simp, by simp⟩) (Ev.now _)
theorem preds_mem {x : List (List SIns)} {k i : Int} (h0 : 0 ≤ i) (h1 : i < x.length) : i ∈ preds x k ↔ k ∈ succs x i := by
  unfold preds
  simp only [List.mem_filter, List.mem_map, List.mem_range, decide_eq_true_eq]
  constructor
  · rintro ⟨_, h⟩
    exact h
  · intro h
    exact ⟨⟨i.toNat, by omega, by omega⟩, h⟩
theorem FlowTurned : FlowTurned.Pure := by
  intro x a b _ ha hb
  refine Ev.rounds (g := fun k => cubbylaw09_FlowTurned.f k x a b) ?_
  obtain ⟨r, hr, hl⟩ := heavy_ev x
  refine Ev.bind hr ?_
  cases r with
  | true => simpa using empty_true x a b
  | false =>
    have h := hl rfl
    have hx := h.1
    simp only [Bool.false_eq_true, if_false]
    by_cases h0 : x.length = 0
    · have e : ((x.length : Int) == 0) = true := by rw [beq_iff_eq]; omega
      rw [e]
      exact empty_true x a b
    · have e : ((x.length : Int) == 0) = false := by rw [beq_eq_false_iff_ne]; omega
      rw [e]
      have ua := bounds_u8 ha
      have ub := bounds_u8 hb
      have wa : Int.tmod (wrap64 a) (x.length : Int) = a % x.length := by
        rw [wrap_id (by omega) (by omega), Int.tmod_eq_emod_of_nonneg (by omega)]
      have wb : Int.tmod (wrap64 b) (x.length : Int) = b % x.length := by
        rw [wrap_id (by omega) (by omega), Int.tmod_eq_emod_of_nonneg (by omega)]
      have i0 := Int.emod_nonneg a (b := (x.length : Int)) (by omega)
      have i1 := Int.emod_lt_of_pos a (b := (x.length : Int)) (by omega)
      generalize a % (x.length : Int) = i at *
      generalize b % (x.length : Int) = j at *
      have hs := succs_len x i
      have hp : (preds x j).length ≤ x.length := by
        unfold preds
        refine Nat.le_trans (List.length_filter_le _ _) ?_
        simp
      have hi0 : 0 ≤ i := i0
      refine Ev.step (f := fun k => (flow_Succs.f k x i).bind fun t1 => (cubbylaw09_has.f k t1 j).bind fun t2 => (flow_Preds.f k x j).bind fun t3 => (cubbylaw09_has.f k t3 i).bind fun t4 => if (t2 == t4) = true then (flow_Succs.f k x i).bind fun t5 => (cubbylaw09_has.f k t5 j).bind fun t6 => (cubbyref09_Succs.f k x i).bind fun t7 => (cubbylaw09_has.f k t7 j).bind fun t8 => some (t6 == t8) else some false) (fun k => ?_) ?_
      · simp only [cubbylaw09_FlowTurned.j0, Bool.false_eq_true, if_false]
        rw [if_neg (by omega), wa, wb]
      · refine Ev.bind (succs_ev x i h.small) (Ev.bind (lhas_ev _ _ (by omega)) (Ev.bind (preds_ev x j h.small (by omega)) (Ev.bind (lhas_ev _ _ (by omega)) ?_)))
        have hpe : decide (i ∈ preds x j) = decide (j ∈ succs x i) := by rw [decide_eq_decide]; exact preds_mem hi0 i1
        rw [hpe]
        simp only [beq_self_eq_true, if_true]
        refine Ev.bind (succs_ev x i h.small) (Ev.bind (lhas_ev _ _ (by omega)) (Ev.bind (refsuccs_ev x i h.small) (Ev.bind (lhas_ev _ _ (by omega)) ?_)))
        simp only [beq_self_eq_true]
        exact Ev.now _
end Go.Proofs.Ytgmklfaknomakaa.RFlowTurned.Pure
