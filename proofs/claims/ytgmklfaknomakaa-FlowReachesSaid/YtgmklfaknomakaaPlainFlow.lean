/-
  What the printed functions of layers 7 and 9 that go through targets and successors answer, as plain functions on lists.
-/
import Derived.Test.YtgmklfaknomakaaPlain
import Derived.Test.YtgmklfaknomakaaQflowSuccs
import Derived.Test.YtgmklfaknomakaaQflowPreds
import Derived.Test.YtgmklfaknomakaaQcubbyref09Succs
import Derived.Test.YtgmklfaknomakaaQcubbyref09Preds
import Derived.Test.YtgmklfaknomakaaQcubbyref09has
import Derived.Test.YtgmklfaknomakaaQslicesContainsintint
namespace Go.Proofs.Ytgmklfaknomakaa.PlainFlow
open Go Go.RowKit Go.Proofs.YtgmklfaknomakaaW.PrintWords Go.Proofs.YtgmklfaknomakaaW.PrintMore Go.Proofs.Ytgmklfaknomakaa.Q Go.Proofs.Ytgmklfaknomakaa.Plain

/-- What an instruction goes to. -/
def targets (x : SIns) : List Int := if x.f0 = 12 then [x.f2] else if x.f0 = 13 then [x.f3, x.f1] else []
/-- One target more, if it is a block's, and new. -/
def addT (n : Nat) (out : List Int) (t : Int) : List Int := if 0 ≤ t ∧ t < n ∧ t ∉ out then out ++ [t] else out
def blockAt (x : List (List SIns)) (i : Int) : List SIns := x.getD i.toNat []
/-- A block's last instruction. -/
def lastOf (b : List SIns) : SIns := b.getD (b.length - 1) zIns
/-- The successors of block i. -/
def succs (x : List (List SIns)) (i : Int) : List Int :=
  if i < 0 ∨ (x.length : Int) ≤ i ∨ blockAt x i = [] then [] else (targets (lastOf (blockAt x i))).foldl (addT x.length) []
def preds (x : List (List SIns)) (i : Int) : List Int := ((List.range x.length).map (fun (k : Nat) => (k : Int))).filter (fun k => decide (i ∈ succs x k))

theorem targets_len (x : SIns) : (targets x).length ≤ 2 := by
  unfold targets
  split
  · simp
  · split <;> simp
theorem addT_len (n : Nat) (out : List Int) (t : Int) : (addT n out t).length ≤ out.length + 1 := by
  unfold addT
  split <;> simp
theorem foldT_len (n : Nat) : ∀ (l out : List Int), (l.foldl (addT n) out).length ≤ out.length + l.length
  | [], _ => by simp
  | t :: l, out => by
    have := foldT_len n l (addT n out t)
    have := addT_len n out t
    simp only [List.foldl_cons, List.length_cons]
    omega
theorem succs_len (x : List (List SIns)) (i : Int) : (succs x i).length ≤ 2 := by
  unfold succs
  split
  · simp
  · have := foldT_len x.length (targets (lastOf (blockAt x i))) []
    have := targets_len (lastOf (blockAt x i))
    simp at *
    omega
theorem addT_mem (n : Nat) (out : List Int) (t : Int) (h : ∀ y ∈ out, 0 ≤ y ∧ y < n) : ∀ y ∈ addT n out t, 0 ≤ y ∧ y < n := by
  unfold addT
  split
  · rename_i hc
    intro y hy
    rcases List.mem_append.1 hy with hy | hy
    · exact h y hy
    · rw [List.mem_singleton.1 hy]
      exact ⟨hc.1, hc.2.1⟩
  · exact h
theorem foldT_mem (n : Nat) : ∀ (l out : List Int), (∀ y ∈ out, 0 ≤ y ∧ y < n) → ∀ y ∈ l.foldl (addT n) out, 0 ≤ y ∧ y < n
  | [], _, h => h
  | t :: l, out, h => foldT_mem n l (addT n out t) (addT_mem n out t h)
theorem succs_mem (x : List (List SIns)) (i : Int) : ∀ y ∈ succs x i, 0 ≤ y ∧ y < x.length := by
  unfold succs
  split
  · simp
  · exact foldT_mem _ _ _ (by simp)

theorem ir_targets (x : SIns) : ir_Targets.f x.f0 x.f1 x.f2 x.f3 x.f4 x.f5 = some (targets x) := by
  unfold ir_Targets.f targets
  split
  · rfl
  · split <;> rfl
theorem ref_targets (x : SIns) : cubbyref07_Targets.f x.f0 x.f1 x.f2 x.f3 x.f4 x.f5 = some (targets x) := by
  unfold cubbyref07_Targets.f targets
  simp only [Option.bind_some]
  split
  · rw [if_pos (by simp)]; rfl
  · split
    · rw [if_pos (by simp)]; rfl
    · rfl

theorem has_loop (l : List Int) (x : Int) (hl : l.length ≤ 4611686018427387904) : ∀ (d j : Nat), l.length - j = d → j ≤ l.length → Ev (fun k => cubbyref09_has.l0 k l x (j : Int)) (decide (x ∈ l.drop j)) := by
  intro d
  induction d with
  | zero =>
    intro j hd hj
    refine Ev.step (f := fun _ => some false) (fun k => by simp only [cubbyref09_has.l0]; rw [if_neg (by omega)]) ?_
    rw [List.drop_eq_nil_of_le (by omega)]
    exact Ev.now _
  | succ d ih =>
    intro j hd hj
    have hlt : j < l.length := by omega
    rw [drop_cons hlt]
    by_cases e : l[j] = x
    · refine Ev.step (f := fun _ => some true) (fun k => by simp only [cubbyref09_has.l0]; rw [if_pos (by omega), if_pos (by omega), rd_get hlt, if_pos e]) ?_
      rw [decide_eq_true (by simp [e])]
      exact Ev.now _
    · refine Ev.step (f := fun k => cubbyref09_has.l0 k l x ((j + 1 : Nat) : Int)) (fun k => by simp only [cubbyref09_has.l0]; rw [if_pos (by omega), if_pos (by omega), rd_get hlt, if_neg e, wrap_nat (by omega)]) ?_
      have := ih (j + 1) (by omega) (by omega)
      rw [show (decide (x ∈ l[j] :: l.drop (j + 1))) = decide (x ∈ l.drop (j + 1)) by rw [decide_eq_decide, List.mem_cons]; exact ⟨fun h => h.resolve_left (Ne.symm e), Or.inr⟩]
      exact this
theorem has_ev (l : List Int) (x : Int) (hl : l.length ≤ 4611686018427387904) : Ev (fun k => cubbyref09_has.f k l x) (decide (x ∈ l)) := by
  have := has_loop l x hl l.length 0 (by omega) (by omega)
  simpa [cubbyref09_has.f] using this
theorem index_loop (l : List Int) (x : Int) (hl : l.length ≤ 4611686018427387904) : ∀ (d j : Nat), l.length - j = d → j ≤ l.length → ∃ r, Ev (fun k => slices_Index_int_int.l0 k l x (l.length : Int) (j : Int)) r ∧ (0 ≤ r ↔ x ∈ l.drop j) := by
  intro d
  induction d with
  | zero =>
    intro j hd hj
    refine ⟨-1, Ev.step (f := fun _ => some (-1)) (fun k => by simp only [slices_Index_int_int.l0]; rw [if_neg (by omega)]) (Ev.now _), ?_⟩
    rw [List.drop_eq_nil_of_le (by omega)]
    simp
  | succ d ih =>
    intro j hd hj
    have hlt : j < l.length := by omega
    rw [drop_cons hlt]
    by_cases e : x = l[j]
    · refine ⟨j, Ev.step (f := fun _ => some (j : Int)) (fun k => by simp only [slices_Index_int_int.l0]; rw [if_pos (by omega), if_pos (by omega), if_pos (by omega), rd_get hlt, if_pos e]) (Ev.now _), ?_⟩
      exact ⟨fun _ => by rw [e]; exact List.mem_cons_self, fun _ => by omega⟩
    · obtain ⟨r, hr, hx⟩ := ih (j + 1) (by omega) (by omega)
      refine ⟨r, Ev.step (f := fun k => slices_Index_int_int.l0 k l x (l.length : Int) ((j + 1 : Nat) : Int)) (fun k => by simp only [slices_Index_int_int.l0]; rw [if_pos (by omega), if_pos (by omega), if_pos (by omega), rd_get hlt, if_neg e, wrap_nat (by omega)]) hr, ?_⟩
      rw [hx, List.mem_cons]
      exact ⟨Or.inr, fun h => h.resolve_left e⟩
theorem contains_ev (l : List Int) (x : Int) (hl : l.length ≤ 4611686018427387904) : Ev (fun k => slices_Contains_int_int.f k l x) (decide (x ∈ l)) := by
  obtain ⟨r, hr, hx⟩ := index_loop l x hl l.length 0 (by omega) (by omega)
  refine Ev.bind (g := fun k => slices_Index_int_int.f k l x) (f := fun _ t => some (decide (t ≥ 0))) hr ?_
  rw [List.drop_zero] at hx
  rw [show decide (x ∈ l) = decide (r ≥ 0) from by rw [decide_eq_decide]; exact hx.symm]
  exact Ev.now _

theorem succs_loop (x : List (List SIns)) (l : List Int) (hl : l.length ≤ 1000) : ∀ (d j : Nat) (out : List Int), l.length - j = d → j ≤ l.length → out.length + d ≤ 1000 →
    Ev (fun k => flow_Succs.l0 k x out l (l.length : Int) (j : Int)) ((l.drop j).foldl (addT x.length) out) := by
  intro d
  induction d with
  | zero =>
    intro j out hd hj ho
    refine Ev.step (f := fun _ => some out) (fun k => by simp only [flow_Succs.l0]; rw [if_neg (by omega)]) ?_
    rw [List.drop_eq_nil_of_le (by omega)]
    exact Ev.now _
  | succ d ih =>
    intro j out hd hj ho
    have hlt : j < l.length := by omega
    rw [drop_cons hlt, List.foldl_cons]
    have hs : ∀ out', out'.length ≤ out.length + 1 → Ev (fun k => flow_Succs.l0 k x out' l (l.length : Int) ((j + 1 : Nat) : Int)) ((l.drop (j + 1)).foldl (addT x.length) out') := fun out' h => ih (j + 1) out' (by omega) (by omega) (by omega)
    by_cases h0 : 0 ≤ l[j]
    · by_cases h1 : l[j] < x.length
      · have hc := contains_ev out l[j] (by omega)
        refine Ev.step (f := fun k => (slices_Contains_int_int.f k out l[j]).bind fun t => if t = true then flow_Succs.l0 k x out l (l.length : Int) ((j + 1 : Nat) : Int) else if out.length < 17592186044416 then flow_Succs.l0 k x (out ++ [l[j]]) l (l.length : Int) ((j + 1 : Nat) : Int) else none) (fun k => by
          simp only [flow_Succs.l0]; rw [if_pos (by omega), if_pos (by omega), if_pos (by omega), rd_get hlt, if_pos h0, if_pos h1, wrap_nat (by omega)]) ?_
        refine Ev.bind hc ?_
        by_cases hm : l[j] ∈ out
        · rw [show addT x.length out l[j] = out by unfold addT; rw [if_neg (by simp [hm])]]
          simp only [hm, decide_true, if_true]
          exact hs out (by omega)
        · rw [show addT x.length out l[j] = out ++ [l[j]] by unfold addT; rw [if_pos ⟨h0, h1, hm⟩]]
          simp only [hm, decide_false, Bool.false_eq_true, if_false, show out.length < 17592186044416 from by omega, if_true]
          exact hs _ (by simp)
      · rw [show addT x.length out l[j] = out by unfold addT; rw [if_neg (by omega)]]
        refine Ev.step (f := fun k => flow_Succs.l0 k x out l (l.length : Int) ((j + 1 : Nat) : Int)) (fun k => by
          simp only [flow_Succs.l0]; rw [if_pos (by omega), if_pos (by omega), if_pos (by omega), rd_get hlt, if_pos h0, if_neg h1, wrap_nat (by omega)]) (hs out (by omega))
    · rw [show addT x.length out l[j] = out by unfold addT; rw [if_neg (by omega)]]
      refine Ev.step (f := fun k => flow_Succs.l0 k x out l (l.length : Int) ((j + 1 : Nat) : Int)) (fun k => by
          simp only [flow_Succs.l0]; rw [if_pos (by omega), if_pos (by omega), if_pos (by omega), rd_get hlt, if_neg (by omega), wrap_nat (by omega)]) (hs out (by omega))
theorem refsuccs_loop (x : List (List SIns)) (l : List Int) (hl : l.length ≤ 1000) : ∀ (d j : Nat) (out : List Int), l.length - j = d → j ≤ l.length → out.length + d ≤ 1000 →
    Ev (fun k => cubbyref09_Succs.l0 k x out l (j : Int)) ((l.drop j).foldl (addT x.length) out) := by
  intro d
  induction d with
  | zero =>
    intro j out hd hj ho
    refine Ev.step (f := fun _ => some out) (fun k => by simp only [cubbyref09_Succs.l0]; rw [if_neg (by omega)]) ?_
    rw [List.drop_eq_nil_of_le (by omega)]
    exact Ev.now _
  | succ d ih =>
    intro j out hd hj ho
    have hlt : j < l.length := by omega
    rw [drop_cons hlt, List.foldl_cons]
    have hs : ∀ out', out'.length ≤ out.length + 1 → Ev (fun k => cubbyref09_Succs.l0 k x out' l ((j + 1 : Nat) : Int)) ((l.drop (j + 1)).foldl (addT x.length) out') := fun out' h => ih (j + 1) out' (by omega) (by omega) (by omega)
    by_cases h0 : 0 ≤ l[j]
    · by_cases h1 : l[j] < x.length
      · have hc := has_ev out l[j] (by omega)
        refine Ev.step (f := fun k => (cubbyref09_has.f k out l[j]).bind fun t => if t = true then cubbyref09_Succs.l0 k x out l ((j + 1 : Nat) : Int) else if out.length < 17592186044416 then cubbyref09_Succs.l0 k x (out ++ [l[j]]) l ((j + 1 : Nat) : Int) else none) (fun k => by
          simp only [cubbyref09_Succs.l0]; rw [if_pos (by omega), if_pos (by omega), rd_get hlt, if_pos h0, if_pos h1, wrap_nat (by omega)]) ?_
        refine Ev.bind hc ?_
        by_cases hm : l[j] ∈ out
        · rw [show addT x.length out l[j] = out by unfold addT; rw [if_neg (by simp [hm])]]
          simp only [hm, decide_true, if_true]
          exact hs out (by omega)
        · rw [show addT x.length out l[j] = out ++ [l[j]] by unfold addT; rw [if_pos ⟨h0, h1, hm⟩]]
          simp only [hm, decide_false, Bool.false_eq_true, if_false, show out.length < 17592186044416 from by omega, if_true]
          exact hs _ (by simp)
      · rw [show addT x.length out l[j] = out by unfold addT; rw [if_neg (by omega)]]
        refine Ev.step (f := fun k => cubbyref09_Succs.l0 k x out l ((j + 1 : Nat) : Int)) (fun k => by
          simp only [cubbyref09_Succs.l0]; rw [if_pos (by omega), if_pos (by omega), rd_get hlt, if_pos h0, if_neg h1, wrap_nat (by omega)]) (hs out (by omega))
    · rw [show addT x.length out l[j] = out by unfold addT; rw [if_neg (by omega)]]
      refine Ev.step (f := fun k => cubbyref09_Succs.l0 k x out l ((j + 1 : Nat) : Int)) (fun k => by
          simp only [cubbyref09_Succs.l0]; rw [if_pos (by omega), if_pos (by omega), rd_get hlt, if_neg (by omega), wrap_nat (by omega)]) (hs out (by omega))

theorem rd_last {b : List SIns} (hb : b ≠ []) (hl : b.length ≤ 4611686018427387904) : (0 ≤ wrap64 ((b.length : Int) - 1)) ∧ (wrap64 ((b.length : Int) - 1) < b.length) ∧ rd_TIns b (wrap64 ((b.length : Int) - 1)) = lastOf b := by
  have h0 : 0 < b.length := List.length_pos_iff.2 hb
  rw [wrap_pred h0 hl]
  refine ⟨by omega, by omega, ?_⟩
  rfl

/-- Every block is short enough for an int. -/
def Small (x : List (List SIns)) : Prop := x.length ≤ 4611686018427387904 ∧ ∀ b ∈ x, b.length ≤ 4611686018427387904
theorem small_at {x : List (List SIns)} (h : Small x) (i : Int) : (blockAt x i).length ≤ 4611686018427387904 := by
  unfold blockAt
  rw [List.getD_eq_getElem?_getD]
  cases e : x[i.toNat]? with
  | none => simp
  | some b => exact h.2 b (List.mem_of_getElem? e)

theorem succs_ev (x : List (List SIns)) (i : Int) (h : Small x) : Ev (fun k => flow_Succs.f k x i) (succs x i) := by
  have nil : Ev (fun k => flow_Succs.j0 k x i true) ([] : List Int) := Ev.step (f := fun _ => some []) (fun k => by simp only [flow_Succs.j0, if_true]) (Ev.now _)
  by_cases h0 : i < 0
  · refine Ev.congr (f := fun k => flow_Succs.j0 k x i true) (fun k => by unfold flow_Succs.f; rw [if_pos h0]) ?_
    rw [show succs x i = [] by unfold succs; rw [if_pos (Or.inl h0)]]
    exact nil
  · by_cases h1 : i < x.length
    · have hb := small_at h i
      by_cases h2 : blockAt x i = []
      · refine Ev.congr (f := fun k => flow_Succs.j0 k x i true) (fun k => by
          unfold flow_Succs.f; rw [if_neg h0, if_neg (by omega), if_pos (by omega), if_pos h1]
          rw [show (((rd_LIns x i).length : Int) == 0) = true from by rw [show rd_LIns x i = [] from h2]; rfl]) ?_
        rw [show succs x i = [] by unfold succs; rw [if_pos (Or.inr (Or.inr h2))]]
        exact nil
      · obtain ⟨p1, p2, p3⟩ := rd_last h2 hb
        refine Ev.congr (f := fun k => flow_Succs.j0 k x i false) (fun k => by
          unfold flow_Succs.f; rw [if_neg h0, if_neg (by omega), if_pos (by omega), if_pos h1]
          rw [show (((rd_LIns x i).length : Int) == 0) = false from by
            rw [beq_eq_false_iff_ne]
            intro e
            exact h2 (List.eq_nil_of_length_eq_zero (by exact Int.ofNat.inj e))]) ?_
        rw [show succs x i = (targets (lastOf (blockAt x i))).foldl (addT x.length) [] by unfold succs; rw [if_neg (by simp only [h2, or_false]; omega)]]
        have ht := targets_len (lastOf (blockAt x i))
        refine Ev.step (f := fun k => flow_Succs.l0 k x [] (targets (lastOf (blockAt x i))) ((targets (lastOf (blockAt x i))).length : Int) 0) (fun k => by
          simp only [flow_Succs.j0]
          rw [if_neg (by simp), if_pos (by omega), if_pos h1]
          show (if 0 ≤ wrap64 (((blockAt x i).length : Int) - 1) then _ else _) = _
          rw [if_pos p1]
          show (if wrap64 (((blockAt x i).length : Int) - 1) < ((blockAt x i).length : Int) then _ else _) = _
          rw [if_pos p2]
          show (ir_Targets.f (rd_TIns (blockAt x i) (wrap64 (((blockAt x i).length : Int) - 1))).f0 (rd_TIns (blockAt x i) (wrap64 (((blockAt x i).length : Int) - 1))).f1 (rd_TIns (blockAt x i) (wrap64 (((blockAt x i).length : Int) - 1))).f2 (rd_TIns (blockAt x i) (wrap64 (((blockAt x i).length : Int) - 1))).f3 (rd_TIns (blockAt x i) (wrap64 (((blockAt x i).length : Int) - 1))).f4 (rd_TIns (blockAt x i) (wrap64 (((blockAt x i).length : Int) - 1))).f5).bind _ = _
          rw [p3, ir_targets]
          rfl) ?_
        have := succs_loop x (targets (lastOf (blockAt x i))) (by omega) _ 0 [] rfl (by omega) (by simp; omega)
        simpa using this
    · refine Ev.congr (f := fun k => flow_Succs.j0 k x i true) (fun k => by unfold flow_Succs.f; rw [if_neg h0, if_pos (by omega)]) ?_
      rw [show succs x i = [] by unfold succs; rw [if_pos (Or.inr (Or.inl (by omega)))]]
      exact nil
theorem refsuccs_ev (x : List (List SIns)) (i : Int) (h : Small x) : Ev (fun k => cubbyref09_Succs.f k x i) (succs x i) := by
  have nil : Ev (fun k => cubbyref09_Succs.j0 k x i [] true) ([] : List Int) := Ev.step (f := fun _ => some []) (fun k => by simp only [cubbyref09_Succs.j0, if_true]) (Ev.now _)
  by_cases h0 : i < 0
  · refine Ev.congr (f := fun k => cubbyref09_Succs.j0 k x i [] true) (fun k => by unfold cubbyref09_Succs.f; simp only [Option.bind_some]; rw [if_pos h0]) ?_
    rw [show succs x i = [] by unfold succs; rw [if_pos (Or.inl h0)]]
    exact nil
  · by_cases h1 : i < x.length
    · have hb := small_at h i
      by_cases h2 : blockAt x i = []
      · refine Ev.congr (f := fun k => cubbyref09_Succs.j0 k x i [] true) (fun k => by
          unfold cubbyref09_Succs.f; simp only [Option.bind_some]; rw [if_neg h0, if_neg (by omega), if_pos (by omega), if_pos h1]
          rw [show (((rd_LIns x i).length : Int) == 0) = true from by rw [show rd_LIns x i = [] from h2]; rfl]) ?_
        rw [show succs x i = [] by unfold succs; rw [if_pos (Or.inr (Or.inr h2))]]
        exact nil
      · obtain ⟨p1, p2, p3⟩ := rd_last h2 hb
        refine Ev.congr (f := fun k => cubbyref09_Succs.j0 k x i [] false) (fun k => by
          unfold cubbyref09_Succs.f; simp only [Option.bind_some]; rw [if_neg h0, if_neg (by omega), if_pos (by omega), if_pos h1]
          rw [show (((rd_LIns x i).length : Int) == 0) = false from by
            rw [beq_eq_false_iff_ne]
            intro e
            exact h2 (List.eq_nil_of_length_eq_zero (by exact Int.ofNat.inj e))]) ?_
        rw [show succs x i = (targets (lastOf (blockAt x i))).foldl (addT x.length) [] by unfold succs; rw [if_neg (by simp only [h2, or_false]; omega)]]
        have ht := targets_len (lastOf (blockAt x i))
        refine Ev.step (f := fun k => cubbyref09_Succs.l0 k x [] (targets (lastOf (blockAt x i))) 0) (fun k => by
          simp only [cubbyref09_Succs.j0]
          rw [if_neg (by simp), if_pos (by omega), if_pos h1]
          show (if 0 ≤ wrap64 (((blockAt x i).length : Int) - 1) then _ else _) = _
          rw [if_pos p1]
          show (if wrap64 (((blockAt x i).length : Int) - 1) < ((blockAt x i).length : Int) then _ else _) = _
          rw [if_pos p2]
          show (cubbyref07_Targets.f (rd_TIns (blockAt x i) (wrap64 (((blockAt x i).length : Int) - 1))).f0 (rd_TIns (blockAt x i) (wrap64 (((blockAt x i).length : Int) - 1))).f1 (rd_TIns (blockAt x i) (wrap64 (((blockAt x i).length : Int) - 1))).f2 (rd_TIns (blockAt x i) (wrap64 (((blockAt x i).length : Int) - 1))).f3 (rd_TIns (blockAt x i) (wrap64 (((blockAt x i).length : Int) - 1))).f4 (rd_TIns (blockAt x i) (wrap64 (((blockAt x i).length : Int) - 1))).f5).bind _ = _
          rw [p3, ref_targets]
          rfl) ?_
        have := refsuccs_loop x (targets (lastOf (blockAt x i))) (by omega) _ 0 [] rfl (by omega) (by simp; omega)
        simpa using this
    · refine Ev.congr (f := fun k => cubbyref09_Succs.j0 k x i [] true) (fun k => by unfold cubbyref09_Succs.f; simp only [Option.bind_some]; rw [if_neg h0, if_pos (by omega)]) ?_
      rw [show succs x i = [] by unfold succs; rw [if_pos (Or.inr (Or.inl (by omega)))]]
      exact nil

/-- The blocks from j on that go to i. -/
def predsFrom (x : List (List SIns)) (i : Int) (j : Nat) : List Int := (((List.range x.length).drop j).map (fun (k : Nat) => (k : Int))).filter (fun k => decide (i ∈ succs x k))
theorem predsFrom_next {x : List (List SIns)} {i : Int} {j : Nat} (h : j < x.length) : predsFrom x i j = if i ∈ succs x j then (j : Int) :: predsFrom x i (j + 1) else predsFrom x i (j + 1) := by
  unfold predsFrom
  rw [drop_cons (l := List.range x.length) (j := j) (by simpa using h)]
  simp only [List.getElem_range, List.map_cons, List.filter_cons, decide_eq_true_eq]
theorem predsFrom_end {x : List (List SIns)} {i : Int} {j : Nat} (h : x.length ≤ j) : predsFrom x i j = [] := by
  unfold predsFrom
  rw [List.drop_eq_nil_of_le (by simpa using h)]
  rfl
theorem preds_loop (x : List (List SIns)) (i : Int) (h : Small x) (hx : x.length ≤ 1000000) : ∀ (d j : Nat) (out : List Int), x.length - j = d → j ≤ x.length → out.length + d ≤ 2000000 →
    Ev (fun k => flow_Preds.l0 k x i out (x.length : Int) (j : Int)) (out ++ predsFrom x i j) := by
  intro d
  induction d with
  | zero =>
    intro j out hd hj ho
    refine Ev.step (f := fun _ => some out) (fun k => by simp only [flow_Preds.l0]; rw [if_neg (by omega)]) ?_
    rw [predsFrom_end (by omega), List.append_nil]
    exact Ev.now _
  | succ d ih =>
    intro j out hd hj ho
    have hlt : j < x.length := by omega
    refine Ev.step (f := fun k => (flow_Succs.f k x (j : Int)).bind fun t => (slices_Contains_int_int.f k t i).bind fun b => if b = true then (if out.length < 17592186044416 then flow_Preds.l0 k x i (out ++ [(j : Int)]) (x.length : Int) ((j + 1 : Nat) : Int) else none) else flow_Preds.l0 k x i out (x.length : Int) ((j + 1 : Nat) : Int)) (fun k => by
      simp only [flow_Preds.l0]; rw [if_pos (by omega), wrap_nat (by omega)]) ?_
    have hs := succs_len x j
    refine Ev.bind (succs_ev x j h) (Ev.bind (contains_ev _ _ (by omega)) ?_)
    rw [predsFrom_next hlt]
    by_cases hm : i ∈ succs x j
    · simp only [hm, decide_true, if_true, show out.length < 17592186044416 from by omega]
      have := ih (j + 1) (out ++ [(j : Int)]) (by omega) (by omega) (by simp; omega)
      simpa using this
    · simp only [hm, decide_false, Bool.false_eq_true, if_false]
      exact ih (j + 1) out (by omega) (by omega) (by omega)
theorem refpreds_loop (x : List (List SIns)) (i : Int) (h : Small x) (hx : x.length ≤ 1000000) : ∀ (d j : Nat) (out : List Int), x.length - j = d → j ≤ x.length → out.length + d ≤ 2000000 →
    Ev (fun k => cubbyref09_Preds.l0 k x i out (j : Int)) (out ++ predsFrom x i j) := by
  intro d
  induction d with
  | zero =>
    intro j out hd hj ho
    refine Ev.step (f := fun _ => some out) (fun k => by simp only [cubbyref09_Preds.l0]; rw [if_neg (by omega)]) ?_
    rw [predsFrom_end (by omega), List.append_nil]
    exact Ev.now _
  | succ d ih =>
    intro j out hd hj ho
    have hlt : j < x.length := by omega
    refine Ev.step (f := fun k => (cubbyref09_Succs.f k x (j : Int)).bind fun t => (cubbyref09_has.f k t i).bind fun b => if b = true then (if out.length < 17592186044416 then cubbyref09_Preds.l0 k x i (out ++ [(j : Int)]) ((j + 1 : Nat) : Int) else none) else cubbyref09_Preds.l0 k x i out ((j + 1 : Nat) : Int)) (fun k => by
      simp only [cubbyref09_Preds.l0]; rw [if_pos (by omega), wrap_nat (by omega)]) ?_
    have hs := succs_len x j
    refine Ev.bind (refsuccs_ev x j h) (Ev.bind (has_ev _ _ (by omega)) ?_)
    rw [predsFrom_next hlt]
    by_cases hm : i ∈ succs x j
    · simp only [hm, decide_true, if_true, show out.length < 17592186044416 from by omega]
      have := ih (j + 1) (out ++ [(j : Int)]) (by omega) (by omega) (by simp; omega)
      simpa using this
    · simp only [hm, decide_false, Bool.false_eq_true, if_false]
      exact ih (j + 1) out (by omega) (by omega) (by omega)
theorem preds_ev (x : List (List SIns)) (i : Int) (h : Small x) (hx : x.length ≤ 1000000) : Ev (fun k => flow_Preds.f k x i) (preds x i) := by
  have := preds_loop x i h hx _ 0 [] rfl (by omega) (by simp; omega)
  simpa [flow_Preds.f, predsFrom, preds] using this
theorem refpreds_ev (x : List (List SIns)) (i : Int) (h : Small x) (hx : x.length ≤ 1000000) : Ev (fun k => cubbyref09_Preds.f k x i) (preds x i) := by
  have := refpreds_loop x i h hx _ 0 [] rfl (by omega) (by simp; omega)
  simpa [cubbyref09_Preds.f, predsFrom, preds] using this
end Go.Proofs.Ytgmklfaknomakaa.PlainFlow
