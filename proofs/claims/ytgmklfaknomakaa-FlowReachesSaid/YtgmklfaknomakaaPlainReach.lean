/-
  Which blocks are reached: both texts' answers are one list of bits.
-/
import Derived.Test.YtgmklfaknomakaaPlainOrder
namespace Go.Proofs.Ytgmklfaknomakaa.PlainReach
open Go Go.RowKit Go.Proofs.YtgmklfaknomakaaW.PrintWords Go.Proofs.YtgmklfaknomakaaW.PrintMore Go.Proofs.Ytgmklfaknomakaa.Q Go.Proofs.Ytgmklfaknomakaa.Plain Go.Proofs.Ytgmklfaknomakaa.PlainFlow Go.Proofs.Ytgmklfaknomakaa.Dfs Go.Proofs.Ytgmklfaknomakaa.PlainOrder
set_option linter.unusedVariables false
set_option linter.unusedSimpArgs false

def T (b : List Bool) (v : Int) : Prop := 0 ≤ v ∧ b[v.toNat]? = some true
theorem T_set {b : List Bool} {k v : Int} (h0 : 0 ≤ k) (h1 : k < b.length) : T (b.set k.toNat true) v ↔ T b v ∨ v = k := by
  unfold T
  rw [List.getElem?_set]
  by_cases e : k.toNat = v.toNat
  · rw [if_pos e, if_pos (by omega)]
    constructor
    · rintro ⟨h, _⟩
      exact .inr (by omega)
    · rintro (h | rfl)
      · exact ⟨h.1, rfl⟩
      · exact ⟨h0, rfl⟩
  · rw [if_neg e]
    constructor
    · exact .inl
    · rintro (h | rfl)
      · exact h
      · exact absurd rfl e
theorem T_lt {b : List Bool} {v : Int} (h : T b v) : v < b.length := by
  have := (List.getElem?_eq_some_iff.1 h.2).1
  have := h.1
  omega
theorem T_rd {b : List Bool} {v : Int} (h0 : 0 ≤ v) : rdOf false b v = true ↔ T b v := by
  show b.getD v.toNat false = true ↔ _
  rw [List.getD_eq_getElem?_getD]
  unfold T
  cases b[v.toNat]? <;> simp [h0]
theorem T_bits {n : Nat} {met : List Int} {v : Int} : T (bitsOf n met) v ↔ (0 ≤ v ∧ v < n) ∧ v ∈ met := by
  constructor
  · intro h
    have h1 := T_lt h
    rw [bits_len] at h1
    have h2 := h.2
    have h0 := h.1
    rw [bits_get (by omega)] at h2
    have : ((v.toNat : Nat) : Int) = v := by omega
    rw [this] at h2
    exact ⟨⟨h0, h1⟩, by simpa using h2⟩
  · rintro ⟨⟨h0, h1⟩, h2⟩
    refine ⟨h0, ?_⟩
    rw [bits_get (by omega)]
    have : ((v.toNat : Nat) : Int) = v := by omega
    rw [this]
    simp [h2]
theorem bits_ext {n : Nat} {b : List Bool} {met : List Int} (hl : b.length = n) (h : ∀ v : Int, 0 ≤ v → v < n → (T b v ↔ v ∈ met)) : b = bitsOf n met := by
  apply List.ext_getElem?
  intro i
  by_cases hi : i < n
  · rw [bits_get hi]
    have hv := h i (by omega) (by omega)
    unfold T at hv
    rw [Int.toNat_natCast] at hv
    rw [List.getElem?_eq_getElem (by omega)] at hv ⊢
    cases e : b[i] <;> simp_all
  · rw [List.getElem?_eq_none (by omega), List.getElem?_eq_none (by rw [bits_len]; omega)]

theorem reach_loop (l : List Int) (hl : l.length ≤ 1000000) : ∀ (d j : Nat) (b : List Bool), l.length - j = d → j ≤ l.length → (∀ v ∈ l, 0 ≤ v ∧ v < b.length) →
    ∃ b', Ev (fun k => flow_Reach.l0 k b l (l.length : Int) (j : Int)) b' ∧ b'.length = b.length ∧ ∀ v, T b' v ↔ T b v ∨ v ∈ l.drop j := by
  intro d
  induction d with
  | zero =>
    intro j b hd hj hr
    refine ⟨b, Ev.step (f := fun _ => some b) (fun k => by simp only [flow_Reach.l0]; rw [if_neg (by omega)]) (Ev.now _), rfl, fun v => ?_⟩
    rw [List.drop_eq_nil_of_le (by omega)]
    simp
  | succ d ih =>
    intro j b hd hj hr
    have hlt : j < l.length := by omega
    obtain ⟨k0, k1⟩ := hr l[j] (List.getElem_mem hlt)
    obtain ⟨b', h1, h2, h3⟩ := ih (j + 1) (b.set l[j].toNat true) (by omega) (by omega) (by simpa using hr)
    refine ⟨b', Ev.step (f := fun k => flow_Reach.l0 k (b.set l[j].toNat true) l (l.length : Int) ((j + 1 : Nat) : Int)) (fun k => ?_) h1, by simpa using h2, fun v => ?_⟩
    · simp only [flow_Reach.l0]
      rw [if_pos (by omega), if_pos (by omega), if_pos (by omega), rd_get hlt, if_pos k0, if_pos k1, wrap_nat (by omega)]
    · rw [h3 v, T_set k0 k1, drop_cons hlt, List.mem_cons, or_assoc]
theorem T_false {n : Nat} {v : Int} : ¬ T (List.replicate n false) v := by
  rintro ⟨_, h⟩
  rw [List.getElem?_replicate] at h
  split at h <;> simp at h
/-- The bits of what is reached. -/
def reached (x : List (List SIns)) : List Bool := bitsOf x.length (order (succs x) x.length)
theorem reach_ev {x : List (List SIns)} (hx : x.length ≤ 1000000) (hs : Small x) : Ev (fun k => flow_Reach.f k x) (reached x) := by
  have hl := order_len x
  obtain ⟨b', h1, h2, h3⟩ := reach_loop (order (succs x) x.length) (by omega) _ 0 (List.replicate x.length false) rfl (by omega) (by simpa using order_rng rng)
  have e : b' = reached x := bits_ext (by simpa using h2) (fun v h0 h1 => by
    rw [h3 v, List.drop_zero]
    simp [T_false])
  subst e
  refine Ev.congr (f := fun k => (flow_Order.f k x).bind fun t => flow_Reach.l0 k (List.replicate x.length false) t (t.length : Int) 0) (fun k => by unfold flow_Reach.f; rw [if_pos (by omega), if_pos (by omega), Int.toNat_natCast]) ?_
  exact Ev.bind (order_ev hx hs) h1

section
variable {x : List (List SIns)} (hx : x.length ≤ 1000000) (hs : Small x)
include hx

omit hx in
/-- Row i's successors, if it is reached. -/
theorem refreach_l2 (a i : Int) (l : List Int) (hl : l.length ≤ 1000) (hi0 : 0 ≤ i) (hi : i < x.length) (hlr : ∀ v ∈ l, 0 ≤ v ∧ v < x.length) : ∀ (d j : Nat) (b : List Bool), l.length - j = d → j ≤ l.length → b.length = x.length →
    ∃ b', b'.length = x.length ∧ (∀ v, T b' v ↔ T b v ∨ (T b i ∧ v ∈ l.drop j)) ∧ ∀ r, Ev (fun k => cubbyref09_Reach.l1 k x b' a (wrap64 (i + 1))) r → Ev (fun k => cubbyref09_Reach.l2 k x b a i l (j : Int)) r := by
  intro d
  induction d with
  | zero =>
    intro j b hd hj hb
    refine ⟨b, hb, fun v => ?_, fun r hr => Ev.step (fun k => ?_) hr⟩
    · rw [List.drop_eq_nil_of_le (by omega)]
      simp
    · simp only [cubbyref09_Reach.l2]
      rw [if_neg (by omega)]
  | succ d ih =>
    intro j b hd hj hb
    have hlt : j < l.length := by omega
    obtain ⟨k0, k1⟩ := hlr l[j] (List.getElem_mem hlt)
    by_cases ht : T b i
    · obtain ⟨b', h1, h2, h3⟩ := ih (j + 1) (b.set l[j].toNat true) (by omega) (by omega) (by simpa using hb)
      refine ⟨b', h1, fun v => ?_, fun r hr => Ev.step (fun k => ?_) (h3 r hr)⟩
      · rw [h2 v, T_set k0 (by omega), T_set k0 (by omega), drop_cons hlt, List.mem_cons]
        constructor
        · rintro ((h | h) | ⟨_, h⟩)
          · exact .inl h
          · exact .inr ⟨ht, .inl h⟩
          · exact .inr ⟨ht, .inr h⟩
        · rintro (h | ⟨_, h | h⟩)
          · exact .inl (.inl h)
          · exact .inl (.inr h)
          · exact .inr ⟨.inl ht, h⟩
      · simp only [cubbyref09_Reach.l2]
        rw [if_pos (by omega), if_pos hi0, if_pos (by omega), if_pos ((T_rd hi0).2 ht), if_pos (by omega), rd_get hlt, if_pos k0, if_pos (by omega), wrap_nat (by omega)]
    · refine ⟨b, hb, fun v => ?_, fun r hr => Ev.step (fun k => ?_) hr⟩
      · simp [ht]
      · simp only [cubbyref09_Reach.l2]
        rw [if_pos (by omega), if_pos hi0, if_pos (by omega), if_neg (fun h => ht ((T_rd hi0).1 h))]
include hs
/-- The rows from j on. -/
theorem refreach_l1 (a : Nat) (ha : a < x.length) : ∀ (d j : Nat) (b : List Bool), x.length - j = d → j ≤ x.length → b.length = x.length →
    ∃ b', b'.length = x.length ∧ (∀ v, T b v → T b' v) ∧ (∀ i v : Int, (j : Int) ≤ i → i < x.length → T b i → v ∈ succs x i → T b' v) ∧ ((∀ v, T b v → From (succs x) 0 v) → ∀ v, T b' v → From (succs x) 0 v) ∧
      ∀ r, Ev (fun k => cubbyref09_Reach.l0 k x b' ((a + 1 : Nat) : Int)) r → Ev (fun k => cubbyref09_Reach.l1 k x b (a : Int) (j : Int)) r := by
  intro d
  induction d with
  | zero =>
    intro j b hd hj hb
    refine ⟨b, hb, fun _ h => h, fun i v h h' => by omega, fun h => h, fun r hr => Ev.step (fun k => ?_) hr⟩
    simp only [cubbyref09_Reach.l1]
    rw [if_neg (by omega), wrap_nat (by omega)]
  | succ d ih =>
    intro j b hd hj hb
    have hlt : j < x.length := by omega
    have hl := succs_len x j
    obtain ⟨b1, g1, g2, g3⟩ := refreach_l2 (a : Int) (j : Int) (succs x j) (by omega) (by omega) (by omega) (succs_mem x j) _ 0 b rfl (by omega) hb
    obtain ⟨b', h1, h2, h3, h4, h5⟩ := ih (j + 1) b1 (by omega) (by omega) g1
    rw [List.drop_zero] at g2
    refine ⟨b', h1, fun v h => h2 v ((g2 v).2 (.inl h)), fun i v hi hi' ht hv => ?_, fun H => h4 (fun v hv => ?_), fun r hr => ?_⟩
    · by_cases e : i = j
      · subst e
        exact h2 v ((g2 v).2 (.inr ⟨ht, hv⟩))
      · exact h3 i v (by omega) hi' ((g2 i).2 (.inl ht)) hv
    · rcases (g2 v).1 hv with h | ⟨h, h'⟩
      · exact H v h
      · exact .there (H _ h) h'
    · refine Ev.step (f := fun k => (cubbyref09_Succs.f k x (j : Int)).bind fun t => cubbyref09_Reach.l2 k x b (a : Int) (j : Int) t 0) (fun k => ?_) ?_
      · simp only [cubbyref09_Reach.l1]
        rw [if_pos (by omega)]
      · refine Ev.bind (refsuccs_ev x j hs) (g3 r ?_)
        rw [wrap_nat (by omega)]
        exact h5 r hr
/-- How many are reached. -/
def cnt (n : Nat) (b : List Bool) : Nat := ((List.range n).filter (fun (v : Nat) => b.getD v false)).length
omit hx hs in
theorem T_getD {b : List Bool} {v : Nat} : b.getD v false = true ↔ T b v := by
  rw [← T_rd (by omega)]
  rfl
omit hx hs in
theorem cnt_lt {n : Nat} {b b' : List Bool} (h : ∀ v, T b v → T b' v) {v : Int} (h0 : 0 ≤ v) (h1 : v < n) (hb : ¬ T b v) (hb' : T b' v) : cnt n b < cnt n b' := by
  have e : ((v.toNat : Nat) : Int) = v := by omega
  refine filter_len_lt _ _ v.toNat _ (fun q _ hq => T_getD.2 (h q (T_getD.1 hq))) (by simp; omega) ?_ (T_getD.2 (by rw [e]; exact hb'))
  cases hc : b.getD v.toNat false with
  | false => rfl
  | true => exact absurd (by rw [← e]; exact T_getD.1 hc) hb
omit hx hs in
theorem cnt_le {n : Nat} {b b' : List Bool} (h : ∀ v, T b v → T b' v) : cnt n b ≤ cnt n b' := filter_len_le _ _ _ (fun q _ hq => T_getD.2 (h q (T_getD.1 hq)))
omit hx hs in
theorem cnt_full {n : Nat} {b : List Bool} (h : n ≤ cnt n b) {v : Int} (h0 : 0 ≤ v) (h1 : v < n) : T b v := by
  by_cases hb : T b v
  · exact hb
  · exfalso
    have := cnt_lt (n := n) (b := b) (b' := b.set v.toNat true ++ List.replicate (n + 1) true) (v := v) (fun q hq => ?_) h0 h1 hb ?_
    · have h2 : cnt n (b.set v.toNat true ++ List.replicate (n + 1) true) ≤ n := by
        unfold cnt
        refine Nat.le_trans (List.length_filter_le _ _) ?_
        simp
      omega
    · refine ⟨hq.1, ?_⟩
      have := (List.getElem?_eq_some_iff.1 hq.2).1
      rw [List.getElem?_append_left (by simpa using this), List.getElem?_set]
      split
      · rw [if_pos (by omega)]
      · exact hq.2
    · refine ⟨h0, ?_⟩
      by_cases hv : v.toNat < b.length
      · rw [List.getElem?_append_left (by simpa using hv), List.getElem?_set_self hv]
      · rw [List.getElem?_append_right (by simp; omega), List.getElem?_replicate, if_pos (by simp; omega)]
/-- Closed: block 0, and the successors of what is there. -/
def Closed (x : List (List SIns)) (b : List Bool) : Prop := T b 0 ∧ ∀ i v, T b i → v ∈ succs x i → T b v
theorem refreach_l0 (hn : 0 < x.length) : ∀ (d a : Nat) (b : List Bool), x.length - a = d → a ≤ x.length → b.length = x.length → (∀ v, T b v → From (succs x) 0 v) → (Closed x b ∨ a ≤ cnt x.length b) →
    Ev (fun k => cubbyref09_Reach.l0 k x b (a : Int)) (reached x) := by
  intro d
  induction d with
  | zero =>
    intro a b hd ha hb hf hc
    have hcl : Closed x b := by
      rcases hc with h | h
      · exact h
      · have hall := fun v h0 h1 => cnt_full (n := x.length) (b := b) (by omega) (v := v) h0 h1
        exact ⟨hall 0 (by omega) (by omega), fun i v _ hv => by have := succs_mem x i v hv; exact hall v this.1 this.2⟩
    have e : b = reached x := bits_ext hb (fun v h0 h1 => by
      rw [order_iff rng hn v]
      constructor
      · exact hf v
      · intro h
        clear h0 h1
        induction h with
        | here => exact hcl.1
        | there _ hk ih => exact hcl.2 _ _ ih hk)
    refine Ev.step (f := fun _ => some b) (fun k => by simp only [cubbyref09_Reach.l0]; rw [if_neg (by omega)]) ?_
    rw [e]
    exact Ev.now _
  | succ d ih =>
    intro a b hd ha hb hf hc
    have hb0 : (b.set 0 true).length = x.length := by simpa using hb
    have t0 : ∀ v, T (b.set 0 true) v ↔ T b v ∨ v = 0 := fun v => T_set (k := 0) (by omega) (by omega)
    obtain ⟨b', h1, h2, h3, h4, h5⟩ := refreach_l1 hx hs a (by omega) _ 0 (b.set 0 true) rfl (by omega) hb0
    have hf' : ∀ v, T b' v → From (succs x) 0 v := h4 (fun v hv => by
      rcases (t0 v).1 hv with h | rfl
      · exact hf v h
      · exact .here)
    have hm : ∀ v, T b v → T b' v := fun v hv => h2 v ((t0 v).2 (.inl hv))
    have hz : T b' 0 := h2 0 ((t0 0).2 (.inr rfl))
    have hcl : Closed x b' ∨ a + 1 ≤ cnt x.length b' := by
      rcases hc with h | h
      · left
        have hback : ∀ v, T b' v → T b v := by
          intro v hv
          have := hf' v hv
          clear hv
          induction this with
          | here => exact h.1
          | there _ hk ih => exact h.2 _ _ ih hk
        exact ⟨hz, fun i v hi hv => hm v (h.2 i v (hback i hi) hv)⟩
      · by_cases h0 : T b 0
        · by_cases hq : ∀ i v, T b i → v ∈ succs x i → T b v
          · left
            have hback : ∀ v, T b' v → T b v := by
              intro v hv
              have := hf' v hv
              clear hv
              induction this with
              | here => exact h0
              | there _ hk ih => exact hq _ _ ih hk
            exact ⟨hz, fun i v hi hv => hm v (hq i v (hback i hi) hv)⟩
          · right
            simp only [Classical.not_forall] at hq
            obtain ⟨i, v, hi, hv, hn⟩ := hq
            have hr := succs_mem x i v hv
            have hil := T_lt hi
            have := cnt_lt (n := x.length) hm hr.1 hr.2 hn (h3 i v hi.1 (by omega) ((t0 i).2 (.inl hi)) hv)
            omega
        · right
          have := cnt_lt (n := x.length) hm (v := 0) (by omega) (by omega) h0 hz
          omega
    refine Ev.step (fun k => ?_) (h5 _ (ih (a + 1) b' (by omega) (by omega) h1 hf' hcl))
    simp only [cubbyref09_Reach.l0]
    rw [if_pos (by omega), if_pos (by omega)]
    rfl
theorem refreach_ev : Ev (fun k => cubbyref09_Reach.f k x) (reached x) := by
  refine Ev.congr (f := fun k => cubbyref09_Reach.l0 k x (List.replicate x.length false) 0) (fun k => by unfold cubbyref09_Reach.f; rw [if_pos (by omega), if_pos (by omega), Int.toNat_natCast]) ?_
  by_cases hn : 0 < x.length
  · exact refreach_l0 hx hs hn _ 0 _ rfl (by omega) (by simp) (fun v h => absurd h T_false) (.inr (by omega))
  · have : x = [] := by
      cases x with
      | nil => rfl
      | cons a t => simp at hn
    subst this
    exact Ev.step (f := fun _ => some []) (fun k => by simp only [cubbyref09_Reach.l0]; rw [if_neg (by simp)]; rfl) (Ev.now _)
end
end Go.Proofs.Ytgmklfaknomakaa.PlainReach
