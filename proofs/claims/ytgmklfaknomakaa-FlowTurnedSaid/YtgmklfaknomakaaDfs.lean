/-
  A visit of a graph in depth, as a plain function, and what it comes to: what was met is just what is reached; what was put is each of that once, the first ahead.
-/
import Derived.Test.YtgmklfaknomakaaPlain
namespace Go.Proofs.Ytgmklfaknomakaa.Dfs
open Go.Proofs.Ytgmklfaknomakaa.Plain
set_option linter.unusedVariables false
set_option linter.unusedSimpArgs false

def dfs (g : Int → List Int) : Nat → Int → List Int × List Int → List Int × List Int
  | 0, _, s => s
  | d + 1, i, s => (((g i).foldl (fun s k => if k ∈ s.1 then s else dfs g d k s) (s.1 ++ [i], s.2)).1, i :: ((g i).foldl (fun s k => if k ∈ s.1 then s else dfs g d k s) (s.1 ++ [i], s.2)).2)
def stepS (g : Int → List Int) (d : Nat) (s : List Int × List Int) (k : Int) : List Int × List Int := if k ∈ s.1 then s else dfs g d k s
theorem dfs_succ (g : Int → List Int) (d : Nat) (i : Int) (s : List Int × List Int) : dfs g (d + 1) i s = (((g i).foldl (stepS g d) (s.1 ++ [i], s.2)).1, i :: ((g i).foldl (stepS g d) (s.1 ++ [i], s.2)).2) := rfl

/-- How many nodes were not met yet. -/
def unmet (n : Nat) (met : List Int) : Nat := ((List.range n).filter (fun (v : Nat) => decide ((v : Int) ∉ met))).length
theorem filter_len_le {α : Type} (p q : α → Bool) : ∀ l : List α, (∀ x ∈ l, p x = true → q x = true) → (l.filter p).length ≤ (l.filter q).length
  | [], _ => Nat.le_refl _
  | a :: l, h => by
    have ih := filter_len_le p q l (fun x hx => h x (List.mem_cons_of_mem _ hx))
    have ha := h a List.mem_cons_self
    simp only [List.filter_cons]
    cases hp : p a <;> cases hq : q a <;> simp_all <;> omega
theorem filter_len_lt {α : Type} (p q : α → Bool) (y : α) : ∀ l : List α, (∀ x ∈ l, p x = true → q x = true) → y ∈ l → p y = false → q y = true → (l.filter p).length < (l.filter q).length
  | a :: l, h, hy, h1, h2 => by
    have hl := fun x hx => h x (List.mem_cons_of_mem a hx)
    have ih := filter_len_le p q l hl
    have ha := h a List.mem_cons_self
    simp only [List.filter_cons]
    rcases List.mem_cons.1 hy with rfl | hy
    · simp [h1, h2]
      omega
    · have := filter_len_lt p q y l hl hy h1 h2
      cases hp : p a <;> cases hq : q a <;> simp_all <;> omega
theorem unmet_le {n : Nat} {met met' : List Int} (h : ∀ v ∈ met, v ∈ met') : unmet n met' ≤ unmet n met := by
  refine filter_len_le _ _ _ (fun x _ hp => ?_)
  simp only [decide_eq_true_eq] at *
  exact fun hx => hp (h _ hx)
theorem unmet_lt {n : Nat} {met : List Int} {i : Int} (h0 : 0 ≤ i) (h1 : i < n) (hi : i ∉ met) : unmet n (met ++ [i]) < unmet n met := by
  refine filter_len_lt _ _ i.toNat _ (fun x _ hp => ?_) (by simp; omega) ?_ ?_
  · simp only [decide_eq_true_eq] at *
    exact fun hx => hp (List.mem_append_left _ hx)
  · have : ((i.toNat : Nat) : Int) = i := by omega
    simp [this]
  · have : ((i.toNat : Nat) : Int) = i := by omega
    simp [this, hi]
theorem unmet_nil (n : Nat) : unmet n [] = n := by
  unfold unmet
  rw [List.filter_eq_self.2 (by simp)]
  simp
theorem unmet_pos {n : Nat} {met : List Int} {i : Int} (h0 : 0 ≤ i) (h1 : i < n) (hi : i ∉ met) : 0 < unmet n met := by
  have := unmet_lt h0 h1 hi
  omega

/-- What is reached from a node. -/
inductive From (g : Int → List Int) (i : Int) : Int → Prop
  | here : From g i i
  | there {v k : Int} : From g i v → k ∈ g v → From g i k
theorem From.trans {g : Int → List Int} {i j k : Int} (h : From g i j) (h' : From g j k) : From g i k := by
  induction h' with
  | here => exact h
  | there _ hk ih => exact .there ih hk

theorem snoc_nodup {met : List Int} {i : Int} (h : met.Nodup) (hi : i ∉ met) : (met ++ [i]).Nodup := by
  rw [List.nodup_append]
  exact ⟨h, by simp, fun a ha b hb => by rw [List.mem_singleton.1 hb]; exact fun e => hi (e ▸ ha)⟩
structure Inv (n : Nat) (met put : List Int) : Prop where
  rng : ∀ v ∈ met, 0 ≤ v ∧ v < n
  sub : ∀ v ∈ put, v ∈ met
  nod : put.Nodup
  mnod : met.Nodup
/-- What a visit of the nodes l, from what was met and put, comes to. -/
structure Good (g : Int → List Int) (n : Nat) (l met put met' put' : List Int) : Prop where
  inv : Inv n met' put'
  keep : ∀ v ∈ met, v ∈ met'
  mem : ∀ k ∈ l, k ∈ met'
  closed : ∀ v ∈ met', v ∉ met → ∀ k ∈ g v, k ∈ met'
  reach : ∀ v ∈ met', v ∉ met → ∃ k ∈ l, From g k v
  puts : ∀ v, v ∈ put' ↔ v ∈ put ∨ (v ∈ met' ∧ v ∉ met)

theorem fold_good {g : Int → List Int} {n d : Nat} (H : ∀ (i : Int) (met put : List Int), 0 ≤ i → i < n → i ∉ met → unmet n met ≤ d → Inv n met put → Good g n [i] met put (dfs g d i (met, put)).1 (dfs g d i (met, put)).2) :
    ∀ (l met put : List Int), (∀ k ∈ l, 0 ≤ k ∧ k < n) → unmet n met ≤ d → Inv n met put → Good g n l met put (l.foldl (stepS g d) (met, put)).1 (l.foldl (stepS g d) (met, put)).2
  | [], met, put, _, _, hv => ⟨hv, fun _ h => h, by simp, fun v h h' => absurd h h', fun v h h' => absurd h h', fun v => ⟨.inl, fun h => h.elim id (fun h => absurd h.1 h.2)⟩⟩
  | k :: l, met, put, hl, hu, hv => by
    have hl' := fun q hq => hl q (List.mem_cons_of_mem k hq)
    obtain ⟨k0, k1⟩ := hl k List.mem_cons_self
    simp only [List.foldl_cons]
    by_cases hk : k ∈ met
    · have e : stepS g d (met, put) k = (met, put) := by unfold stepS; rw [if_pos hk]
      rw [e]
      have ih := fold_good H l met put hl' hu hv
      refine ⟨ih.inv, ih.keep, fun q hq => ?_, ih.closed, fun v h h' => ?_, ih.puts⟩
      · rcases List.mem_cons.1 hq with rfl | hq
        · exact ih.keep _ hk
        · exact ih.mem q hq
      · obtain ⟨q, hq, hf⟩ := ih.reach v h h'
        exact ⟨q, List.mem_cons_of_mem _ hq, hf⟩
    · have e : stepS g d (met, put) k = dfs g d k (met, put) := by unfold stepS; rw [if_neg hk]
      rw [e]
      have h1 := H k met put k0 k1 hk hu hv
      generalize dfs g d k (met, put) = s1 at h1
      obtain ⟨m1, p1⟩ := s1
      have ih := fold_good H l m1 p1 hl' (Nat.le_trans (unmet_le h1.keep) hu) h1.inv
      generalize l.foldl (stepS g d) (m1, p1) = s2 at ih
      obtain ⟨m2, p2⟩ := s2
      simp only at h1 ih ⊢
      refine ⟨ih.inv, fun v h => ih.keep v (h1.keep v h), fun q hq => ?_, fun v h h' => ?_, fun v h h' => ?_, fun v => ?_⟩
      · rcases List.mem_cons.1 hq with rfl | hq
        · exact ih.keep _ (h1.mem _ List.mem_cons_self)
        · exact ih.mem q hq
      · by_cases hm : v ∈ m1
        · exact fun q hq => ih.keep q (h1.closed v hm h' q hq)
        · exact ih.closed v h hm
      · by_cases hm : v ∈ m1
        · obtain ⟨q, hq, hf⟩ := h1.reach v hm h'
          rw [List.mem_singleton.1 hq] at hf
          exact ⟨k, List.mem_cons_self, hf⟩
        · obtain ⟨q, hq, hf⟩ := ih.reach v h hm
          exact ⟨q, List.mem_cons_of_mem _ hq, hf⟩
      · rw [ih.puts v, h1.puts v]
        constructor
        · rintro ((h | ⟨h, h'⟩) | ⟨h, h'⟩)
          · exact .inl h
          · exact .inr ⟨ih.keep v h, h'⟩
          · exact .inr ⟨h, fun hm => h' (h1.keep v hm)⟩
        · rintro (h | ⟨h, h'⟩)
          · exact .inl (.inl h)
          · by_cases hm : v ∈ m1
            · exact .inl (.inr ⟨hm, h'⟩)
            · exact .inr ⟨h, hm⟩

theorem dfs_good {g : Int → List Int} {n : Nat} (hg : ∀ i, ∀ k ∈ g i, 0 ≤ k ∧ k < n) : ∀ (d : Nat) (i : Int) (met put : List Int), 0 ≤ i → i < n → i ∉ met → unmet n met ≤ d → Inv n met put →
    Good g n [i] met put (dfs g d i (met, put)).1 (dfs g d i (met, put)).2 := by
  intro d
  induction d with
  | zero =>
    intro i met put h0 h1 hi hu _
    have := unmet_pos h0 h1 hi
    omega
  | succ d ih =>
    intro i met put h0 h1 hi hu hv
    rw [dfs_succ]
    have hu' : unmet n (met ++ [i]) ≤ d := by have := unmet_lt h0 h1 hi; omega
    have hv' : Inv n (met ++ [i]) put := ⟨fun v h => by
      rcases List.mem_append.1 h with h | h
      · exact hv.rng v h
      · rw [List.mem_singleton.1 h]; exact ⟨h0, h1⟩, fun v h => List.mem_append_left _ (hv.sub v h), hv.nod, snoc_nodup hv.mnod hi⟩
    have hf := fold_good ih (g i) (met ++ [i]) put (hg i) hu' hv'
    simp only
    generalize (g i).foldl (stepS g d) (met ++ [i], put) = s at hf
    obtain ⟨m, p⟩ := s
    simp only at hf ⊢
    have him : i ∈ m := hf.keep i (by simp)
    have hip : i ∉ p := by
      rw [hf.puts i]
      rintro (h | ⟨_, h⟩)
      · exact hi (hv.sub i h)
      · exact h (by simp)
    refine ⟨⟨hf.inv.rng, fun v h => ?_, List.nodup_cons.2 ⟨hip, hf.inv.nod⟩, hf.inv.mnod⟩, fun v h => hf.keep v (List.mem_append_left _ h), fun k hk => ?_, fun v h h' => ?_, fun v h h' => ?_, fun v => ?_⟩
    · rcases List.mem_cons.1 h with rfl | h
      · exact him
      · exact hf.inv.sub v h
    · rw [List.mem_singleton.1 hk]; exact him
    · by_cases e : v = i
      · subst e
        exact fun k hk => hf.mem k hk
      · exact hf.closed v h (by simp [h', e])
    · by_cases e : v = i
      · subst e
        exact ⟨v, List.mem_singleton.2 rfl, .here⟩
      · obtain ⟨k, hk, hf'⟩ := hf.reach v h (by simp [h', e])
        exact ⟨i, List.mem_singleton.2 rfl, From.trans (.there .here hk) hf'⟩
    · rw [List.mem_cons, hf.puts v]
      constructor
      · rintro (rfl | h | ⟨h, h'⟩)
        · exact .inr ⟨him, hi⟩
        · exact .inl h
        · exact .inr ⟨h, fun hm => h' (List.mem_append_left _ hm)⟩
      · rintro (h | ⟨h, h'⟩)
        · exact .inr (.inl h)
        · by_cases e : v = i
          · exact .inl e
          · exact .inr (.inr ⟨h, by simp [h', e]⟩)

theorem Inv.snoc {n : Nat} {met put : List Int} {i : Int} (hv : Inv n met put) (h0 : 0 ≤ i) (h1 : i < n) (hi : i ∉ met) : Inv n (met ++ [i]) put :=
  ⟨fun v h => by
    rcases List.mem_append.1 h with h | h
    · exact hv.rng v h
    · rw [List.mem_singleton.1 h]; exact ⟨h0, h1⟩, fun v h => List.mem_append_left _ (hv.sub v h), hv.nod, snoc_nodup hv.mnod hi⟩
/-- The order in which what is reached from 0 is put. -/
def order (g : Int → List Int) (n : Nat) : List Int := if n = 0 then [] else (dfs g n 0 ([], [])).2
section
variable {g : Int → List Int} {n : Nat} (hg : ∀ i, ∀ k ∈ g i, 0 ≤ k ∧ k < n)
include hg
theorem good0 (hn : 0 < n) : Good g n [0] [] [] (dfs g n 0 ([], [])).1 (dfs g n 0 ([], [])).2 :=
  dfs_good hg n 0 [] [] (by omega) (by omega) (by simp) (by rw [unmet_nil]; exact Nat.le_refl _) ⟨by simp, by simp, List.nodup_nil, List.nodup_nil⟩
theorem met_iff (hn : 0 < n) (v : Int) : v ∈ (dfs g n 0 ([], [])).1 ↔ From g 0 v := by
  have h := good0 hg hn
  constructor
  · intro hv
    obtain ⟨k, hk, hf⟩ := h.reach v hv (by simp)
    rw [List.mem_singleton.1 hk] at hf
    exact hf
  · intro hf
    induction hf with
    | here => exact h.mem 0 (by simp)
    | there _ hk ih => exact h.closed _ ih (by simp) _ hk
theorem order_iff (hn : 0 < n) (v : Int) : v ∈ order g n ↔ From g 0 v := by
  unfold order
  rw [if_neg (by omega), (good0 hg hn).puts v, met_iff hg hn v]
  simp
theorem order_nodup : (order g n).Nodup := by
  unfold order
  split
  · exact List.nodup_nil
  · exact (good0 hg (by omega)).inv.nod
theorem order_rng (v : Int) (hv : v ∈ order g n) : 0 ≤ v ∧ v < n := by
  unfold order at hv
  split at hv
  · simp at hv
  · have h := good0 hg (n := n) (by omega)
    exact h.inv.rng v (h.inv.sub v hv)
omit hg in
theorem order_head (hn : 0 < n) : ∃ t, order g n = 0 :: t := by
  unfold order
  rw [if_neg (by omega)]
  obtain ⟨m, rfl⟩ : ∃ m, n = m + 1 := ⟨n - 1, by omega⟩
  exact ⟨_, by rw [dfs_succ]⟩
end

theorem nodup_len {n : Nat} : ∀ {l : List Int}, l.Nodup → (∀ v ∈ l, 0 ≤ v ∧ v < n) → l.length ≤ n := by
  have key : ∀ (m : Nat) (l : List Int), l.Nodup → (∀ v ∈ l, 0 ≤ v ∧ v < m) → l.length ≤ m := by
    intro m
    induction m with
    | zero =>
      intro l _ h
      cases l with
      | nil => exact Nat.le_refl _
      | cons a l => have := h a List.mem_cons_self; omega
    | succ m ih =>
      intro l hd h
      have h1 : (l.erase (m : Int)).length ≤ m := ih _ (hd.erase _) (fun v hv => by
        have hv' := (List.Nodup.mem_erase_iff hd).1 hv
        have := h v hv'.2
        have hne := hv'.1
        omega)
      have h2 : l.length ≤ (l.erase (m : Int)).length + 1 := by
        rw [List.length_erase]
        split <;> omega
      omega
  intro l hd h
  exact key n _ hd h
theorem Inv.len {n : Nat} {met put : List Int} (h : Inv n met put) : put.length ≤ n := nodup_len h.nod (fun v hv => h.rng v (h.sub v hv))
theorem Inv.mlen {n : Nat} {met put : List Int} (h : Inv n met put) : met.length ≤ n := nodup_len h.mnod h.rng
/-- Who was met, as bits. -/
def bitsOf (n : Nat) (met : List Int) : List Bool := (List.range n).map (fun (v : Nat) => decide ((v : Int) ∈ met))
theorem bits_len (n : Nat) (met : List Int) : (bitsOf n met).length = n := by simp [bitsOf]
theorem bits_get {n : Nat} {met : List Int} {i : Nat} (h : i < n) : (bitsOf n met)[i]? = some (decide ((i : Int) ∈ met)) := by simp [bitsOf, h]
theorem bits_nil (n : Nat) : bitsOf n [] = List.replicate n false := by
  apply List.ext_getElem?
  intro i
  by_cases h : i < n
  · rw [bits_get h, List.getElem?_replicate, if_pos h]
    simp
  · rw [List.getElem?_eq_none (by simp [bitsOf]; omega), List.getElem?_eq_none (by simp; omega)]
theorem bits_set {n : Nat} {met : List Int} {i : Int} (h0 : 0 ≤ i) (h1 : i < n) : (bitsOf n met).set i.toNat true = bitsOf n (met ++ [i]) := by
  apply List.ext_getElem?
  intro j
  by_cases h : j < n
  · rw [List.getElem?_set, bits_get h, bits_get h]
    by_cases e : i.toNat = j
    · rw [if_pos e, if_pos (by rw [bits_len]; omega)]
      have : (j : Int) = i := by omega
      simp [this]
    · rw [if_neg e]
      have : (j : Int) ≠ i := by omega
      simp [this]
  · rw [List.getElem?_eq_none (by simp [bits_len]; omega), List.getElem?_eq_none (by simp [bits_len]; omega)]
end Go.Proofs.Ytgmklfaknomakaa.Dfs
