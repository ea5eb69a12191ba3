/- For every input the law SpanLive returns true, and its arguments read behind the call as they did: no condition. -/
import Derived.Test.YtpkimbkjjmbmcaaDoorRows
import Derived.WalkKit
import Derived.ProofKit
import Derived.OpenShut
import Derived.ShutString
import Derived.ChangeOld
import Derived.Below
import Derived.SizedLaws
import Derived.Test.YtpkimbkjjmbmcaaDoorCards
import Derived.Test.YtpkimbkjjmbmcaaDoorTie
import Derived.LaidMore
import Derived.Lay
import Derived.SevenTiedAt
import Derived.Stop.Joined
import Derived.Lib.LaidU8
import Derived.Test.YtpkimbkjjmbmcaaDoorMSpanLive1
import Derived.Test.YtpkimbkjjmbmcaaDoorMSpanLive2
import Derived.Test.YtpkimbkjjmbmcaaDoorMSpanLive3
import Derived.Test.YtpkimbkjjmbmcaaDoorMSpanLive4
import Derived.Test.YtpkimbkjjmbmcaaDoorMSpanLive5
namespace Go.Proofs.YtpkimbkjjmbmcaaDoor.PlainLive
open Go Go.RowKit Go.Proofs.YtpkimbkjjmbmcaaDoorW.PrintWords Go.Proofs.YtpkimbkjjmbmcaaDoorW.PrintMore Go.Proofs.YtpkimbkjjmbmcaaDoor.Q Go.Proofs.YtpkimbkjjmbmcaaDoor.Plain Go.Proofs.YtpkimbkjjmbmcaaDoor.PlainIr Go.Proofs.YtpkimbkjjmbmcaaDoor.PlainName Go.Proofs.YtpkimbkjjmbmcaaDoor.PlainBits Go.Proofs.YtpkimbkjjmbmcaaDoor.PlainFix Go.Proofs.YtpkimbkjjmbmcaaDoor.PlainSuccs Go.Proofs.YtpkimbkjjmbmcaaDoor.PlainOne Go.Proofs.YtpkimbkjjmbmcaaDoor.PlainHeavy Go.Proofs.YtpkimbkjjmbmcaaDoor.PlainCheck
set_option linter.unusedVariables false
set_option linter.unusedSimpArgs false
theorem toL_low_of {R s p : Nat} (hs : s < 2 ^ R) : s / 2 ^ p = 0 ↔ ∀ n ∈ toL R s, n < p := by
 rw [Nat.div_eq_zero_iff_lt (Nat.pos_of_ne_zero (by simp))]
 constructor
 ·intro h n hn
  obtain ⟨r, rfl, hr, hb⟩ := toL_nat hn
  apply Decidable.byContradiction
  intro hp
  have : s.testBit r = false := Nat.testBit_lt_two_pow (Nat.lt_of_lt_of_le h (Nat.pow_le_pow_right (by omega) (by omega)))
  rw [this] at hb
  exact absurd hb (by simp)
 ·intro h
  apply Nat.lt_pow_two_of_testBit
  intro i hi
  cases hb : s.testBit i
  ·rfl
  ·have hiR : i < R := by
    apply Decidable.byContradiction
    intro hp
    have : s.testBit i = false := Nat.testBit_lt_two_pow (Nat.lt_of_lt_of_le hs (Nat.pow_le_pow_right (by omega) (by omega)))
    rw [this] at hb
    exact absurd hb (by simp)
   have := h i (mem_toL.2 ⟨hiR, hb⟩)
   omega
theorem checks (pn : ByteArray) {pp : Int} {R : Nat} {bs : List (List SIns)} (hF : FairB bs) (F : FuncOk pn pp (R : Int) bs) (hc : checkE pn pp (R : Int) bs = 0) {z : List Nat} (hz : Sol R bs z)
 (h1 : Ev (fun k => live_sets.f k pn pp (R : Int) bs) (toI z)) (h2 : Ev (fun k => cubbyref11_In.f k pn pp (R : Int) bs) (z.map (toL R))) :
 Ev (fun k => live_Check.f k pn pp (R : Int) bs) (if at_ z 0 / 2 ^ pp.toNat = 0 then 0 else 110) ∧ Ev (fun k => cubbyref11_Check.f k pn pp (R : Int) bs) (if at_ z 0 / 2 ^ pp.toNat = 0 then 0 else 110) := by
 have O := ok_blocks F hF
 have hR := O.le
 have hS := F.shape
 have hp0 := hS.1
 have hp1 := hS.2.1
 have hb0 := hS.2.2.2.2.1
 have hzl := hz.len
 constructor
 ·have h3 := check_ev pn pp (R : Int) bs hF
  rw [hc] at h3
  refine Ev.bind h3 (Ev.congr (fun k => by rw [zC rfl]) (Ev.bind h1 ?_))
  have e1 : IntKind.u64.wrap pp = pp := by
   rw [IntKind.wrap_u64]
   omega
  have e2 : shr .u64 (rd (toI z) 0) pp = ((at_ z 0 / 2 ^ pp.toNat : Nat) : Int) := by
   unfold shr
   rw [rd_toI, show IntKind.u64.bits = 64 from rfl, Nat.min_eq_left (by omega)]
   rw [show ((2 : Int) ^ pp.toNat) = ((2 ^ pp.toNat : Nat) : Int) by simp]
   rw [Int.toNat_zero]
   exact (Int.natCast_ediv _ _).symm
  by_cases c : at_ z 0 / 2 ^ pp.toNat = 0
  ·rw [zC c]
   exact Ev.congr (f := fun _ => some 0) (fun k => by rw [zC (by rw [toI_len]; omega), e1, zC hp0, e2, zC (by omega)]) (Ev.now _)
  ·rw [zD c]
   exact Ev.congr (f := fun _ => some 110) (fun k => by rw [zC (by rw [toI_len]; omega), e1, zC hp0, e2, zD (by omega)]) (Ev.now _)
 ·have h3 := refcheck_ev pn pp (R : Int) bs hF
  rw [hc] at h3
  refine Ev.bind h3 (Ev.congr (fun k => by rw [zC rfl]) (Ev.bind h2 ?_))
  have hlen := toL_len R (at_ z 0)
  have hlow := toL_low_of (R := R) (p := pp.toNat) (hz.lt 0)
  refine Ev.congr (f := fun k => cubbyref11_Check.l0 k (toL R (at_ z 0)) ((0 : Nat) : Int) pn pp (R : Int) bs) (fun k => by rw [zC (by rw [List.length_map]; omega), rdL_map (by omega) (by omega)]; rfl) ?_
  refine seek (fun k i => cubbyref11_Check.l0 k (toL R (at_ z 0)) (i : Int) pn pp (R : Int) bs) (toL R (at_ z 0)).length (fun i => rd (toL R (at_ z 0)) (i : Int) ≥ pp) 110 _ ?_ ?_ ?_ ?_
  ·intro i hi hb
   exact Ev.step (f := fun _ => some 110) (fun k => by simp only [cubbyref11_Check.l0]; rw [zC (by omega), zC (by omega), zC hb]) (Ev.now _)
  ·intro i hi hb r' hE
   exact Ev.step (fun k => by simp only [cubbyref11_Check.l0]; rw [zC (by omega), zC (by omega), zD hb, wrap_nat (by omega)]) hE
  ·rintro ⟨i, hi, hb⟩
   rw [rd_get hi] at hb
   rw [zD]
   intro h
   have := hlow.1 h _ (List.getElem_mem hi)
   omega
  ·intro h
   rw [zC (hlow.2 fun n hn => by
    obtain ⟨i, hi, e⟩ := List.mem_iff_getElem.1 hn
    have := h i hi
    rw [rd_get hi, e] at this
    omega)]
   exact Ev.step (f := fun _ => some 0) (fun k => by simp only [cubbyref11_Check.l0]; rw [zD (by omega)]) (Ev.now _)
end Go.Proofs.YtpkimbkjjmbmcaaDoor.PlainLive
namespace Go.Proofs.YtpkimbkjjmbmcaaDoor.Dfs
open Go.Proofs.YtpkimbkjjmbmcaaDoor.Plain
set_option linter.unusedVariables false
set_option linter.unusedSimpArgs false
def dfs (g : Int → List Int) : Nat → Int → List Int × List Int → List Int × List Int
 | 0, _, s => s
 | d + 1, i, s => (((g i).foldl (fun s k => if k ∈ s.1 then s else dfs g d k s) (s.1 ++ [i], s.2)).1, i :: ((g i).foldl (fun s k => if k ∈ s.1 then s else dfs g d k s) (s.1 ++ [i], s.2)).2)
def stepS (g : Int → List Int) (d : Nat) (s : List Int × List Int) (k : Int) : List Int × List Int := if k ∈ s.1 then s else dfs g d k s
theorem dfs_succ (g : Int → List Int) (d : Nat) (i : Int) (s : List Int × List Int) : dfs g (d + 1) i s = (((g i).foldl (stepS g d) (s.1 ++ [i], s.2)).1, i :: ((g i).foldl (stepS g d) (s.1 ++ [i], s.2)).2) := rfl
def unmet (n : Nat) (met : List Int) : Nat := ((List.range n).filter (fun (v : Nat) => decide ((v : Int) ∉ met))).length
theorem filter_len_le {α : Type} (p q : α → Bool) : ∀ l : List α, (∀ x ∈ l, p x = true → q x = true) → (l.filter p).length ≤ (l.filter q).length
 | [], _ => Nat.le_refl _
 | a :: l, h => by
  have ih := filter_len_le p q l (fun x hx => h x (List.mem_cons_of_mem _ hx))
  have ha := h a List.mem_cons_self
  simp only [List.filter_cons]
  cases hp : p a <;> cases hq : q a <;> simp_all <;> omega
theorem filter_len_lt {α : Type} (p q : α → Bool) (y : α) : ∀ l : List α, (∀ x ∈ l, p x = true → q x = true) → y ∈ l → p y = false → q y = true → (l.filter p).length < (l.filter q).length
 | a :: l, h, hy, h1, h2 => by
  have hl := fun x hx => h x (List.mem_cons_of_mem a hx)
  have ih := filter_len_le p q l hl
  have ha := h a List.mem_cons_self
  simp only [List.filter_cons]
  rcases List.mem_cons.1 hy with rfl | hy
  ·simp [h1, h2]
   omega
  ·have := filter_len_lt p q y l hl hy h1 h2
   cases hp : p a <;> cases hq : q a <;> simp_all <;> omega
theorem unmet_le {n : Nat} {met met' : List Int} (h : ∀ v ∈ met, v ∈ met') : unmet n met' ≤ unmet n met := by
 refine filter_len_le _ _ _ (fun x _ hp => ?_)
 simp only [decide_eq_true_eq] at *
 exact fun hx => hp (h _ hx)
theorem unmet_lt {n : Nat} {met : List Int} {i : Int} (h0 : 0 ≤ i) (h1 : i < n) (hi : i ∉ met) : unmet n (met ++ [i]) < unmet n met := by
 refine filter_len_lt _ _ i.toNat _ (fun x _ hp => ?_) (by simp; omega) ?_ ?_
 ·simp only [decide_eq_true_eq] at *
  exact fun hx => hp (List.mem_append_left _ hx)
 ·have : ((i.toNat : Nat) : Int) = i := by omega
  simp [this]
 ·have : ((i.toNat : Nat) : Int) = i := by omega
  simp [this, hi]
theorem unmet_nil (n : Nat) : unmet n [] = n := by
 unfold unmet
 rw [List.filter_eq_self.2 (by simp)]
 simp
theorem unmet_pos {n : Nat} {met : List Int} {i : Int} (h0 : 0 ≤ i) (h1 : i < n) (hi : i ∉ met) : 0 < unmet n met := by
 have := unmet_lt h0 h1 hi
 omega
inductive From (g : Int → List Int) (i : Int) : Int → Prop
 | here : From g i i
 | there {v k : Int} : From g i v → k ∈ g v → From g i k
theorem From.trans {g : Int → List Int} {i j k : Int} (h : From g i j) (h' : From g j k) : From g i k := by
 induction h' with
 | here => exact h
 | there _ hk ih => exact .there ih hk
theorem snoc_nodup {met : List Int} {i : Int} (h : met.Nodup) (hi : i ∉ met) : (met ++ [i]).Nodup := by
 rw [List.nodup_append]
 exact ⟨h, by simp, fun a ha b hb => by rw [List.mem_singleton.1 hb]; exact fun e => hi (e ▸ ha)⟩
structure Inv (n : Nat) (met put : List Int) : Prop where
 rng : ∀ v ∈ met, 0 ≤ v ∧ v < n
 sub : ∀ v ∈ put, v ∈ met
 nod : put.Nodup
 mnod : met.Nodup
structure Good (g : Int → List Int) (n : Nat) (l met put met' put' : List Int) : Prop where
 inv : Inv n met' put'
 keep : ∀ v ∈ met, v ∈ met'
 mem : ∀ k ∈ l, k ∈ met'
 closed : ∀ v ∈ met', v ∉ met → ∀ k ∈ g v, k ∈ met'
 reach : ∀ v ∈ met', v ∉ met → ∃ k ∈ l, From g k v
 puts : ∀ v, v ∈ put' ↔ v ∈ put ∨ (v ∈ met' ∧ v ∉ met)
theorem fold_good {g : Int → List Int} {n d : Nat} (H : ∀ (i : Int) (met put : List Int), 0 ≤ i → i < n → i ∉ met → unmet n met ≤ d → Inv n met put → Good g n [i] met put (dfs g d i (met, put)).1 (dfs g d i (met, put)).2) :
 ∀ (l met put : List Int), (∀ k ∈ l, 0 ≤ k ∧ k < n) → unmet n met ≤ d → Inv n met put → Good g n l met put (l.foldl (stepS g d) (met, put)).1 (l.foldl (stepS g d) (met, put)).2
 | [], met, put, _, _, hv => ⟨hv, fun _ h => h, by simp, fun v h h' => absurd h h', fun v h h' => absurd h h', fun v => ⟨.inl, fun h => h.elim id (fun h => absurd h.1 h.2)⟩⟩
 | k :: l, met, put, hl, hu, hv => by
  have hl' := fun q hq => hl q (List.mem_cons_of_mem k hq)
  obtain ⟨k0, k1⟩ := hl k List.mem_cons_self
  simp only [List.foldl_cons]
  by_cases hk : k ∈ met
  ·have e : stepS g d (met, put) k = (met, put) := by unfold stepS; rw [zC hk]
   rw [e]
   have ih := fold_good H l met put hl' hu hv
   refine ⟨ih.inv, ih.keep, fun q hq => ?_, ih.closed, fun v h h' => ?_, ih.puts⟩
   ·rcases List.mem_cons.1 hq with rfl | hq
    ·exact ih.keep _ hk
    ·exact ih.mem q hq
   ·obtain ⟨q, hq, hf⟩ := ih.reach v h h'
    exact ⟨q, List.mem_cons_of_mem _ hq, hf⟩
  ·have e : stepS g d (met, put) k = dfs g d k (met, put) := by unfold stepS; rw [zD hk]
   rw [e]
   have h1 := H k met put k0 k1 hk hu hv
   generalize dfs g d k (met, put) = s1 at h1
   obtain ⟨m1, p1⟩ := s1
   have ih := fold_good H l m1 p1 hl' (Nat.le_trans (unmet_le h1.keep) hu) h1.inv
   generalize l.foldl (stepS g d) (m1, p1) = s2 at ih
   obtain ⟨m2, p2⟩ := s2
   simp only at h1 ih ⊢
   refine ⟨ih.inv, fun v h => ih.keep v (h1.keep v h), fun q hq => ?_, fun v h h' => ?_, fun v h h' => ?_, fun v => ?_⟩
   ·rcases List.mem_cons.1 hq with rfl | hq
    ·exact ih.keep _ (h1.mem _ List.mem_cons_self)
    ·exact ih.mem q hq
   ·by_cases hm : v ∈ m1
    ·exact fun q hq => ih.keep q (h1.closed v hm h' q hq)
    ·exact ih.closed v h hm
   ·by_cases hm : v ∈ m1
    ·obtain ⟨q, hq, hf⟩ := h1.reach v hm h'
     rw [List.mem_singleton.1 hq] at hf
     exact ⟨k, List.mem_cons_self, hf⟩
    ·obtain ⟨q, hq, hf⟩ := ih.reach v h hm
     exact ⟨q, List.mem_cons_of_mem _ hq, hf⟩
   ·rw [ih.puts v, h1.puts v]
    constructor
    ·rintro ((h | ⟨h, h'⟩) | ⟨h, h'⟩)
     ·exact .inl h
     ·exact .inr ⟨ih.keep v h, h'⟩
     ·exact .inr ⟨h, fun hm => h' (h1.keep v hm)⟩
    ·rintro (h | ⟨h, h'⟩)
     ·exact .inl (.inl h)
     ·by_cases hm : v ∈ m1
      ·exact .inl (.inr ⟨hm, h'⟩)
      ·exact .inr ⟨h, hm⟩
theorem dfs_good {g : Int → List Int} {n : Nat} (hg : ∀ i, ∀ k ∈ g i, 0 ≤ k ∧ k < n) : ∀ (d : Nat) (i : Int) (met put : List Int), 0 ≤ i → i < n → i ∉ met → unmet n met ≤ d → Inv n met put →
 Good g n [i] met put (dfs g d i (met, put)).1 (dfs g d i (met, put)).2 := by
 intro d
 induction d with
 | zero =>
  intro i met put h0 h1 hi hu _
  have := unmet_pos h0 h1 hi
  omega
 | succ d ih =>
  intro i met put h0 h1 hi hu hv
  rw [dfs_succ]
  have hu' : unmet n (met ++ [i]) ≤ d := by have := unmet_lt h0 h1 hi; omega
  have hv' : Inv n (met ++ [i]) put := ⟨fun v h => by
   rcases List.mem_append.1 h with h | h
   ·exact hv.rng v h
   ·rw [List.mem_singleton.1 h]; exact ⟨h0, h1⟩, fun v h => List.mem_append_left _ (hv.sub v h), hv.nod, snoc_nodup hv.mnod hi⟩
  have hf := fold_good ih (g i) (met ++ [i]) put (hg i) hu' hv'
  simp only
  generalize (g i).foldl (stepS g d) (met ++ [i], put) = s at hf
  obtain ⟨m, p⟩ := s
  simp only at hf ⊢
  have him : i ∈ m := hf.keep i (by simp)
  have hip : i ∉ p := by
   rw [hf.puts i]
   rintro (h | ⟨_, h⟩)
   ·exact hi (hv.sub i h)
   ·exact h (by simp)
  refine ⟨⟨hf.inv.rng, fun v h => ?_, List.nodup_cons.2 ⟨hip, hf.inv.nod⟩, hf.inv.mnod⟩, fun v h => hf.keep v (List.mem_append_left _ h), fun k hk => ?_, fun v h h' => ?_, fun v h h' => ?_, fun v => ?_⟩
  ·rcases List.mem_cons.1 h with rfl | h
   ·exact him
   ·exact hf.inv.sub v h
  ·rw [List.mem_singleton.1 hk]; exact him
  ·by_cases e : v = i
   ·subst e
    exact fun k hk => hf.mem k hk
   ·exact hf.closed v h (by simp [h', e])
  ·by_cases e : v = i
   ·subst e
    exact ⟨v, List.mem_singleton.2 rfl, .here⟩
   ·obtain ⟨k, hk, hf'⟩ := hf.reach v h (by simp [h', e])
    exact ⟨i, List.mem_singleton.2 rfl, From.trans (.there .here hk) hf'⟩
  ·rw [List.mem_cons, hf.puts v]
   constructor
   ·rintro (rfl | h | ⟨h, h'⟩)
    ·exact .inr ⟨him, hi⟩
    ·exact .inl h
    ·exact .inr ⟨h, fun hm => h' (List.mem_append_left _ hm)⟩
   ·rintro (h | ⟨h, h'⟩)
    ·exact .inr (.inl h)
    ·by_cases e : v = i
     ·exact .inl e
     ·exact .inr (.inr ⟨h, by simp [h', e]⟩)
theorem Inv.snoc {n : Nat} {met put : List Int} {i : Int} (hv : Inv n met put) (h0 : 0 ≤ i) (h1 : i < n) (hi : i ∉ met) : Inv n (met ++ [i]) put :=
 ⟨fun v h => by
  rcases List.mem_append.1 h with h | h
  ·exact hv.rng v h
  ·rw [List.mem_singleton.1 h]; exact ⟨h0, h1⟩, fun v h => List.mem_append_left _ (hv.sub v h), hv.nod, snoc_nodup hv.mnod hi⟩
def order (g : Int → List Int) (n : Nat) : List Int := if n = 0 then [] else (dfs g n 0 ([], [])).2
section
variable {g : Int → List Int} {n : Nat} (hg : ∀ i, ∀ k ∈ g i, 0 ≤ k ∧ k < n)
include hg
theorem good0 (hn : 0 < n) : Good g n [0] [] [] (dfs g n 0 ([], [])).1 (dfs g n 0 ([], [])).2 :=
 dfs_good hg n 0 [] [] (by omega) (by omega) (by simp) (by rw [unmet_nil]; exact Nat.le_refl _) ⟨by simp, by simp, List.nodup_nil, List.nodup_nil⟩
theorem order_nodup : (order g n).Nodup := by
 unfold order
 split
 ·exact List.nodup_nil
 ·exact (good0 hg (by omega)).inv.nod
theorem order_rng (v : Int) (hv : v ∈ order g n) : 0 ≤ v ∧ v < n := by
 unfold order at hv
 split at hv
 ·simp at hv
 ·have h := good0 hg (n := n) (by omega)
  exact h.inv.rng v (h.inv.sub v hv)
omit hg in
end
theorem nodup_len {n : Nat} : ∀ {l : List Int}, l.Nodup → (∀ v ∈ l, 0 ≤ v ∧ v < n) → l.length ≤ n := by
 have key : ∀ (m : Nat) (l : List Int), l.Nodup → (∀ v ∈ l, 0 ≤ v ∧ v < m) → l.length ≤ m := by
  intro m
  induction m with
  | zero =>
   intro l _ h
   cases l with
   | nil => exact Nat.le_refl _
   | cons a l => have := h a List.mem_cons_self; omega
  | succ m ih =>
   intro l hd h
   have h1 : (l.erase (m : Int)).length ≤ m := ih _ (hd.erase _) (fun v hv => by
    have hv' := (List.Nodup.mem_erase_iff hd).1 hv
    have := h v hv'.2
    have hne := hv'.1
    omega)
   have h2 : l.length ≤ (l.erase (m : Int)).length + 1 := by
    rw [List.length_erase]
    split <;> omega
   omega
 intro l hd h
 exact key n _ hd h
theorem Inv.len {n : Nat} {met put : List Int} (h : Inv n met put) : put.length ≤ n := nodup_len h.nod (fun v hv => h.rng v (h.sub v hv))
theorem Inv.mlen {n : Nat} {met put : List Int} (h : Inv n met put) : met.length ≤ n := nodup_len h.mnod h.rng
def bitsOf (n : Nat) (met : List Int) : List Bool := (List.range n).map (fun (v : Nat) => decide ((v : Int) ∈ met))
theorem bits_len (n : Nat) (met : List Int) : (bitsOf n met).length = n := by simp [bitsOf]
theorem bits_get {n : Nat} {met : List Int} {i : Nat} (h : i < n) : (bitsOf n met)[i]? = some (decide ((i : Int) ∈ met)) := by simp [bitsOf, h]
theorem bits_nil (n : Nat) : bitsOf n [] = List.replicate n false := by
 apply List.ext_getElem?
 intro i
 by_cases h : i < n
 ·rw [bits_get h, List.getElem?_replicate, zC h]
  simp
 ·rw [List.getElem?_eq_none (by simp [bitsOf]; omega), List.getElem?_eq_none (by simp; omega)]
theorem bits_set {n : Nat} {met : List Int} {i : Int} (h0 : 0 ≤ i) (h1 : i < n) : (bitsOf n met).set i.toNat true = bitsOf n (met ++ [i]) := by
 apply List.ext_getElem?
 intro j
 by_cases h : j < n
 ·rw [List.getElem?_set, bits_get h, bits_get h]
  by_cases e : i.toNat = j
  ·rw [zC e, zC (by rw [bits_len]; omega)]
   have : (j : Int) = i := by omega
   simp [this]
  ·rw [zD e]
   have : (j : Int) ≠ i := by omega
   simp [this]
 ·rw [List.getElem?_eq_none (by simp [bits_len]; omega), List.getElem?_eq_none (by simp [bits_len]; omega)]
end Go.Proofs.YtpkimbkjjmbmcaaDoor.Dfs
namespace Go.Proofs.YtpkimbkjjmbmcaaDoor.PlainOrder
open Go Go.RowKit Go.Proofs.YtpkimbkjjmbmcaaDoorW.PrintWords Go.Proofs.YtpkimbkjjmbmcaaDoorW.PrintMore Go.Proofs.YtpkimbkjjmbmcaaDoor.Q Go.Proofs.YtpkimbkjjmbmcaaDoor.Plain Go.Proofs.YtpkimbkjjmbmcaaDoor.PlainSuccs Go.Proofs.YtpkimbkjjmbmcaaDoor.Dfs
set_option linter.unusedVariables false
set_option linter.unusedSimpArgs false
theorem rng {x : List (List SIns)} : ∀ i, ∀ k ∈ succs x i, 0 ≤ k ∧ k < ((x.length : Nat) : Int) := fun i k hk => succs_mem x i k hk
section
variable {x : List (List SIns)} (hx : x.length ≤ 1000000)
include hx
theorem ref_fold {d : Nat} (H : ∀ (i : Int) (met put : List Int), 0 ≤ i → i < x.length → i ∉ met → unmet x.length met ≤ d → Inv x.length met put → Ev (fun k => cubbyref09_visit.f k x i met put) (dfs (succs x) d i (met, put))) (i : Int) (l : List Int) (hl : l.length ≤ 1000) (hlr : ∀ k ∈ l, 0 ≤ k ∧ k < x.length) :
 ∀ (q j : Nat) (met put : List Int), l.length - j = q → j ≤ l.length → unmet x.length met ≤ d → Inv x.length met put →
 Ev (fun k => cubbyref09_visit.l0 k x i met put l (j : Int)) (((l.drop j).foldl (stepS (succs x) d) (met, put)).1, i :: ((l.drop j).foldl (stepS (succs x) d) (met, put)).2) := by
 intro q
 induction q with
 | zero =>
  intro j met put hq hj hu hv
  rw [List.drop_eq_nil_of_le (by omega)]
  refine Ev.step (f := fun _ => some (met, i :: put)) (fun k => ?_) (Ev.now _)
  have := hv.len
  simp only [cubbyref09_visit.l0]
  rw [zD (by omega), zJ, zC (by simp; omega)]
  rfl
 | succ q ih =>
  intro j met put hq hj hu hv
  have hm := hv.mlen
  have hlt : j < l.length := by omega
  obtain ⟨k0, k1⟩ := hlr l[j] (List.getElem_mem hlt)
  rw [drop_cons hlt, List.foldl_cons]
  have hh := has_ev met l[j] (by omega)
  have st : ∀ k, cubbyref09_visit.l0 (k + 1) x i met put l (j : Int) = (cubbyref09_has.f k met l[j]).bind fun t => if t = true then cubbyref09_visit.l0 k x i met put l ((j + 1 : Nat) : Int) else (cubbyref09_visit.f k x l[j] met put).bind fun b => cubbyref09_visit.l0 k x i b.1 b.2 l ((j + 1 : Nat) : Int) := fun k => by
   simp only [cubbyref09_visit.l0]
   rw [zC (by omega), zC (by omega), rd_get hlt, wrap_nat (by omega)]
  by_cases hk : l[j] ∈ met
  ·have e : stepS (succs x) d (met, put) l[j] = (met, put) := by unfold stepS; rw [zC hk]
   rw [e]
   refine Ev.step st (Ev.bind hh ?_)
   simp only [hk, decide_true, if_true]
   exact ih (j + 1) met put (by omega) (by omega) hu hv
  ·have e : stepS (succs x) d (met, put) l[j] = dfs (succs x) d l[j] (met, put) := by unfold stepS; rw [zD hk]
   rw [e]
   have hg := dfs_good rng d l[j] met put k0 k1 hk hu hv
   refine Ev.step st (Ev.bind hh ?_)
   simp only [hk, decide_false, Bool.false_eq_true, if_false]
   exact Ev.bind (H l[j] met put k0 k1 hk hu hv) (ih (j + 1) (dfs (succs x) d l[j] (met, put)).1 (dfs (succs x) d l[j] (met, put)).2 (by omega) (by omega) (Nat.le_trans (unmet_le hg.keep) hu) hg.inv)
theorem ref_visit (hs : Small x) : ∀ (d : Nat) (i : Int) (met put : List Int), 0 ≤ i → i < x.length → i ∉ met → unmet x.length met ≤ d → Inv x.length met put →
 Ev (fun k => cubbyref09_visit.f k x i met put) (dfs (succs x) d i (met, put)) := by
 intro d
 induction d with
 | zero =>
  intro i met put h0 h1 hi hu _
  have := unmet_pos h0 h1 hi
  omega
 | succ d ih =>
  intro i met put h0 h1 hi hu hv
  have hu' : unmet x.length (met ++ [i]) ≤ d := by have := unmet_lt h0 h1 hi; omega
  have hv' := hv.snoc h0 h1 hi
  have hm := hv'.mlen
  have hl := succs_len x i
  have h2 := ref_fold hx ih i (succs x i) (by omega) (succs_mem x i) _ 0 (met ++ [i]) put rfl (by omega) hu' hv'
  rw [List.drop_zero] at h2
  rw [dfs_succ]
  rw [List.length_append, List.length_singleton] at hm
  refine Ev.step (f := fun k => (cubbyref09_Succs.f k x i).bind fun t => cubbyref09_visit.l0 k x i (met ++ [i]) put t 0) (fun k => ?_) (Ev.bind (refsuccs_ev x i hs) h2)
  simp only [cubbyref09_visit.f, zJ, List.nil_append]
  rw [zC (by simp; omega), zC (by omega)]
theorem reforder_ev (hs : Small x) : Ev (fun k => cubbyref09_Order.f k x) (order (succs x) x.length) := by
 by_cases h : x.length = 0
 ·refine Ev.congr (f := fun _ => some []) (fun k => by unfold cubbyref09_Order.f; rw [zC (by omega)]) ?_
  unfold order
  rw [zC h]
  exact Ev.now _
 ·refine Ev.congr (f := fun k => (cubbyref09_visit.f k x 0 [] []).bind fun b => some b.2) (fun k => by unfold cubbyref09_Order.f; rw [zD (by omega)]) ?_
  refine Ev.bind (ref_visit hx hs x.length 0 [] [] (by omega) (by omega) (by simp) (by rw [unmet_nil]; exact Nat.le_refl _) ⟨by simp, by simp, List.nodup_nil, List.nodup_nil⟩) ?_
  unfold order
  rw [zD h]
  exact Ev.now _
omit hx in
theorem rdOf_bits {n : Nat} {met : List Int} {i : Int} (h0 : 0 ≤ i) (h1 : i < n) : rdOf false (bitsOf n met) i = decide (i ∈ met) := by
 show (bitsOf n met).getD i.toNat false = _
 rw [List.getD_eq_getElem?_getD, bits_get (by omega)]
 have : ((i.toNat : Nat) : Int) = i := by omega
 simp [this]
theorem own_fold {d : Nat} (H : ∀ (i : Int) (met put : List Int), 0 ≤ i → i < x.length → i ∉ met → unmet x.length met ≤ d → Inv x.length met put → Ev (fun k => flow_Order_1.f k x i (bitsOf x.length met) put.reverse) (bitsOf x.length (dfs (succs x) d i (met, put)).1, (dfs (succs x) d i (met, put)).2.reverse)) (i : Int) (l : List Int) (hl : l.length ≤ 1000) (hlr : ∀ k ∈ l, 0 ≤ k ∧ k < x.length) :
 ∀ (q j : Nat) (met put : List Int), l.length - j = q → j ≤ l.length → unmet x.length met ≤ d → Inv x.length met put →
 Ev (fun k => flow_Order_1.l0 k x i (bitsOf x.length met) put.reverse l (j : Int)) (bitsOf x.length ((l.drop j).foldl (stepS (succs x) d) (met, put)).1, ((l.drop j).foldl (stepS (succs x) d) (met, put)).2.reverse ++ [i]) := by
 intro q
 induction q with
 | zero =>
  intro j met put hq hj hu hv
  rw [List.drop_eq_nil_of_le (by omega)]
  refine Ev.step (f := fun _ => some (bitsOf x.length met, put.reverse ++ [i])) (fun k => ?_) (Ev.now _)
  have := hv.len
  simp only [flow_Order_1.l0]
  rw [zD (by omega), zC (by simp; omega)]
 | succ q ih =>
  intro j met put hq hj hu hv
  have hm := hv.mlen
  have hlt : j < l.length := by omega
  obtain ⟨k0, k1⟩ := hlr l[j] (List.getElem_mem hlt)
  rw [drop_cons hlt, List.foldl_cons]
  have st : ∀ k, flow_Order_1.l0 (k + 1) x i (bitsOf x.length met) put.reverse l (j : Int) = if decide (l[j] ∈ met) = true then flow_Order_1.l0 k x i (bitsOf x.length met) put.reverse l ((j + 1 : Nat) : Int) else (flow_Order_1.f k x l[j] (bitsOf x.length met) put.reverse).bind fun b => flow_Order_1.l0 k x i b.1 b.2 l ((j + 1 : Nat) : Int) := fun k => by
   simp only [flow_Order_1.l0]
   rw [zC (by omega), zC (by omega), rd_get hlt, zC k0, zC (by rw [bits_len]; omega), rdOf_bits k0 (by omega), wrap_nat (by omega)]
  by_cases hk : l[j] ∈ met
  ·have e : stepS (succs x) d (met, put) l[j] = (met, put) := by unfold stepS; rw [zC hk]
   rw [e]
   refine Ev.step st ?_
   simp only [hk, decide_true, if_true]
   exact ih (j + 1) met put (by omega) (by omega) hu hv
  ·have e : stepS (succs x) d (met, put) l[j] = dfs (succs x) d l[j] (met, put) := by unfold stepS; rw [zD hk]
   rw [e]
   have hg := dfs_good rng d l[j] met put k0 k1 hk hu hv
   refine Ev.step st ?_
   simp only [hk, decide_false, Bool.false_eq_true, if_false]
   exact Ev.bind (H l[j] met put k0 k1 hk hu hv) (ih (j + 1) (dfs (succs x) d l[j] (met, put)).1 (dfs (succs x) d l[j] (met, put)).2 (by omega) (by omega) (Nat.le_trans (unmet_le hg.keep) hu) hg.inv)
theorem own_visit (hs : Small x) : ∀ (d : Nat) (i : Int) (met put : List Int), 0 ≤ i → i < x.length → i ∉ met → unmet x.length met ≤ d → Inv x.length met put →
 Ev (fun k => flow_Order_1.f k x i (bitsOf x.length met) put.reverse) (bitsOf x.length (dfs (succs x) d i (met, put)).1, (dfs (succs x) d i (met, put)).2.reverse) := by
 intro d
 induction d with
 | zero =>
  intro i met put h0 h1 hi hu _
  have := unmet_pos h0 h1 hi
  omega
 | succ d ih =>
  intro i met put h0 h1 hi hu hv
  have hu' : unmet x.length (met ++ [i]) ≤ d := by have := unmet_lt h0 h1 hi; omega
  have hv' := hv.snoc h0 h1 hi
  have hl := succs_len x i
  have h2 := own_fold hx ih i (succs x i) (by omega) (succs_mem x i) _ 0 (met ++ [i]) put rfl (by omega) hu' hv'
  rw [List.drop_zero] at h2
  rw [dfs_succ]
  simp only [List.reverse_cons]
  refine Ev.step (f := fun k => (flow_Succs.f k x i).bind fun t => flow_Order_1.l0 k x i (bitsOf x.length (met ++ [i])) put.reverse t 0) (fun k => ?_) (Ev.bind (succs_ev x i hs) h2)
  simp only [flow_Order_1.f]
  rw [zC h0, zC (by rw [bits_len]; omega), bits_set h0 h1]
end
theorem swap_get {l : List Int} {a b : Nat} (ha : a < l.length) (hb : b < l.length) (i : Nat) : ((l.set a l[b]).set b l[a])[i]? = if i = b then some l[a] else if i = a then some l[b] else l[i]? := by
 rw [List.getElem?_set]
 by_cases h1 : b = i
 ·subst h1
  simp [hb]
 ·rw [zD h1, List.getElem?_set, zD (Ne.symm h1)]
  by_cases h2 : a = i
  ·subst h2
   simp [ha]
  ·rw [zD h2, zD (Ne.symm h2)]
theorem rev_loop (n : Nat) (l0 : List Int) (hn : l0.length = n) (hb : n ≤ 1000000000) : ∀ (d a : Nat) (l : List Int), n - 2 * a = d → l.length = n → 2 * a ≤ n + 1 →
 (∀ i, l[i]? = if i < a ∨ n - a ≤ i then l0.reverse[i]? else l0[i]?) → Ev (fun k => slices_Reverse_int_int.l0 k l (a : Int) ((n : Int) - 1 - a)) l0.reverse := by
 intro d
 induction d using Nat.strongRecOn with
 | _ d ih =>
  intro a l hd hl ha he
  by_cases h : (a : Int) < (n : Int) - 1 - a
  ·have h1 : a < l.length := by omega
   have h2 : n - 1 - a < l.length := by omega
   have e2 : ((n : Int) - 1 - a) = ((n - 1 - a : Nat) : Int) := by omega
   refine Ev.step (f := fun k => slices_Reverse_int_int.l0 k ((l.set a l[n - 1 - a]).set (n - 1 - a) l[a]) ((a + 1 : Nat) : Int) ((n : Int) - 1 - ((a + 1 : Nat) : Int))) (fun k => ?_) (ih (n - 2 * (a + 1)) (by omega) (a + 1) ((l.set a l[n - 1 - a]).set (n - 1 - a) l[a]) rfl (by rw [List.length_set, List.length_set]; exact hl) (by omega) (fun i => ?_))
   ·simp only [slices_Reverse_int_int.l0]
    rw [zC h, zC (by omega), zC (by omega), zC (by omega), zC (by omega), e2, rd_get h1, rd_get h2, wrap_nat (by omega), Int.toNat_natCast, Int.toNat_natCast]
    rw [show wrap64 (((n - 1 - a : Nat) : Int) - 1) = (n : Int) - 1 - ((a + 1 : Nat) : Int) from by rw [wrap_id (by omega) (by omega)]; omega]
   ·rw [swap_get h1 h2 i]
    have ea : l[a] = l0[a] := by
     have := he a
     rw [zD (by omega), List.getElem?_eq_getElem h1, List.getElem?_eq_getElem (by omega)] at this
     exact zI this
    have eb : l[n - 1 - a] = l0[n - 1 - a] := by
     have := he (n - 1 - a)
     rw [zD (by omega), List.getElem?_eq_getElem h2, List.getElem?_eq_getElem (by omega)] at this
     exact zI this
    by_cases hi : i = n - 1 - a
    ·subst hi
     rw [zC rfl, zC (by omega), List.getElem?_reverse (by omega), ea, List.getElem?_eq_getElem (by omega)]
     congr 2
     omega
    ·rw [zD hi]
     by_cases hi2 : i = a
     ·subst hi2
      rw [zC rfl, zC (by omega), List.getElem?_reverse (by omega), eb, List.getElem?_eq_getElem (by omega)]
      congr 2
      omega
     ·rw [zD hi2, he i]
      by_cases h3 : i < a ∨ n - a ≤ i
      ·rw [zC h3, zC (by omega)]
      ·rw [zD h3, zD (by omega)]
  ·refine Ev.step (f := fun _ => some l0.reverse) (fun k => ?_) (Ev.now _)
   simp only [slices_Reverse_int_int.l0]
   rw [zD h]
   congr 1
   apply List.ext_getElem?
   intro i
   rw [he i]
   split
   ·rfl
   ·rename_i h3
    have : i = a ∧ n = 2 * a + 1 := by omega
    obtain ⟨rfl, hn2⟩ := this
    rw [List.getElem?_reverse (by omega)]
    congr 1
    omega
theorem reverse_ev (l : List Int) (hb : l.length ≤ 1000000000) : Ev (fun k => slices_Reverse_int_int.f k l) l.reverse := by
 have := rev_loop l.length l rfl hb _ 0 l rfl rfl (by omega) (fun i => by
  split
  ·rename_i h
   rw [List.getElem?_eq_none (by omega), List.getElem?_eq_none (by simp; omega)]
  ·rfl)
 refine Ev.congr (f := fun k => slices_Reverse_int_int.l0 k l ((0 : Nat) : Int) ((l.length : Int) - 1 - ((0 : Nat) : Int))) (fun k => ?_) this
 unfold slices_Reverse_int_int.f
 rw [wrap_id (by omega) (by omega)]
 simp
theorem order_len (x : List (List SIns)) : (order (succs x) x.length).length ≤ x.length := nodup_len (order_nodup rng) (order_rng rng)
theorem order_ev {x : List (List SIns)} (hx : x.length ≤ 1000000) (hs : Small x) : Ev (fun k => flow_Order.f k x) (order (succs x) x.length) := by
 by_cases h : x.length = 0
 ·refine Ev.congr (f := fun _ => some []) (fun k => by unfold flow_Order.f; rw [zC (by omega)]) ?_
  unfold order
  rw [zC h]
  exact Ev.now _
 ·refine Ev.congr (f := fun k => (flow_Order_1.f k x 0 (bitsOf x.length []) ([] : List Int).reverse).bind fun b => slices_Reverse_int_int.f k b.2) (fun k => by unfold flow_Order.f; rw [zD (by omega), zC (by omega), bits_nil]; rfl) ?_
  refine Ev.bind (own_visit hx hs x.length 0 [] [] (by omega) (by omega) (by simp) (by rw [unmet_nil]; exact Nat.le_refl _) ⟨by simp, by simp, List.nodup_nil, List.nodup_nil⟩) ?_
  have hl := order_len x
  unfold order at hl ⊢
  rw [zD h] at hl ⊢
  have := reverse_ev (dfs (succs x) x.length 0 ([], [])).2.reverse (by simp; omega)
  rwa [List.reverse_reverse] at this
end Go.Proofs.YtpkimbkjjmbmcaaDoor.PlainOrder
namespace Go.Proofs.YtpkimbkjjmbmcaaDoor.PlainSpan
open Go Go.RowKit Go.Proofs.YtpkimbkjjmbmcaaDoorW.PrintWords Go.Proofs.YtpkimbkjjmbmcaaDoorW.PrintMore Go.Proofs.YtpkimbkjjmbmcaaDoor.Q Go.Proofs.YtpkimbkjjmbmcaaDoor.Plain Go.Proofs.YtpkimbkjjmbmcaaDoor.PlainIr Go.Proofs.YtpkimbkjjmbmcaaDoor.PlainName Go.Proofs.YtpkimbkjjmbmcaaDoor.PlainBits Go.Proofs.YtpkimbkjjmbmcaaDoor.PlainFix Go.Proofs.YtpkimbkjjmbmcaaDoor.PlainSuccs Go.Proofs.YtpkimbkjjmbmcaaDoor.PlainOne Go.Proofs.YtpkimbkjjmbmcaaDoor.PlainHeavy Go.Proofs.YtpkimbkjjmbmcaaDoor.PlainCheck Go.Proofs.YtpkimbkjjmbmcaaDoor.PlainLive Go.Proofs.YtpkimbkjjmbmcaaDoor.Dfs Go.Proofs.YtpkimbkjjmbmcaaDoor.PlainOrder
set_option linter.unusedVariables false
set_option linter.unusedSimpArgs false
structure Fit (pn : ByteArray) (pp : Int) (R : Nat) (bs : List (List SIns)) (z : List Nat) : Prop where
 fair : FairB bs
 check : checkE pn pp (R : Int) bs = 0
 ok : FuncOk pn pp (R : Int) bs
 sol : Sol R bs z
 low : at_ z 0 / 2 ^ pp.toNat = 0
 sets : Ev (fun k => live_sets.f k pn pp (R : Int) bs) (toI z)
 refin : Ev (fun k => cubbyref11_In.f k pn pp (R : Int) bs) (z.map (toL R))
 len : bs.length ≤ 8
 regs : R ≤ 24
 tot : total bs ≤ 60
theorem heavy12_loop (pn : ByteArray) (pp rg : Int) (bs : List (List SIns)) (hl : bs.length ≤ 8) (hr : ∀ b ∈ bs, b.length ≤ 1000000000000000) : ∀ (d j n : Nat), j + d = bs.length → n ≤ 1000000000000000 * j →
 Ev (fun k => cubbylaw12_heavy.l0 k (n : Int) (j : Int) pn pp rg bs) (decide (60 < n + total (bs.drop j))) := by
 intro d
 induction d with
 | zero =>
  intro j n hj hn
  rw [List.drop_eq_nil_of_le (by omega)]
  refine Ev.step (f := fun _ => some (decide (60 < n + total []))) (fun k => ?_) (Ev.now _)
  simp only [cubbylaw12_heavy.l0]
  rw [zD (by omega)]
  congr 1
  apply decide_eq_decide.2
  unfold total
  omega
 | succ d ih =>
  intro j n hj hn
  have hjl : j < bs.length := by omega
  have h1 := hr _ (List.getElem_mem hjl)
  rw [drop_cons hjl]
  have := ih (j + 1) (n + bs[j].length) (by omega) (by omega)
  have e : decide (60 < n + total (bs[j] :: bs.drop (j + 1))) = decide (60 < n + bs[j].length + total (bs.drop (j + 1))) := by
   apply decide_eq_decide.2
   simp only [total]
   omega
  rw [e]
  refine Ev.step (fun k => ?_) this
  simp only [cubbylaw12_heavy.l0]
  rw [zC (by omega), zC (by omega), rdL_get hjl, wrap_nat (by omega), wrap_id (by omega) (by omega)]
  rfl
theorem heavy12_ev (pn : ByteArray) (pp rg : Int) (bs : List (List SIns)) (hF : FairB bs) : ∃ h, Ev (fun k => cubbylaw12_heavy.f k pn pp rg bs) h ∧ (h = false → ∃ (R : Nat) (z : List Nat), rg = R ∧ Fit pn pp R bs z) := by
 have hyes : Ev (fun k => cubbylaw12_heavy.j0 k true pn pp rg bs) true := Ev.step (f := fun _ => some true) (fun k => by simp only [cubbylaw12_heavy.j0]; rw [zC trivial]) (Ev.now _)
 by_cases c0 : (pn.size : Int) > 100
 ·exact ⟨true, Ev.congr (fun k => by unfold cubbylaw12_heavy.f; rw [zC c0]) hyes, by simp⟩
 by_cases c1 : (bs.length : Int) > 8
 ·exact ⟨true, Ev.congr (fun k => by unfold cubbylaw12_heavy.f; rw [zD c0, zC c1]) hyes, by simp⟩
 by_cases c2 : rg > 24
 ·exact ⟨true, Ev.congr (fun k => by unfold cubbylaw12_heavy.f; rw [zD c0, zD c1, zC c2]) hyes, by simp⟩
 have h3 := refcheck_ev pn pp rg bs hF
 by_cases c3 : checkE pn pp rg bs = 0
 ·have F := checkE_zero c3
  obtain ⟨R, rfl⟩ := regs_nat F
  obtain ⟨z, hz, e1, e2⟩ := both pn pp hF F c3
  obtain ⟨k1, k2⟩ := checks pn hF F c3 hz e1 e2
  by_cases c4 : at_ z 0 / 2 ^ pp.toNat = 0
  ·rw [zC c4] at k2
   have hL := heavy12_loop pn pp (R : Int) bs (by omega) hF.row bs.length 0 0 (by omega) (by omega)
   rw [List.drop_zero] at hL
   refine ⟨_, Ev.congr (fun k => by unfold cubbylaw12_heavy.f; rw [zD c0, zD c1, zD c2]) (Ev.bind k2 (Ev.step (fun k => by simp only [cubbylaw12_heavy.j0]; rw [zD (by simp)]; rfl) hL)), fun h => ⟨R, z, rfl, hF, c3, F, hz, c4, e1, e2, by omega, by omega, ?_⟩⟩
   have := of_decide_eq_false h
   omega
  ·rw [zD c4] at k2
   exact ⟨true, Ev.congr (fun k => by unfold cubbylaw12_heavy.f; rw [zD c0, zD c1, zD c2]) (Ev.bind k2 hyes), by simp⟩
 ·have h4 : Ev (fun k => cubbyref11_Check.f k pn pp rg bs) (checkE pn pp rg bs) := Ev.bind h3 (Ev.congr (f := fun _ => some (checkE pn pp rg bs)) (fun k => by rw [zD c3]) (Ev.now _))
  refine ⟨true, Ev.congr (fun k => by unfold cubbylaw12_heavy.f; rw [zD c0, zD c1, zD c2]) (Ev.bind h4 ?_), by simp⟩
  exact Ev.congr (fun k => by rw [show (checkE pn pp rg bs != 0) = true by simp; exact c3]) hyes

def nums (n m : Nat) : List Int := (List.range m).map (fun i : Nat => ((n + 1 + i : Nat) : Int))
theorem nums_len (n m : Nat) : (nums n m).length = m := by simp [nums]
theorem nums_succ (n m : Nat) : nums n (m + 1) = nums n m ++ [((n + m + 1 : Nat) : Int)] := by
 unfold nums
 rw [List.range_succ, List.map_append, List.map_singleton]
 congr 3
 omega
def lay (bs : List (List SIns)) : List Int → Nat → List (List Int) → List (List Int)
 | [], _, x => x
 | b :: l, n, x => lay bs l (n + (blockAt bs b).length) (x.set b.toNat (nums n (blockAt bs b).length))
def places (bs : List (List SIns)) : List (List Int) := lay bs (order (succs bs) bs.length) 0 (List.replicate bs.length [])
theorem lay_len (bs : List (List SIns)) : ∀ (l : List Int) (n : Nat) (x : List (List Int)), (lay bs l n x).length = x.length
 | [], _, x => rfl
 | b :: l, n, x => by
  unfold lay
  rw [lay_len bs l, List.length_set]
def sumOf (bs : List (List SIns)) : List Int → Nat
 | [] => 0
 | b :: l => (blockAt bs b).length + sumOf bs l
section
variable (pn : ByteArray) (pp rg : Int) (bs : List (List SIns)) (hr : ∀ b ∈ bs, b.length ≤ 1000)
include hr
theorem own_row (ord : List Int) (hol : ord.length ≤ 1000) (i : Nat) (hi : i < ord.length) (b : Nat) (hb : b < bs.length) (r : List (List Int)) : ∀ (d j n : Nat) (x : List (List Int)), j + d = (bs[b]).length → n ≤ 1000000000 → x.length = bs.length → x.getD b [] = nums n j →
 Ev (fun k => span_Places.l0 k (x.set b (nums n (bs[b]).length)) ((n + (bs[b]).length : Nat) : Int) ord (ord.length : Int) ((i + 1 : Nat) : Int) pn pp rg bs) r →
 Ev (fun k => span_Places.l1 k x ((n + j : Nat) : Int) (b : Int) ord (ord.length : Int) (i : Int) ((bs[b]).length : Int) (j : Int) pn pp rg bs) r := by
 have hbl := hr _ (List.getElem_mem hb)
 intro d
 induction d with
 | zero =>
  intro j n x hj hn hx hxb hE
  obtain rfl : j = (bs[b]).length := by omega
  have : x.set b (nums n (bs[b]).length) = x := by
   rw [← hxb, List.getD_eq_getElem?_getD, List.getElem?_eq_getElem (by omega : b < x.length)]
   exact List.set_getElem_self _
  rw [this] at hE
  refine Ev.step (fun k => ?_) hE
  simp only [span_Places.l1]
  rw [zD (by omega), wrap_nat (by omega)]
 | succ d ih =>
  intro j n x hj hn hx hxb hE
  have e1 : rd_LInt x (b : Int) = nums n j := hxb
  have h2 := ih (j + 1) n (x.set b (nums n (j + 1))) (by omega) hn (by rw [List.length_set]; exact hx) (by rw [List.getD_eq_getElem?_getD, List.getElem?_set_self (by omega)]; rfl) (by rw [List.set_set]; exact hE)
  refine Ev.step (fun k => ?_) h2
  simp only [span_Places.l1]
  rw [zC (by omega), zC (by omega), zC (by omega), e1, zC (by rw [nums_len]; omega), wrap_nat (by omega), wrap_nat (by omega), Int.toNat_natCast, nums_succ]
  rfl
theorem own_all (ord : List Int) (hol : ord.length ≤ 1000) (hd : ord.Nodup) (hrg : ∀ v ∈ ord, 0 ≤ v ∧ v < bs.length) : ∀ (d i n : Nat) (x : List (List Int)), i + d = ord.length → n ≤ 1000 * i → x.length = bs.length → (∀ v ∈ ord.drop i, x.getD v.toNat [] = []) →
 Ev (fun k => span_Places.l0 k x (n : Int) ord (ord.length : Int) (i : Int) pn pp rg bs) (lay bs (ord.drop i) n x) := by
 intro d
 induction d with
 | zero =>
  intro i n x hi hn hx _
  rw [List.drop_eq_nil_of_le (by omega)]
  exact Ev.step (f := fun _ => some x) (fun k => by simp only [span_Places.l0]; rw [zD (by omega)]) (Ev.now _)
 | succ d ih =>
  intro i n x hi hn hx hz
  have hil : i < ord.length := by omega
  have hm := hrg _ (List.getElem_mem hil)
  have hdd : (ord.drop i).Nodup := hd.sublist (List.drop_sublist _ _)
  rw [drop_cons hil] at hz hdd
  have hnd := List.nodup_cons.1 hdd
  rw [drop_cons hil]
  unfold lay
  obtain ⟨b, hb⟩ : ∃ b : Nat, ord[i] = (b : Int) := ⟨(ord[i]).toNat, by omega⟩
  have hbl : b < bs.length := by omega
  have hblk : blockAt bs ord[i] = bs[b] := by
   unfold blockAt
   rw [hb, Int.toNat_natCast, List.getD_eq_getElem?_getD, List.getElem?_eq_getElem hbl]
   rfl
  have hlen := hr _ (List.getElem_mem hbl)
  have hxb := hz _ List.mem_cons_self
  rw [hb, Int.toNat_natCast] at hxb
  rw [hblk, hb, Int.toNat_natCast]
  have h1 := ih (i + 1) (n + (bs[b]).length) (x.set b (nums n (bs[b]).length)) (by omega) (by omega) (by rw [List.length_set]; exact hx) (fun v hv => by
   have hv2 := hrg v (List.mem_of_mem_drop hv)
   have hne : b ≠ v.toNat := by
    intro e
    apply hnd.1
    have : ord[i] = v := by omega
    rw [this]
    exact hv
   rw [List.getD_eq_getElem?_getD, List.getElem?_set_ne hne, ← List.getD_eq_getElem?_getD]
   exact hz v (List.mem_cons_of_mem _ hv))
  have h2 := own_row pn pp rg bs hr ord hol i hil b hbl _ (bs[b]).length 0 n x (by omega) (by omega) hx (by rw [hxb]; rfl) h1
  refine Ev.step (fun k => ?_) h2
  simp only [span_Places.l0]
  rw [zC (by omega), zC (by omega), zC (by omega), rd_get hil, hb, zC (by omega), zC (by omega), rdL_get hbl]
  rfl
end
theorem Fit.small {pn : ByteArray} {pp : Int} {R : Nat} {bs : List (List SIns)} {z : List Nat} (T : Fit pn pp R bs z) : BlocksOk R bs := ok_blocks T.ok T.fair
theorem Fit.pos {pn : ByteArray} {pp : Int} {R : Nat} {bs : List (List SIns)} {z : List Nat} (T : Fit pn pp R bs z) : 0 < bs.length := by
 have := T.ok.shape.2.2.2.2.1
 omega
theorem order_ok (bs : List (List SIns)) : (order (succs bs) bs.length).Nodup ∧ ∀ v ∈ order (succs bs) bs.length, 0 ≤ v ∧ v < bs.length := ⟨order_nodup rng, order_rng rng⟩
theorem places_ev {pn : ByteArray} {pp : Int} {R : Nat} {bs : List (List SIns)} {z : List Nat} (T : Fit pn pp R bs z) : Ev (fun k => span_Places.f k pn pp (R : Int) bs) (places bs) := by
 have O := T.small
 have hl := T.len
 obtain ⟨k1, k2⟩ := checks pn T.fair T.ok T.check T.sol T.sets T.refin
 rw [zC T.low] at k1
 obtain ⟨h1, h2⟩ := order_ok bs
 have hol := order_len bs
 have h3 := own_all pn pp (R : Int) bs O.row (order (succs bs) bs.length) (by omega) h1 h2 (order (succs bs) bs.length).length 0 0 (List.replicate bs.length []) (by omega) (by omega) (by simp) (fun v hv => by
  rw [List.getD_eq_getElem?_getD, List.getElem?_replicate]
  split <;> rfl)
 rw [List.drop_zero] at h3
 refine Ev.bind k1 (Ev.congr (fun k => by rw [zC rfl, zC (by omega), zC (by omega), Int.toNat_natCast]) (Ev.bind (order_ev (by omega) O.small) h3))
end Go.Proofs.YtpkimbkjjmbmcaaDoor.PlainSpan
namespace Go.Proofs.YtpkimbkjjmbmcaaDoor.PlainSpan
open Go Go.RowKit Go.Proofs.YtpkimbkjjmbmcaaDoorW.PrintWords Go.Proofs.YtpkimbkjjmbmcaaDoorW.PrintMore Go.Proofs.YtpkimbkjjmbmcaaDoor.Q Go.Proofs.YtpkimbkjjmbmcaaDoor.Plain Go.Proofs.YtpkimbkjjmbmcaaDoor.PlainIr Go.Proofs.YtpkimbkjjmbmcaaDoor.PlainBits Go.Proofs.YtpkimbkjjmbmcaaDoor.PlainFix Go.Proofs.YtpkimbkjjmbmcaaDoor.PlainSuccs Go.Proofs.YtpkimbkjjmbmcaaDoor.PlainHeavy Go.Proofs.YtpkimbkjjmbmcaaDoor.PlainCheck Go.Proofs.YtpkimbkjjmbmcaaDoor.PlainLive Go.Proofs.YtpkimbkjjmbmcaaDoor.Dfs Go.Proofs.YtpkimbkjjmbmcaaDoor.PlainOrder
set_option linter.unusedVariables false
set_option linter.unusedSimpArgs false
def blen (bs : List (List SIns)) (v : Int) : Nat := (blockAt bs v).length
theorem getD_set_ne {x : List (List Int)} {a b : Nat} {r : List Int} (h : a ≠ b) : (x.set a r).getD b [] = x.getD b [] := by
 rw [List.getD_eq_getElem?_getD, List.getD_eq_getElem?_getD, List.getElem?_set_ne h]
theorem getD_set_eq {x : List (List Int)} {a : Nat} {r : List Int} (h : a < x.length) : (x.set a r).getD a [] = r := by
 rw [List.getD_eq_getElem?_getD, List.getElem?_set_self h]
 rfl
theorem lay_out (bs : List (List SIns)) : ∀ (l : List Int) (n : Nat) (x : List (List Int)) (v : Int), (∀ w ∈ l, 0 ≤ w) → 0 ≤ v → v ∉ l → (lay bs l n x).getD v.toNat [] = x.getD v.toNat []
 | [], _, _, _, _, _, _ => rfl
 | b :: l, n, x, v, hp, h0, hv => by
  have hb := hp b List.mem_cons_self
  have hne : b ≠ v := fun e => hv (e ▸ List.mem_cons_self)
  unfold lay
  rw [lay_out bs l _ _ v (fun w hw => hp w (List.mem_cons_of_mem _ hw)) h0 (fun h => hv (List.mem_cons_of_mem _ h)), getD_set_ne (by omega)]
structure Starts (bs : List (List SIns)) (l : List Int) (n : Nat) (p : List (List Int)) (S : Int → Nat) : Prop where
 low : ∀ v ∈ l, n ≤ S v
 high : ∀ v ∈ l, S v + blen bs v ≤ n + sumOf bs l
 row : ∀ v ∈ l, p.getD v.toNat [] = nums (S v) (blen bs v)
 apart : ∀ v ∈ l, ∀ w ∈ l, v ≠ w → S v + blen bs v ≤ S w ∨ S w + blen bs w ≤ S v
 full : ∀ y, n < y → y ≤ n + sumOf bs l → ∃ v ∈ l, S v < y ∧ y ≤ S v + blen bs v
def tl : List (List Int) → Nat
 | [] => 0
 | r :: x => r.length + tl x
theorem nil_get (n i : Nat) : (List.replicate n ([] : List Int)).getD i [] = [] := by
 rw [List.getD_eq_getElem?_getD, List.getElem?_replicate]
 split <;> rfl
def ordOf (bs : List (List SIns)) : List Int := order (succs bs) bs.length
theorem places_len (bs : List (List SIns)) : (places bs).length = bs.length := by
 unfold places
 rw [lay_len, List.length_replicate]
theorem places_out {bs : List (List SIns)} {v : Int} (h0 : 0 ≤ v) (h : v ∉ ordOf bs) : (places bs).getD v.toNat [] = [] := by
 obtain ⟨h1, h2⟩ := order_ok bs
 unfold places
 rw [lay_out bs _ _ _ v (fun w hw => (h2 w hw).1) h0 h, nil_get]
end Go.Proofs.YtpkimbkjjmbmcaaDoor.PlainSpan
namespace Go.Proofs.YtpkimbkjjmbmcaaDoor.PlainLive
open Go Go.RowKit Go.Proofs.YtpkimbkjjmbmcaaDoorW.PrintWords Go.Proofs.YtpkimbkjjmbmcaaDoorW.PrintMore Go.Proofs.YtpkimbkjjmbmcaaDoor.Q Go.Proofs.YtpkimbkjjmbmcaaDoor.Plain Go.Proofs.YtpkimbkjjmbmcaaDoor.PlainIr Go.Proofs.YtpkimbkjjmbmcaaDoor.PlainName Go.Proofs.YtpkimbkjjmbmcaaDoor.PlainBits Go.Proofs.YtpkimbkjjmbmcaaDoor.PlainFix Go.Proofs.YtpkimbkjjmbmcaaDoor.PlainSuccs Go.Proofs.YtpkimbkjjmbmcaaDoor.PlainOne Go.Proofs.YtpkimbkjjmbmcaaDoor.PlainHeavy Go.Proofs.YtpkimbkjjmbmcaaDoor.PlainCheck
set_option linter.unusedVariables false
set_option linter.unusedSimpArgs false
theorem toL_low {R x : Nat} (h0 : 0 < x) (h : x < 2 ^ R) (hR : R ≤ 64) : toL R x = (Lib.ctz 64 x : Int) :: toL R (x &&& (x - 1)) := by
 unfold toL
 rw [toN_low h0 h hR]
 rfl
theorem and_lt {x : Nat} (h0 : 0 < x) : x &&& (x - 1) < x := Nat.lt_of_le_of_lt Nat.and_le_right (by omega)
theorem list_ev {R : Nat} (hR : R ≤ 64) {s : Nat} (hs : s < 2 ^ R) : Ev (fun k => live_set_list.f k (s : Int)) (toL R s) := by
 have h : ∀ (d s : Nat) (out : List Int), s ≤ d → s < 2 ^ R → out.length + (toL R s).length ≤ 64 → Ev (fun k => live_set_list.l0 k (s : Int) out) (out ++ toL R s) := by
  intro d
  induction d with
  | zero =>
   intro s out hd hs ho
   obtain rfl : s = 0 := by omega
   rw [toL_zero, List.append_nil]
   exact Ev.step (f := fun _ => some out) (fun k => by simp only [live_set_list.l0]; rw [zC (by omega)]) (Ev.now _)
  | succ d ih =>
   intro s out hd hs ho
   by_cases c : s = 0
   ·subst c
    rw [toL_zero, List.append_nil]
    exact Ev.step (f := fun _ => some out) (fun k => by simp only [live_set_list.l0]; rw [zC (by omega)]) (Ev.now _)
   ·have h0 : 0 < s := by omega
    have h64 := lt64 hR hs
    have hlt := and_lt h0
    rw [toL_low h0 hs hR] at ho ⊢
    rw [List.length_cons] at ho
    have := ih (s &&& (s - 1)) (out ++ [(Lib.ctz 64 s : Int)]) (by omega) (by omega) (by rw [List.length_append, List.length_singleton]; omega)
    rw [List.append_assoc, List.singleton_append] at this
    refine Ev.step (fun k => ?_) this
    simp only [live_set_list.l0]
    have e1 : IntKind.u64.wrap ((s : Int) - 1) = ((s - 1 : Nat) : Int) := by
     rw [IntKind.wrap_u64]
     omega
    have e2 : bits_TrailingZeros64.f (s : Int) = some (Lib.ctz 64 s : Int) := by
     unfold bits_TrailingZeros64.f
     rw [zC (by omega), Int.toNat_natCast]
    rw [zD (by omega), e2, zJ, zC (by omega), e1, u64_and_nat _ _ (by omega) (by omega)]
 have h1 := toL_len R s
 exact h s s [] (Nat.le_refl _) hs (by rw [List.length_nil]; omega)
section
variable (pn : ByteArray) (pp : Int) {R : Nat} {bs : List (List SIns)} (hF : FairB bs) (F : FuncOk pn pp (R : Int) bs) (hc : checkE pn pp (R : Int) bs = 0) {z : List Nat} (hz : Sol R bs z)
 (h1 : Ev (fun k => live_sets.f k pn pp (R : Int) bs) (toI z)) (h2 : Ev (fun k => cubbyref11_In.f k pn pp (R : Int) bs) (z.map (toL R)))
include hF F hc hz h1
theorem in_ev : Ev (fun k => live_In.f k pn pp (R : Int) bs) (z.map (toL R)) := by
 have O := ok_blocks F hF
 have hbl := O.len
 have hzl := hz.len
 have hR := O.le
 have h3 := check_ev pn pp (R : Int) bs hF
 rw [hc] at h3
 refine Ev.bind h3 (Ev.congr (fun k => by rw [zC rfl]) (Ev.bind h1 ?_))
 have h : ∀ (d j : Nat), j + d = z.length → Ev (fun k => live_In.l0 k ((z.take j).map (toL R)) (toI z) ((toI z).length : Int) (j : Int)) (z.map (toL R)) := by
  intro d
  induction d with
  | zero =>
   intro j hj
   rw [List.take_of_length_le (by omega)]
   exact Ev.step (f := fun _ => some (z.map (toL R))) (fun k => by simp only [live_In.l0]; rw [zD (by rw [toI_len]; omega)]) (Ev.now _)
  | succ d ih =>
   intro j hj
   have hjl : j < z.length := by omega
   have := ih (j + 1) (by omega)
   rw [List.take_succ_eq_append_getElem hjl, List.map_append, List.map_singleton] at this
   have e : at_ z j = z[j] := by
    unfold at_
    rw [List.getD_eq_getElem?_getD, List.getElem?_eq_getElem hjl]
    rfl
   have hl := list_ev hR (hz.lt j)
   refine Ev.step (fun k => by simp only [live_In.l0]; rw [zC (by rw [toI_len]; omega), zC (by omega), zC (by rw [toI_len]; omega), rd_toI, Int.toNat_natCast]) (Ev.bind hl ?_)
   rw [← e] at this
   exact Ev.congr (fun k => by rw [zC (by rw [List.length_map, List.length_take]; omega), wrap_nat (by omega)]) this
 have := h z.length 0 (by omega)
 rw [List.take_zero] at this
 exact this
theorem aheadL_ev {b i : Nat} (hb : b < bs.length) (hi : i ≤ (bs.getD b []).length) : Ev (fun k => live_Ahead.f k pn pp (R : Int) bs (b : Int) (i : Int)) (toL R (aheadN bs z b i)) := by
 have O := ok_blocks F hF
 have hR := O.le
 have h3 := check_ev pn pp (R : Int) bs hF
 rw [hc] at h3
 refine Ev.bind h3 (Ev.congr (fun k => by rw [zC rfl, zD (by omega), zD (by omega), zD (by omega), zC (by omega), zC (by omega), rd_row hb, zG (by omega)]) ?_)
 refine Ev.step (fun k => by simp only [live_Ahead.j0]; rw [zD Bool.false_ne_true]) (Ev.bind h1 (Ev.bind (ahead_ev pn pp O hz.len hz.lt hb hi) (Ev.bind (list_ev hR (aheadN_lt O hz hb)) (Ev.now _))))
end
section
variable (pn : ByteArray) (pp : Int) {R : Nat} {bs : List (List SIns)} (hF : FairB bs) (F : FuncOk pn pp (R : Int) bs) (hc : checkE pn pp (R : Int) bs = 0) {z : List Nat} (hz : Sol R bs z)
 (h2 : Ev (fun k => cubbyref11_In.f k pn pp (R : Int) bs) (z.map (toL R)))
include hF F hc hz h2
theorem refaheadL_ev {b i : Nat} (hb : b < bs.length) (hi : i ≤ (bs.getD b []).length) : Ev (fun k => cubbyref11_Ahead.f k pn pp (R : Int) bs (b : Int) (i : Int)) (toL R (aheadN bs z b i)) := by
 have O := ok_blocks F hF
 have hR := O.le
 have h3 := refcheck_ev pn pp (R : Int) bs hF
 rw [hc] at h3
 refine Ev.bind h3 (Ev.congr (fun k => by rw [zC rfl, zD (by omega), zD (by omega), zD (by omega), zC (by omega), zC (by omega), rd_row hb, zG (by omega)]) ?_)
 refine Ev.step (fun k => by simp only [cubbyref11_Ahead.j0]; rw [zD Bool.false_ne_true]) (Ev.bind h2 (Ev.bind (refahead_ev pn pp O hz.len hz.lt hb hi) (Ev.now _)))
end
section
variable (pn : ByteArray) (pp rg : Int) {bs : List (List SIns)} (hF : FairB bs) (hc : checkE pn pp rg bs = 0)
include hF hc
end
end Go.Proofs.YtpkimbkjjmbmcaaDoor.PlainLive
namespace Go.Proofs.YtpkimbkjjmbmcaaDoor.PlainSpan
open Go Go.RowKit Go.Proofs.YtpkimbkjjmbmcaaDoorW.PrintWords Go.Proofs.YtpkimbkjjmbmcaaDoorW.PrintMore Go.Proofs.YtpkimbkjjmbmcaaDoor.Q Go.Proofs.YtpkimbkjjmbmcaaDoor.Plain Go.Proofs.YtpkimbkjjmbmcaaDoor.PlainIr Go.Proofs.YtpkimbkjjmbmcaaDoor.PlainBits Go.Proofs.YtpkimbkjjmbmcaaDoor.PlainFix Go.Proofs.YtpkimbkjjmbmcaaDoor.PlainSuccs Go.Proofs.YtpkimbkjjmbmcaaDoor.PlainHeavy Go.Proofs.YtpkimbkjjmbmcaaDoor.PlainCheck Go.Proofs.YtpkimbkjjmbmcaaDoor.PlainLive Go.Proofs.YtpkimbkjjmbmcaaDoor.Dfs Go.Proofs.YtpkimbkjjmbmcaaDoor.PlainOrder
set_option linter.unusedVariables false
set_option linter.unusedSimpArgs false
structure IsSpan (s : SSpan) (Q : Int → Prop) : Prop where
 none : (∀ p, ¬ Q p) → s = ⟨-1, -1⟩
 some : (∃ p, Q p) → Q s.f0 ∧ Q s.f1 ∧ ∀ p, Q p → s.f0 ≤ p ∧ p ≤ s.f1
 pos : ∀ p, Q p → 0 ≤ p
theorem IsSpan.ext {s : SSpan} {Q Q' : Int → Prop} (hs : IsSpan s Q) (h : ∀ p, Q p ↔ Q' p) : IsSpan s Q' := by
 have : Q = Q' := funext fun p => propext (h p)
 exact this ▸ hs
def takeS (s : SSpan) (p : Int) : SSpan := if s.f0 < 0 then ⟨p, p⟩ else ⟨mn s.f0 p, mx s.f1 p⟩
theorem takeS_is {s : SSpan} {Q : Int → Prop} {p : Int} (hs : IsSpan s Q) (hp : 0 ≤ p) : IsSpan (takeS s p) (fun q => Q q ∨ q = p) := by
 have hpos : ∀ q, Q q ∨ q = p → 0 ≤ q := fun q hq => hq.elim (hs.pos q) (fun e => e ▸ hp)
 refine ⟨fun h => absurd (Or.inr rfl) (h p), fun _ => ?_, hpos⟩
 unfold takeS
 by_cases c : ∃ q, Q q
 ·obtain ⟨s0, s1, s2⟩ := hs.some c
  have := hs.pos _ s0
  rw [zD (by omega)]
  have h2 := s2 _ s0
  unfold mn mx
  refine ⟨?_, ?_, ?_⟩
  ·show _ ∨ _
   simp only
   split
   ·exact .inr rfl
   ·exact .inl s0
  ·show _ ∨ _
   simp only
   split
   ·exact .inr rfl
   ·exact .inl s1
  ·intro q hq
   simp only
   rcases hq with hq | rfl
   ·have := s2 q hq
    split <;> split <;> omega
   ·split <;> split <;> omega
 ·have c' : ∀ q, ¬ Q q := fun q hq => c ⟨q, hq⟩
  have e := hs.none c'
  rw [e, zC (by decide)]
  refine ⟨.inr rfl, .inr rfl, fun q hq => ?_⟩
  rcases hq with hq | rfl
  ·exact absurd hq (c' q)
  ·exact ⟨Int.le_refl _, Int.le_refl _⟩
theorem none_is : IsSpan ⟨-1, -1⟩ (fun _ => False) := ⟨fun _ => rfl, fun ⟨_, h⟩ => h.elim, fun _ h => h.elim⟩
structure SInv (R : Nat) (o : List SSpan) (Q : Int → Int → Prop) : Prop where
 len : o.length = R
 is : ∀ r : Nat, r < R → IsSpan (o.getD r zSpan) (Q r)
theorem SInv.ext {R : Nat} {o : List SSpan} {Q Q' : Int → Int → Prop} (h : SInv R o Q) (e : ∀ (r : Nat) p, r < R → (Q r p ↔ Q' r p)) : SInv R o Q' := ⟨h.len, fun r hr => (h.is r hr).ext (fun p => e r p hr)⟩
def takeP (r p : Int) (o : List SSpan) : List SSpan := o.set r.toNat (takeS (rd_TSpan o r) p)
theorem take_eq {o : List SSpan} {r p : Int} (h0 : 0 ≤ r) (h1 : r < (o.length : Int)) : span_Spans_1.f r p o = some (takeP r p o) := by
 have hl : r.toNat < o.length := by omega
 have g : ∀ s : SSpan, rd_TSpan (o.set r.toNat s) r = s := by
  intro s
  unfold rd_TSpan
  rw [List.getD_eq_getElem?_getD, List.getElem?_set_self hl]
  rfl
 unfold span_Spans_1.f takeP takeS
 rw [zC h0, zC h1]
 by_cases c : (rd_TSpan o r).f0 < 0
 ·rw [zC c, zC c]
  simp only [zJ, g, List.set_set]
  unfold mn mx
  first | rfl | simp
 ·rw [zD c, zD c]
  simp only [zJ, g, List.set_set]
theorem takeP_inv {R : Nat} {o : List SSpan} {Q : Int → Int → Prop} {r p : Int} (h : SInv R o Q) (h0 : 0 ≤ r) (h1 : r < R) (hp : 0 ≤ p) : SInv R (takeP r p o) (fun r' q => Q r' q ∨ (r' = r ∧ q = p)) := by
 have hl := h.len
 refine ⟨by unfold takeP; rw [List.length_set]; exact hl, fun i hi => ?_⟩
 unfold takeP
 by_cases c : i = r.toNat
 ·have e : (i : Int) = r := by omega
  have h2 := takeS_is (h.is i hi) hp
  rw [List.getD_eq_getElem?_getD, c, List.getElem?_set_self (by omega)]
  have h3 : rd_TSpan o r = o.getD i zSpan := by unfold rd_TSpan; rw [c]
  show IsSpan (takeS (rd_TSpan o r) p) _
  rw [h3]
  refine h2.ext (fun q => ?_)
  rw [← c, e]
  simp
 ·rw [List.getD_eq_getElem?_getD, List.getElem?_set_ne (fun e => c e.symm), ← List.getD_eq_getElem?_getD]
  refine (h.is i hi).ext (fun q => ?_)
  have : ¬ ((i : Int) = r) := by omega
  simp [this]
section
variable {R : Nat}
theorem w2 {n : Nat} (hn : n ≤ 1000000) : wrap64 (2 * (n : Int)) = 2 * n ∧ wrap64 (wrap64 (2 * (n : Int)) + 1) = 2 * n + 1 := by
 have h : wrap64 (2 * (n : Int)) = 2 * n := wrap_id (by omega) (by omega)
 exact ⟨h, by rw [h]; exact wrap_id (by omega) (by omega)⟩
theorem ahead_inv {n : Nat} (hn : n ≤ 1000000) {l : List Int} (hl : l.length ≤ 4000000000000000000) (hr : ∀ r ∈ l, 0 ≤ r ∧ r < R) {o : List SSpan} {Q : Int → Int → Prop} (h : SInv R o Q) :
 ∃ o', Ev (fun k => span_Spans_2.f k (n : Int) l o) o' ∧ SInv R o' (fun r p => Q r p ∨ (r ∈ l ∧ p = 2 * n)) := by
 have key : ∀ (d j : Nat) (o : List SSpan) (Q : Int → Int → Prop), j + d = l.length → SInv R o Q → ∃ o', Ev (fun k => span_Spans_2.l0 k (n : Int) l (j : Int) o) o' ∧ SInv R o' (fun r p => Q r p ∨ (r ∈ l.drop j ∧ p = 2 * n)) := by
  intro d
  induction d with
  | zero =>
   intro j o Q hj h
   refine ⟨o, Ev.step (f := fun _ => some o) (fun k => by simp only [span_Spans_2.l0]; rw [zD (by omega)]) (Ev.now _), h.ext (fun r p hr => ?_)⟩
   rw [List.drop_eq_nil_of_le (by omega)]
   simp
  | succ d ih =>
   intro j o Q hj h
   have hjl : j < l.length := by omega
   have hm := hr _ (List.getElem_mem hjl)
   have ho := h.len
   obtain ⟨o', h1, h2⟩ := ih (j + 1) _ _ (by omega) (takeP_inv (p := 2 * n) h hm.1 hm.2 (by omega))
   refine ⟨o', Ev.step (fun k => ?_) h1, h2.ext (fun r p hr => ?_)⟩
   ·simp only [span_Spans_2.l0]
    rw [zC (by omega), zC (by omega), rd_get hjl, (w2 hn).1, take_eq hm.1 (by omega), zJ, wrap_nat (by omega)]
   ·rw [drop_cons hjl, List.mem_cons, or_and_right, or_assoc]
 obtain ⟨o', h1, h2⟩ := key l.length 0 o Q (by omega) h
 rw [List.drop_zero] at h2
 exact ⟨o', h1, h2⟩
theorem ins_inv {n : Nat} (hn : n ≤ 1000000) {x : SIns} (O : RegsOk R x) (hx : x.f5.length ≤ 17592186043904) {l : List Int} (hl : l.length ≤ 1000000) (hr : ∀ r ∈ l, 0 ≤ r ∧ r < R) {o : List SSpan} {Q : Int → Int → Prop} (h : SInv R o Q) :
 ∃ o', Ev (fun k => span_Spans.ins k (n : Int) x l o) o' ∧ SInv R o' (fun r p => Q r p ∨ ((r ∈ uses x.f0 x.f2 x.f3 x.f5 ∨ (r ∈ l ∧ r ≠ defOf x.f0 x.f1)) ∧ p = 2 * n) ∨ ((r ∈ l ∨ r = defOf x.f0 x.f1) ∧ p = 2 * n + 1)) := by
 have hul : (uses x.f0 x.f2 x.f3 x.f5).length ≤ 4000000000000000000 := by
  unfold uses
  split
  ·simp
  ·split
   ·simp
   ·split
    ·omega
    ·simp
 obtain ⟨o1, a1, a2⟩ := ahead_inv hn hul O.use h
 have key : ∀ (d j : Nat) (o : List SSpan) (Q : Int → Int → Prop), j + d = l.length → SInv R o Q → ∃ o', Ev (fun k => span_Spans_3.l0 k (n : Int) x.f0 x.f1 x.f2 x.f3 x.f4 x.f5 l (j : Int) o) o' ∧ SInv R o' (fun r p => Q r p ∨ ((r ∈ l.drop j ∧ r ≠ defOf x.f0 x.f1) ∧ p = 2 * n) ∨ ((r ∈ l.drop j ∨ r = defOf x.f0 x.f1) ∧ p = 2 * n + 1)) := by
  intro d
  induction d with
  | zero =>
   intro j o Q hj h
   have ho := h.len
   have hd := O.def_
   rw [List.drop_eq_nil_of_le (by omega)]
   by_cases c : defOf x.f0 x.f1 ≥ 0
   ·refine ⟨_, Ev.step (f := fun _ => some (takeP (defOf x.f0 x.f1) (2 * n + 1) o)) (fun k => ?_) (Ev.now _), (takeP_inv (p := 2 * n + 1) h c hd.1 (by omega)).ext (fun r p hr => by simp)⟩
    simp only [span_Spans_3.l0]
    rw [zD (by omega), def_eq, zJ, zC c, (w2 hn).2, take_eq c (by omega)]
   ·refine ⟨o, Ev.step (f := fun _ => some o) (fun k => ?_) (Ev.now _), h.ext (fun r p hr => ?_)⟩
    ·simp only [span_Spans_3.l0]
     rw [zD (by omega), def_eq, zJ, zD c]
    ·have : ¬ ((r : Int) = defOf x.f0 x.f1) := by omega
     simp [this]
  | succ d ih =>
   intro j o Q hj h
   have hjl : j < l.length := by omega
   have hm := hr _ (List.getElem_mem hjl)
   have ho := h.len
   have b1 := takeP_inv (p := 2 * n + 1) h hm.1 hm.2 (by omega)
   by_cases c : defOf x.f0 x.f1 = l[j]
   ·obtain ⟨o', h1, h2⟩ := ih (j + 1) _ _ (by omega) b1
    refine ⟨o', Ev.step (fun k => ?_) h1, h2.ext (fun r p hr => ?_)⟩
    ·simp only [span_Spans_3.l0]
     rw [zC (by omega), zC (by omega), rd_get hjl, (w2 hn).2, take_eq hm.1 (by omega), zJ, def_eq, zJ, zC c, wrap_nat (by omega)]
    ·rw [drop_cons hjl, List.mem_cons, c]
     constructor
     ·rintro ((hq | ⟨e, hq⟩) | ⟨⟨hq, hne⟩, e⟩ | ⟨hq | hq, e⟩)
      ·exact .inl hq
      ·exact .inr (.inr ⟨.inr e, hq⟩)
      ·exact .inr (.inl ⟨⟨.inr hq, hne⟩, e⟩)
      ·exact .inr (.inr ⟨.inl (.inr hq), e⟩)
      ·exact .inr (.inr ⟨.inr hq, e⟩)
     ·rintro (hq | ⟨⟨hq | hq, hne⟩, e⟩ | ⟨(hq | hq) | hq, e⟩)
      ·exact .inl (.inl hq)
      ·exact absurd hq hne
      ·exact .inr (.inl ⟨⟨hq, hne⟩, e⟩)
      ·exact .inl (.inr ⟨hq, e⟩)
      ·exact .inr (.inr ⟨.inl hq, e⟩)
      ·exact .inl (.inr ⟨hq, e⟩)
   ·have b2 := takeP_inv (p := 2 * n) b1 hm.1 hm.2 (by omega)
    have ho1 := b1.len
    obtain ⟨o', h1, h2⟩ := ih (j + 1) _ _ (by omega) b2
    refine ⟨o', Ev.step (fun k => ?_) h1, h2.ext (fun r p hr => ?_)⟩
    ·simp only [span_Spans_3.l0]
     rw [zC (by omega), zC (by omega), rd_get hjl, (w2 hn).2, (w2 hn).1, take_eq hm.1 (by omega), zJ, def_eq, zJ, zD c, take_eq hm.1 (by omega), zJ, wrap_nat (by omega)]
    ·rw [drop_cons hjl, List.mem_cons]
     constructor
     ·rintro (((hq | ⟨e, hq⟩) | ⟨e, hq⟩) | ⟨⟨hq, hne⟩, e⟩ | ⟨hq | hq, e⟩)
      ·exact .inl hq
      ·exact .inr (.inr ⟨.inl (.inl e), hq⟩)
      ·exact .inr (.inl ⟨⟨.inl e, fun e2 => c (e2.symm.trans e)⟩, hq⟩)
      ·exact .inr (.inl ⟨⟨.inr hq, hne⟩, e⟩)
      ·exact .inr (.inr ⟨.inl (.inr hq), e⟩)
      ·exact .inr (.inr ⟨.inr hq, e⟩)
     ·rintro (hq | ⟨⟨hq | hq, hne⟩, e⟩ | ⟨(hq | hq) | hq, e⟩)
      ·exact .inl (.inl (.inl hq))
      ·exact .inl (.inr ⟨hq, e⟩)
      ·exact .inr (.inl ⟨⟨hq, hne⟩, e⟩)
      ·exact .inl (.inl (.inr ⟨hq, e⟩))
      ·exact .inr (.inr ⟨.inl hq, e⟩)
      ·exact .inr (.inr ⟨.inr hq, e⟩)
 obtain ⟨o', h1, h2⟩ := key l.length 0 o1 _ (by omega) a2
 rw [List.drop_zero] at h2
 refine ⟨o', Ev.bind (uses_ev x.f0 x.f1 x.f2 x.f3 x.f4 x.f5 (by omega)) (Ev.bind a1 h1), h2.ext (fun r p hr => ?_)⟩
 constructor
 ·rintro ((hq | ⟨hq, e⟩) | ⟨hq, e⟩ | hq)
  ·exact .inl hq
  ·exact .inr (.inl ⟨.inl hq, e⟩)
  ·exact .inr (.inl ⟨.inr hq, e⟩)
  ·exact .inr (.inr hq)
 ·rintro (hq | ⟨hq | hq, e⟩ | hq)
  ·exact .inl (.inl hq)
  ·exact .inl (.inr ⟨hq, e⟩)
  ·exact .inr (.inl ⟨hq, e⟩)
  ·exact .inr (.inr hq)
end
end Go.Proofs.YtpkimbkjjmbmcaaDoor.PlainSpan
namespace Go.Proofs.YtpkimbkjjmbmcaaDoor.Q
open Go.RowKit Go.Proofs.YtpkimbkjjmbmcaaDoorW.PrintWords Go.Proofs.YtpkimbkjjmbmcaaDoorW.PrintLast Go.Proofs.YtpkimbkjjmbmcaaDoorW.PrintMore
set_option linter.unusedVariables false
set_option linter.unusedSimpArgs false
structure CrSt (w0 w : World) (gb : Nat) (u : Value) (l : List Bool) : Prop where
 bb : w.heap[gb]? = some (.cells #[u] 43 (0, 0))
 hu : Kd.R Kd.bool 4 w w0.heap.size (fun _ => True) u l
 hB : Below w0.heap.size w0 w
theorem CrSt.below {w0 w w1 : World} {gb : Nat} {u : Value} {l : List Bool} (hs : CrSt w0 w gb u l) (hb : Below w.heap.size w w1) : CrSt w0 w1 gb u l :=
 ⟨blk_below hs.bb hb, Kd.R_below hs.hu hb, below_step hs.hB hb⟩
end Go.Proofs.YtpkimbkjjmbmcaaDoor.Q
namespace Go.Proofs.YtpkimbkjjmbmcaaDoor.PlainSpan
open Go Go.RowKit Go.Proofs.YtpkimbkjjmbmcaaDoorW.PrintWords Go.Proofs.YtpkimbkjjmbmcaaDoorW.PrintMore Go.Proofs.YtpkimbkjjmbmcaaDoor.Q Go.Proofs.YtpkimbkjjmbmcaaDoor.Plain Go.Proofs.YtpkimbkjjmbmcaaDoor.PlainIr Go.Proofs.YtpkimbkjjmbmcaaDoor.PlainBits Go.Proofs.YtpkimbkjjmbmcaaDoor.PlainFix Go.Proofs.YtpkimbkjjmbmcaaDoor.PlainSuccs Go.Proofs.YtpkimbkjjmbmcaaDoor.PlainHeavy Go.Proofs.YtpkimbkjjmbmcaaDoor.PlainCheck Go.Proofs.YtpkimbkjjmbmcaaDoor.PlainLive Go.Proofs.YtpkimbkjjmbmcaaDoor.Dfs Go.Proofs.YtpkimbkjjmbmcaaDoor.PlainOrder
set_option linter.unusedVariables false
set_option linter.unusedSimpArgs false
section
variable {σ γ : Type} (bq : Nat → Nat → γ → γ) (iq : Nat → SIns → Nat → γ → γ) (bs : List (List SIns)) (z : List Nat)
def rowQ (b : Nat) : List SIns → Nat → Nat → γ → γ
 | [], _, _, q => q
 | x :: l, i, n, q => rowQ b l (i + 1) (n + 1) (iq (n + 1) x (aheadN bs z b (i + 1)) q)
def eachQ : List Int → Nat → γ → γ
 | [], _, q => q
 | b :: l, n, q => eachQ l (n + blen bs b) (rowQ iq bs z b.toNat (blockAt bs b) 0 n (bq (n + 1) (at_ z b.toNat) q))
variable {bq iq bs z} {pn : ByteArray} {pp : Int} {R : Nat} (T : Fit pn pp R bs z) (Iv : σ → γ → Prop) {fb : Nat → Int → List Int → σ → Option σ} {fi : Nat → Int → SIns → List Int → σ → Option σ}
 (hb : ∀ (n bits : Nat) s q, n ≤ 1000000 → Iv s q → ∃ s', Ev (fun k => fb k (n : Int) (toL R bits) s) s' ∧ Iv s' (bq n bits q))
 (hi : ∀ (n : Nat) x (bits : Nat) s q, n ≤ 1000000 → RegsOk R x → x.f5.length ≤ 17592186043904 → Iv s q → ∃ s', Ev (fun k => fi k (n : Int) x (toL R bits) s) s' ∧ Iv s' (iq n x bits q))
include T hi
theorem each_row {b : Nat} (hbl : b < bs.length) (j : Nat) (hj : j ≤ 100) (inn : List (List Int)) (ord : List Int) (qf : γ) : ∀ (d i n : Nat) (s : σ) (q : γ), i + d = (bs[b]).length → n ≤ 1000 * j + i → Iv s q →
 (∀ s', Iv s' (rowQ iq bs z b ((bs[b]).drop i) i n q) → ∃ s'', Ev (fun k => span_each.l0 fb fi k pn pp (R : Int) bs inn ord ((n + d : Nat) : Int) ((j + 1 : Nat) : Int) s') s'' ∧ Iv s'' qf) →
 ∃ s'', Ev (fun k => span_each.l1 fb fi k pn pp (R : Int) bs inn ord (n : Int) (b : Int) (j : Int) (i : Int) s) s'' ∧ Iv s'' qf := by
 have O := T.small
 have hr := O.row _ (List.getElem_mem hbl)
 have hgd : bs.getD b [] = bs[b] := getD_get hbl
 have hrow : rd_LIns bs (b : Int) = bs[b] := hgd
 intro d
 induction d with
 | zero =>
  intro i n s q hij hn h H
  rw [List.drop_eq_nil_of_le (by omega)] at H
  obtain ⟨s'', h1, h2⟩ := H s h
  refine ⟨s'', Ev.step (fun k => ?_) h1, h2⟩
  simp only [span_each.l1]
  rw [hrow, zD (by omega), wrap_nat (by omega)]
  rfl
 | succ d ih =>
  intro i n s q hij hn h H
  have hil : i < (bs[b]).length := by omega
  obtain ⟨s1, h1, h2⟩ := hi (n + 1) (bs[b])[i] (aheadN bs z b (i + 1)) s q (by omega) (O.regs _ (List.getElem_mem hbl) _ (List.getElem_mem hil)) (O.args _ (List.getElem_mem hbl) _ (List.getElem_mem hil)) h
  obtain ⟨s'', h3, h4⟩ := ih (i + 1) (n + 1) s1 _ (by omega) (by omega) h2 (fun s' hs' => by
   have := H s' (by rw [drop_cons hil]; exact hs')
   rw [show n + (d + 1) = n + 1 + d by omega] at this
   exact this)
  refine ⟨s'', Ev.step (fun k => ?_) (Ev.bind (f := fun k bh => (fi k ((n + 1 : Nat) : Int) (bs[b])[i] bh s).bind fun s1 => span_each.l1 fb fi k pn pp (R : Int) bs inn ord ((n + 1 : Nat) : Int) (b : Int) (j : Int) ((i + 1 : Nat) : Int) s1) (aheadL_ev pn pp T.fair T.ok T.check T.sol T.sets (b := b) (i := i + 1) hbl (by rw [hgd]; omega)) (Ev.bind h1 h3)), h4⟩
  simp only [span_each.l1]
  rw [hrow, zC (by omega), zC (by omega), wrap_nat (by omega), wrap_nat (by omega), rd_ins hil]
include hb
theorem each_inv {s : σ} {q : γ} (h : Iv s q) : ∃ s', Ev (fun k => span_each.f fb fi k pn pp (R : Int) bs s) s' ∧ Iv s' (eachQ bq iq bs z (ordOf bs) 0 q) := by
 have O := T.small
 have hl := T.len
 have hzl := T.sol.len
 obtain ⟨ho1, ho2⟩ := order_ok bs
 have hol := order_len bs
 have key : ∀ (d j n : Nat) (s : σ) (q : γ), j + d = (ordOf bs).length → n ≤ 1000 * j → Iv s q → ∃ s', Ev (fun k => span_each.l0 fb fi k pn pp (R : Int) bs (z.map (toL R)) (ordOf bs) (n : Int) (j : Int) s) s' ∧ Iv s' (eachQ bq iq bs z ((ordOf bs).drop j) n q) := by
  intro d
  induction d with
  | zero =>
   intro j n s q hj hn h
   rw [List.drop_eq_nil_of_le (by omega)]
   exact ⟨s, Ev.step (f := fun _ => some s) (fun k => by simp only [span_each.l0]; rw [zD (by omega)]) (Ev.now _), h⟩
  | succ d ih =>
   intro j n s q hj hn h
   have hjl : j < (ordOf bs).length := by omega
   have hol' : (ordOf bs).length ≤ bs.length := hol
   have hm := ho2 _ (List.getElem_mem hjl)
   have hm' : 0 ≤ (ordOf bs)[j] ∧ (ordOf bs)[j] < bs.length := hm
   rw [drop_cons hjl]
   unfold eachQ
   obtain ⟨b, hbb⟩ : ∃ b : Nat, (ordOf bs)[j] = (b : Int) := ⟨((ordOf bs)[j]).toNat, by omega⟩
   have hbl : b < bs.length := by omega
   have hr := O.row _ (List.getElem_mem hbl)
   have hblk : blockAt bs (ordOf bs)[j] = bs[b] := by
    unfold blockAt
    rw [hbb, Int.toNat_natCast, List.getD_eq_getElem?_getD, List.getElem?_eq_getElem hbl]
    rfl
   have hbn : blen bs (ordOf bs)[j] = (bs[b]).length := by
    unfold blen
    rw [hblk]
   rw [hblk, hbn, hbb, Int.toNat_natCast]
   obtain ⟨s1, h1, h2⟩ := hb (n + 1) (at_ z b) s q (by omega) h
   obtain ⟨s', h3, h4⟩ := each_row T Iv hi hbl j (by omega) (z.map (toL R)) (ordOf bs) (eachQ bq iq bs z ((ordOf bs).drop (j + 1)) (n + (bs[b]).length) (rowQ iq bs z b (bs[b]) 0 n (bq (n + 1) (at_ z b) q))) (bs[b]).length 0 n s1 _ (by omega) (by omega) h2 (fun s' hs' => by
    rw [List.drop_zero] at hs'
    exact ih (j + 1) (n + (bs[b]).length) s' _ (by omega) (by omega) hs')
   refine ⟨s', Ev.step (fun k => ?_) (Ev.bind h1 h3), h4⟩
   simp only [span_each.l0]
   rw [zC (by omega), zC (by omega), rd_get hjl, hbb, zC (by omega), zC (by rw [List.length_map]; omega), zC (by omega), wrap_nat (by omega), rdL_map (by omega) (by omega), Int.toNat_natCast]
   rfl
 obtain ⟨s', h1, h2⟩ := key (ordOf bs).length 0 0 s q (by omega) (by omega) h
 rw [List.drop_zero] at h2
 exact ⟨s', Ev.bind (in_ev pn pp T.fair T.ok T.check T.sol T.sets) (Ev.bind (order_ev (by omega) O.small) h1), h2⟩
end

def eB (R : Nat) (n bits : Nat) (a : Int × Int) : Prop := a.1 ∈ toL R bits ∧ a.2 = 2 * n
def eI (R : Nat) (n : Nat) (x : SIns) (bits : Nat) (a : Int × Int) : Prop := ((a.1 ∈ uses x.f0 x.f2 x.f3 x.f5 ∨ (a.1 ∈ toL R bits ∧ a.1 ≠ defOf x.f0 x.f1)) ∧ a.2 = 2 * n) ∨ ((a.1 ∈ toL R bits ∨ a.1 = defOf x.f0 x.f1) ∧ a.2 = 2 * n + 1)
def orB {α : Type} (e : Nat → Nat → α → Prop) (n bits : Nat) (q : α → Prop) : α → Prop := fun a => q a ∨ e n bits a
def orI {α : Type} (e : Nat → SIns → Nat → α → Prop) (n : Nat) (x : SIns) (bits : Nat) (q : α → Prop) : α → Prop := fun a => q a ∨ e n x bits a
theorem toL_rng {R s : Nat} : ∀ r ∈ toL R s, 0 ≤ r ∧ r < R := fun r hr => by
 obtain ⟨n, rfl, h, _⟩ := toL_nat hr
 omega
theorem init_inv {R : Nat} (hR : R ≤ 1000) : ∃ o, Ev (fun k => span_Spans.l0 k (List.replicate R zSpan) (R : Int) 0) o ∧ SInv R o (fun _ _ => False) := by
 have key : ∀ (d j : Nat) (o : List SSpan), j + d = R → o.length = R → (∀ i, i < j → o.getD i zSpan = ⟨-1, -1⟩) → ∃ o', Ev (fun k => span_Spans.l0 k o (R : Int) (j : Int)) o' ∧ SInv R o' (fun _ _ => False) := by
  intro d
  induction d with
  | zero =>
   intro j o hj hl h
   refine ⟨o, Ev.step (f := fun _ => some o) (fun k => by simp only [span_Spans.l0]; rw [zD (by omega)]) (Ev.now _), hl, fun r hr => ?_⟩
   rw [h r (by omega)]
   exact none_is
  | succ d ih =>
   intro j o hj hl h
   obtain ⟨o', h1, h2⟩ := ih (j + 1) (o.set j ⟨-1, -1⟩) (by omega) (by rw [List.length_set]; exact hl) (fun i hi => by
    by_cases c : j = i
    ·subst c
     rw [List.getD_eq_getElem?_getD, List.getElem?_set_self (by omega)]
     rfl
    ·rw [List.getD_eq_getElem?_getD, List.getElem?_set_ne c, ← List.getD_eq_getElem?_getD]
     exact h i (by omega))
   refine ⟨o', Ev.step (fun k => ?_) h1, h2⟩
   simp only [span_Spans.l0]
   rw [zC (by omega), zC (by omega), zC (by omega), Int.toNat_natCast, wrap_nat (by omega)]
 exact key R 0 _ (by omega) List.length_replicate (fun i hi => by omega)
theorem params_inv {R P : Nat} (hP : P ≤ R) (hR : R ≤ 1000) {o : List SSpan} (h : SInv R o (fun _ _ => False)) : ∃ o', Ev (fun k => span_Spans.l2 k (P : Int) 0 o) o' ∧ SInv R o' (fun r p => (0 ≤ r ∧ r < P) ∧ p = 1) := by
 have key : ∀ (d j : Nat) (o : List SSpan), j + d = P → SInv R o (fun r p => (0 ≤ r ∧ r < j) ∧ p = 1) → ∃ o', Ev (fun k => span_Spans.l2 k (P : Int) (j : Int) o) o' ∧ SInv R o' (fun r p => (0 ≤ r ∧ r < P) ∧ p = 1) := by
  intro d
  induction d with
  | zero =>
   intro j o hj h
   obtain rfl : j = P := by omega
   exact ⟨o, Ev.step (f := fun _ => some o) (fun k => by simp only [span_Spans.l2]; rw [zD (by omega)]) (Ev.now _), h⟩
  | succ d ih =>
   intro j o hj h
   have hl := h.len
   have h2 := takeP_inv (r := (j : Int)) (p := 1) h (by omega) (by omega) (by omega)
   obtain ⟨o', h3, h4⟩ := ih (j + 1) _ (by omega) (h2.ext (fun r p hr => by
    constructor
    ·rintro (⟨a, b⟩ | ⟨a, b⟩)
     ·exact ⟨by omega, b⟩
     ·exact ⟨by omega, b⟩
    ·rintro ⟨a, b⟩
     by_cases c : (r : Int) = j
     ·exact .inr ⟨c, b⟩
     ·exact .inl ⟨by omega, b⟩))
   refine ⟨o', Ev.step (fun k => ?_) h3, h4⟩
   simp only [span_Spans.l2]
   rw [zC (by omega), take_eq (by omega) (by omega), zJ, wrap_nat (by omega)]
 exact key P 0 o (by omega) (h.ext (fun r p hr => by constructor; (intro h; exact h.elim); (rintro ⟨a, _⟩; omega)))
theorem spans_ev {pn : ByteArray} {pp : Int} {R : Nat} {bs : List (List SIns)} {z : List Nat} (T : Fit pn pp R bs z) : ∃ o, Ev (fun k => span_Spans.f k pn pp (R : Int) bs) o ∧ SInv R o (fun r p => eachQ (orB (eB R)) (orI (eI R)) bs z (ordOf bs) 0 (fun a => (0 ≤ a.1 ∧ a.1 < pp) ∧ a.2 = 1) (r, p)) := by
 have hS := T.ok.shape
 have hR := T.regs
 have h0 := hS.1
 have h1 := hS.2.2.1
 obtain ⟨k1, k2⟩ := checks pn T.fair T.ok T.check T.sol T.sets T.refin
 rw [zC T.low] at k1
 obtain ⟨o1, a1, a2⟩ := init_inv (R := R) (by omega)
 obtain ⟨P, rfl⟩ : ∃ P : Nat, pp = P := ⟨pp.toNat, by omega⟩
 obtain ⟨o2, b1, b2⟩ := params_inv (P := P) (by omega) (by omega) a2
 obtain ⟨o3, c1, c2⟩ := each_inv (bq := orB (eB R)) (iq := orI (eI R)) T (fun o (q : Int × Int → Prop) => SInv R o (fun r p => q (r, p))) (fb := span_Spans_2.f) (fi := span_Spans.ins)
  (fun n bits s q hn h => ahead_inv hn (by have := toL_len R bits; omega) toL_rng h)
  (fun n x bits s q hn O hx h => ins_inv hn O hx (by have := toL_len R bits; omega) toL_rng h) (q := fun a => (0 ≤ a.1 ∧ a.1 < (P : Int)) ∧ a.2 = 1) b2
 refine ⟨o3, Ev.bind k1 (Ev.congr (fun k => by rw [zC rfl, zC (by omega), zC (by omega), Int.toNat_natCast, List.length_replicate]) (Ev.bind a1 (Ev.bind b1 c1))), c2⟩

structure CInv (R : Nat) (o : List Bool) (Q : Int → Prop) : Prop where
 len : o.length = R
 is : ∀ r : Nat, r < R → (o.getD r false = true ↔ Q r)
theorem CInv.ext {R : Nat} {o : List Bool} {Q Q' : Int → Prop} (h : CInv R o Q) (e : ∀ (r : Nat), r < R → (Q r ↔ Q' r)) : CInv R o Q' := ⟨h.len, fun r hr => (h.is r hr).trans (e r hr)⟩
theorem CInv.put {R : Nat} {o : List Bool} {Q : Int → Prop} (h : CInv R o Q) {r : Int} (h0 : 0 ≤ r) (h1 : r < R) : CInv R (o.set r.toNat true) (fun a => Q a ∨ a = r) := by
 have hl := h.len
 refine ⟨by rw [List.length_set]; exact hl, fun i hi => ?_⟩
 by_cases c : r.toNat = i
 ·subst c
  rw [List.getD_eq_getElem?_getD, List.getElem?_set_self (by omega)]
  simp
  right
  omega
 ·rw [List.getD_eq_getElem?_getD, List.getElem?_set_ne c, ← List.getD_eq_getElem?_getD, h.is i hi]
  have : ¬ ((i : Int) = r) := by omega
  simp [this]
theorem CInv.zero (R : Nat) : CInv R (List.replicate R false) (fun _ => False) := ⟨List.length_replicate, fun r hr => by
 rw [List.getD_eq_getElem?_getD, List.getElem?_replicate]
 split <;> simp⟩
def cI (R : Nat) (n : Nat) (x : SIns) (bits : Nat) (r : Int) : Prop := x.f0 = 11 ∧ r ∈ toL R bits ∧ r ≠ x.f1

def startOf (bs : List (List SIns)) : List Int → Nat → Int → Nat
 | [], _, _ => 0
 | b :: l, n, v => if v = b then n else startOf bs l (n + blen bs b) v
theorem lay_row (bs : List (List SIns)) : ∀ (l : List Int) (n : Nat) (x : List (List Int)), l.Nodup → (∀ v ∈ l, 0 ≤ v ∧ v < x.length) → ∀ v ∈ l, (lay bs l n x).getD v.toNat [] = nums (startOf bs l n v) (blen bs v)
 | [], _, _, _, _, v, hv => by simp at hv
 | b :: l, n, x, hd, hr, v, hv => by
  have hd' := List.nodup_cons.1 hd
  have hb := hr b List.mem_cons_self
  unfold lay startOf
  by_cases c : v = b
  ·subst c
   rw [zC rfl, lay_out bs l _ _ v (fun w hw => (hr w (List.mem_cons_of_mem _ hw)).1) hb.1 hd'.1, getD_set_eq (by omega)]
   rfl
  ·rw [zD c]
   exact lay_row bs l (n + blen bs b) _ hd'.2 (fun w hw => by rw [List.length_set]; exact hr w (List.mem_cons_of_mem _ hw)) v ((List.mem_cons.1 hv).resolve_left c)
def begin_ (bs : List (List SIns)) (v : Int) : Nat := startOf bs (ordOf bs) 0 v
theorem places_row (bs : List (List SIns)) : ∀ v ∈ ordOf bs, (places bs).getD v.toNat [] = nums (begin_ bs v) (blen bs v) := by
 obtain ⟨h1, h2⟩ := order_ok bs
 exact lay_row bs _ 0 _ h1 (fun v hv => by rw [List.length_replicate]; exact h2 v hv)
section
variable {α : Type} (fB : Nat → Nat → α → Prop) (fI : Nat → SIns → Nat → α → Prop) (bs : List (List SIns)) (z : List Nat)
theorem rowQ_mem (b : Nat) (a : α) : ∀ (l : List SIns) (i n : Nat) (q : α → Prop), rowQ (orI fI) bs z b l i n q a ↔ q a ∨ ∃ k, ∃ h : k < l.length, fI (n + k + 1) l[k] (aheadN bs z b (i + k + 1)) a
 | [], i, n, q => by simp [rowQ]
 | x :: l, i, n, q => by
  unfold rowQ
  rw [rowQ_mem b a l (i + 1) (n + 1)]
  unfold orI
  constructor
  ·rintro ((h | h) | ⟨k, hk, h⟩)
   ·exact .inl h
   ·exact .inr ⟨0, by simp, h⟩
   ·refine .inr ⟨k + 1, by simpa using hk, ?_⟩
    rw [show n + (k + 1) + 1 = n + 1 + k + 1 by omega, show i + (k + 1) + 1 = i + 1 + k + 1 by omega]
    exact h
  ·rintro (h | ⟨k, hk, h⟩)
   ·exact .inl (.inl h)
   ·cases k with
    | zero => exact .inl (.inr h)
    | succ k =>
     refine .inr ⟨k, by simpa using hk, ?_⟩
     rw [show n + 1 + k + 1 = n + (k + 1) + 1 by omega, show i + 1 + k + 1 = i + (k + 1) + 1 by omega]
     exact h
theorem eachQ_mem (a : α) : ∀ (l : List Int) (n : Nat) (q : α → Prop), l.Nodup → (eachQ (orB fB) (orI fI) bs z l n q a ↔ q a ∨ ∃ b ∈ l, fB (startOf bs l n b + 1) (at_ z b.toNat) a ∨ ∃ k, ∃ h : k < (blockAt bs b).length, fI (startOf bs l n b + k + 1) (blockAt bs b)[k] (aheadN bs z b.toNat (k + 1)) a)
 | [], n, q, _ => by simp [eachQ]
 | b :: l, n, q, hd => by
  have hd' := List.nodup_cons.1 hd
  have hn : ∀ v ∈ l, startOf bs (b :: l) n v = startOf bs l (n + blen bs b) v := by
   intro v hv
   show (if v = b then n else startOf bs l (n + blen bs b) v) = _
   rw [zD (fun (e : v = b) => hd'.1 (e ▸ hv))]
  have hb : startOf bs (b :: l) n b = n := by
   show (if b = b then n else startOf bs l (n + blen bs b) b) = _
   rw [zC rfl]
  unfold eachQ
  rw [eachQ_mem a l _ _ hd'.2, rowQ_mem]
  simp only [Nat.zero_add]
  constructor
  ·rintro (((h | h) | h) | ⟨v, hv, h⟩)
   ·exact .inl h
   ·exact .inr ⟨b, List.mem_cons_self, by rw [hb]; exact .inl h⟩
   ·exact .inr ⟨b, List.mem_cons_self, by rw [hb]; exact .inr h⟩
   ·exact .inr ⟨v, List.mem_cons_of_mem _ hv, by rw [hn v hv]; exact h⟩
  ·rintro (h | ⟨v, hv, h⟩)
   ·exact .inl (.inl (.inl h))
   ·rcases List.mem_cons.1 hv with rfl | hv
    ·rw [hb] at h
     rcases h with h | h
     ·exact .inl (.inl (.inr h))
     ·exact .inl (.inr h)
    ·rw [hn v hv] at h
     exact .inr ⟨v, hv, h⟩
end
def insAt (bs : List (List SIns)) (b k : Nat) : SIns := (bs.getD b []).getD k zIns
def pt (R : Nat) (bs : List (List SIns)) (z : List Nat) (b k n : Nat) (r p : Int) : Prop :=
 (r ∈ toL R (aheadN bs z b k) ∧ p = 2 * n) ∨ ((r ∈ toL R (aheadN bs z b (k + 1)) ∨ r = defOf (insAt bs b k).f0 (insAt bs b k).f1) ∧ p = 2 * n + 1)
def allPts (pp : Int) (R : Nat) (bs : List (List SIns)) (z : List Nat) (r p : Int) : Prop :=
 ((0 ≤ r ∧ r < pp) ∧ p = 1) ∨ ∃ b k : Nat, (b : Int) ∈ ordOf bs ∧ k < blen bs b ∧ pt R bs z b k (begin_ bs b + k + 1) r p
theorem blen_nat {bs : List (List SIns)} {b : Nat} (hb : b < bs.length) : blockAt bs (b : Int) = bs[b] ∧ blen bs (b : Int) = (bs[b]).length := by
 have h : blockAt bs (b : Int) = bs[b] := getD_get hb
 exact ⟨h, by unfold blen; rw [h]⟩
theorem insAt_get {bs : List (List SIns)} {b k : Nat} (hb : b < bs.length) (hk : k < (bs[b]).length) : insAt bs b k = (bs[b])[k] := by
 unfold insAt
 rw [getD_get hb, List.getD_eq_getElem?_getD, List.getElem?_eq_getElem hk]
 rfl
theorem mem_ord {bs : List (List SIns)} {v : Int} (h : v ∈ ordOf bs) : ∃ b : Nat, v = b ∧ b < bs.length := by
 have := (order_ok bs).2 v h
 exact ⟨v.toNat, by omega, by omega⟩
section
variable {pn : ByteArray} {pp : Int} {R : Nat} {bs : List (List SIns)} {z : List Nat} (T : Fit pn pp R bs z)
include T
theorem step_mem {b k : Nat} (hb : b < bs.length) (hk : k < (bs[b]).length) {r : Nat} (hr : r < R) :
 (r : Int) ∈ toL R (aheadN bs z b k) ↔ (r : Int) ∈ uses (bs[b])[k].f0 (bs[b])[k].f2 (bs[b])[k].f3 (bs[b])[k].f5 ∨ ((r : Int) ∈ toL R (aheadN bs z b (k + 1)) ∧ (r : Int) ≠ defOf (bs[b])[k].f0 (bs[b])[k].f1) := by
 have O := T.small
 have hgd : bs.getD b [] = bs[b] := getD_get hb
 have hA : aheadN bs z b k = thrN (bs[b])[k] (aheadN bs z b (k + 1)) := by
  unfold aheadN
  rw [hgd, drop_cons hk]
  rfl
 have hlt := aheadN_lt O T.sol (b := b) (i := k + 1) hb
 have hbit := thrN_bit (O.regs _ (List.getElem_mem hb) _ (List.getElem_mem hk)) hlt r
 rw [mem_toL, mem_toL, hA, hbit]
 simp only [Bool.or_eq_true, Bool.and_eq_true, decide_eq_true_eq, hr, true_and]
 constructor
 ·rintro (h | h)
  ·exact .inr h
  ·exact .inl h
 ·rintro (h | h)
  ·exact .inr h
  ·exact .inl h
theorem spans_all : ∃ o, Ev (fun k => span_Spans.f k pn pp (R : Int) bs) o ∧ SInv R o (allPts pp R bs z) := by
 obtain ⟨o, h1, h2⟩ := spans_ev T
 refine ⟨o, h1, h2.ext (fun r p hr => ?_)⟩
 rw [eachQ_mem (eB R) (eI R) bs z (((r : Nat) : Int), p) (ordOf bs) 0 _ (order_ok bs).1]
 constructor
 ·rintro (h | ⟨v, hv, h⟩)
  ·exact .inl h
  ·obtain ⟨b, rfl, hb⟩ := mem_ord hv
   obtain ⟨e1, e2⟩ := blen_nat hb
   have hne := T.ok.row _ (List.getElem_mem hb)
   rcases h with ⟨h, hp⟩ | ⟨k, hk, h⟩
   ·refine .inr ⟨b, 0, hv, by omega, .inl ⟨?_, hp⟩⟩
    rw [T.sol.eq b hb]
    exact h
   ·refine .inr ⟨b, k, hv, hk, ?_⟩
    have hk' : k < (bs[b]).length := by rw [e1] at hk; exact hk
    have hx : (blockAt bs (b : Int))[k] = (bs[b])[k] := by simp only [e1]
    rw [hx] at h
    unfold pt
    rw [insAt_get hb hk', step_mem T hb hk' hr]
    exact h
 ·rintro (h | ⟨b, k, hv, hk, h⟩)
  ·exact .inl h
  ·have hb : b < bs.length := by
    obtain ⟨b', e, hb'⟩ := mem_ord hv
    omega
   obtain ⟨e1, e2⟩ := blen_nat hb
   have hk' : k < (bs[b]).length := by rw [e2] at hk; exact hk
   refine .inr ⟨b, hv, .inr ⟨k, by rw [e1]; exact hk', ?_⟩⟩
   have hx : (blockAt bs (b : Int))[k]'(by rw [e1]; exact hk') = (bs[b])[k] := by simp only [e1]
   rw [hx]
   unfold pt at h
   rw [insAt_get hb hk', step_mem T hb hk' hr] at h
   exact h
end

section
variable (pn : ByteArray) (pp rg : Int) (bs : List (List SIns)) (hr : ∀ b ∈ bs, b.length ≤ 1000)
include hr
theorem ref_row (ord : List Int) (hol : ord.length ≤ 1000) (i : Nat) (hi : i < ord.length) (b : Nat) (hb : b < bs.length) (hbo : ord[i] = (b : Int)) (r : List (List Int)) (x : List (List Int)) (hx : x.length = bs.length) : ∀ (d j n : Nat), j + d = (bs[b]).length → n ≤ 1000000000 →
 Ev (fun k => cubbyref12_Places.l0 k (x.set b (nums n (bs[b]).length)) ord ((n + (bs[b]).length : Nat) : Int) ((i + 1 : Nat) : Int) pn pp rg bs) r →
 Ev (fun k => cubbyref12_Places.l1 k x ord ((n + j : Nat) : Int) (i : Int) (nums n j) (j : Int) pn pp rg bs) r := by
 have hbl := hr _ (List.getElem_mem hb)
 intro d
 induction d with
 | zero =>
  intro j n hj hn hE
  obtain rfl : j = (bs[b]).length := by omega
  refine Ev.step (fun k => ?_) hE
  simp only [cubbyref12_Places.l1]
  rw [zC (by omega), zC (by omega), rd_get hi, hbo, zC (by omega), zC (by omega), rdL_get hb, zD (by omega), zC (by omega), wrap_nat (by omega), Int.toNat_natCast]
 | succ d ih =>
  intro j n hj hn hE
  have h2 := ih (j + 1) n (by omega) hn hE
  refine Ev.step (fun k => ?_) h2
  simp only [cubbyref12_Places.l1]
  rw [zC (by omega), zC (by omega), rd_get hi, hbo, zC (by omega), zC (by omega), rdL_get hb, zC (by omega), zC (by rw [nums_len]; omega), wrap_nat (by omega), wrap_nat (by omega), nums_succ]
  rfl
theorem ref_all (ord : List Int) (hol : ord.length ≤ 1000) (hrg : ∀ v ∈ ord, 0 ≤ v ∧ v < bs.length) : ∀ (d i n : Nat) (x : List (List Int)), i + d = ord.length → n ≤ 1000 * i → x.length = bs.length →
 Ev (fun k => cubbyref12_Places.l0 k x ord (n : Int) (i : Int) pn pp rg bs) (lay bs (ord.drop i) n x) := by
 intro d
 induction d with
 | zero =>
  intro i n x hi hn hx
  rw [List.drop_eq_nil_of_le (by omega)]
  exact Ev.step (f := fun _ => some x) (fun k => by simp only [cubbyref12_Places.l0]; rw [zD (by omega)]) (Ev.now _)
 | succ d ih =>
  intro i n x hi hn hx
  have hil : i < ord.length := by omega
  have hm := hrg _ (List.getElem_mem hil)
  rw [drop_cons hil]
  unfold lay
  obtain ⟨b, hb⟩ : ∃ b : Nat, ord[i] = (b : Int) := ⟨(ord[i]).toNat, by omega⟩
  have hbl : b < bs.length := by omega
  have hblk : blockAt bs ord[i] = bs[b] := by rw [hb]; exact (blen_nat hbl).1
  have hlen := hr _ (List.getElem_mem hbl)
  rw [hblk, hb, Int.toNat_natCast]
  have h1 := ih (i + 1) (n + (bs[b]).length) (x.set b (nums n (bs[b]).length)) (by omega) (by omega) (by rw [List.length_set]; exact hx)
  have h2 := ref_row pn pp rg bs hr ord hol i hil b hbl hb _ x hx (bs[b]).length 0 n (by omega) (by omega) h1
  refine Ev.step (fun k => ?_) h2
  simp only [cubbyref12_Places.l0]
  rw [zC (by omega)]
  rfl
end
theorem refplaces_ev {pn : ByteArray} {pp : Int} {R : Nat} {bs : List (List SIns)} {z : List Nat} (T : Fit pn pp R bs z) : Ev (fun k => cubbyref12_Places.f k pn pp (R : Int) bs) (places bs) := by
 have O := T.small
 have hl := T.len
 obtain ⟨k1, k2⟩ := checks pn T.fair T.ok T.check T.sol T.sets T.refin
 rw [zC T.low] at k2
 obtain ⟨h1, h2⟩ := order_ok bs
 have hol := order_len bs
 have h3 := ref_all pn pp (R : Int) bs O.row (order (succs bs) bs.length) (by omega) h2 (order (succs bs) bs.length).length 0 0 (List.replicate bs.length []) (by omega) (by omega) (by simp)
 rw [List.drop_zero] at h3
 refine Ev.bind k2 (Ev.congr (fun k => by rw [zC rfl, zC (by omega), zC (by omega), Int.toNat_natCast]) (Ev.bind (reforder_ev (by omega) O.small) h3))
section
variable {pn : ByteArray} {pp : Int} {R : Nat} {bs : List (List SIns)} {z : List Nat} (T : Fit pn pp R bs z)
include T
end
theorem meet_common {s t : SSpan} {Q Q' : Int → Prop} (hs : IsSpan s Q) (ht : IsSpan t Q') {p : Int} (h1 : Q p) (h2 : Q' p) : span_Meet.f s.f0 s.f1 t.f0 t.f1 = some true := by
 obtain ⟨a0, a1, a2⟩ := hs.some ⟨p, h1⟩
 obtain ⟨b0, b1, b2⟩ := ht.some ⟨p, h2⟩
 have c1 := hs.pos _ a0
 have c2 := ht.pos _ b0
 have d1 := a2 p h1
 have d2 := b2 p h2
 unfold span_Meet.f
 rw [zC (by omega), zC (by omega), zC (by omega), zC (by omega), zF]
 unfold mx mn
 split <;> split <;> omega
end Go.Proofs.YtpkimbkjjmbmcaaDoor.PlainSpan
namespace Go.Proofs.YtpkimbkjjmbmcaaDoor.RSpanLive.Pure
open Go Go.RowKit Go.Proofs.YtpkimbkjjmbmcaaDoorW.PrintWords Go.Proofs.YtpkimbkjjmbmcaaDoorW.PrintMore Go.Proofs.YtpkimbkjjmbmcaaDoor.Q Go.Proofs.YtpkimbkjjmbmcaaDoor.Plain Go.Proofs.YtpkimbkjjmbmcaaDoor.PlainIr Go.Proofs.YtpkimbkjjmbmcaaDoor.PlainOne Go.Proofs.YtpkimbkjjmbmcaaDoor.PlainBits Go.Proofs.YtpkimbkjjmbmcaaDoor.PlainHeavy Go.Proofs.YtpkimbkjjmbmcaaDoor.PlainCheck Go.Proofs.YtpkimbkjjmbmcaaDoor.PlainSuccs Go.Proofs.YtpkimbkjjmbmcaaDoor.PlainLive Go.Proofs.YtpkimbkjjmbmcaaDoor.Dfs Go.Proofs.YtpkimbkjjmbmcaaDoor.PlainOrder Go.Proofs.YtpkimbkjjmbmcaaDoor.PlainSpan
set_option linter.unusedVariables false
theorem tmod_pos (a n : Int) (h : 0 ≤ a) (hn : 0 < n) : 0 ≤ Int.tmod a n ∧ Int.tmod a n < n := ⟨Int.tmod_nonneg n h, Int.tmod_lt_of_pos a hn⟩
theorem u8_range {n : Int} (h : (Lit.int .u8 n).wf = true) : 0 ≤ n ∧ n ≤ 255 := by
 have := bounds_u8 h
 omega
theorem haslaw_ev (l : List Int) (x : Int) (hl : l.length ≤ 4611686018427387904) : Ev (fun k => cubbylaw12_has.f k l x) (decide (x ∈ l)) := by
 refine scan (fun k j => cubbylaw12_has.l0 k l x (j : Int)) l.length (fun j => decide (x ∈ l.drop j)) ?_ ?_ 0 (Nat.zero_le _)
 ·refine Ev.step (f := fun _ => some false) (fun k => by simp only [cubbylaw12_has.l0]; rw [zD (by omega)]) ?_
  rw [List.drop_eq_nil_of_le (Nat.le_refl _)]
  exact Ev.now _
 ·intro j hj hE
  rw [drop_cons hj]
  by_cases c : l[j] = x
  ·refine Ev.step (f := fun _ => some true) (fun k => by simp only [cubbylaw12_has.l0]; rw [zC (by omega), zC (by omega), rd_get hj, zC c]) ?_
   rw [zF (by rw [List.mem_cons]; exact .inl c.symm)]
   exact Ev.now _
  ·have e : decide (x ∈ l[j] :: l.drop (j + 1)) = decide (x ∈ l.drop (j + 1)) := by
    apply decide_eq_decide.2
    rw [List.mem_cons]
    exact ⟨fun h => h.resolve_left (fun e => c e.symm), .inr⟩
   rw [e]
   exact Ev.step (fun k => by simp only [cubbylaw12_has.l0]; rw [zC (by omega), zC (by omega), rd_get hj, zD c, wrap_nat (by omega)]) hE
theorem span_get {o : List SSpan} {r : Nat} : rd_TSpan o (r : Int) = o.getD r zSpan := rfl
section
variable (pn : ByteArray) (pp : Int) (bs : List (List SIns)) {R : Nat} (hR : R ≤ 64) {s : List SSpan} (hs : s.length = R) (a bh : List Int) (ha : a.length ≤ 1000) (hbh : bh.length ≤ 1000) (dx : Int)
 (hA : ∀ r q : Nat, r < R → q < R → (r : Int) ∈ a → (q : Int) ∈ a → span_Meet.f (s.getD r zSpan).f0 (s.getD r zSpan).f1 (s.getD q zSpan).f0 (s.getD q zSpan).f1 = some true)
 (hB : ∀ r q : Nat, r < R → q < R → (r : Int) ∈ bh → ((q : Int) ∈ bh ∨ dx = (q : Int)) → span_Meet.f (s.getD r zSpan).f0 (s.getD r zSpan).f1 (s.getD q zSpan).f0 (s.getD q zSpan).f1 = some true)
include hR hs ha hbh hA hB
theorem inner (r : Nat) (hr : r < R) (hE : Ev (fun k => cubbylaw12_SpanLive.l0 k s a bh dx ((r + 1 : Nat) : Int) pn pp (R : Int) bs) true) : Ev (fun k => cubbylaw12_SpanLive.l1 k s a bh dx (r : Int) 0 pn pp (R : Int) bs) true := by
 refine scan (fun k q => cubbylaw12_SpanLive.l1 k s a bh dx (r : Int) (q : Int) pn pp (R : Int) bs) R (fun _ => true) ?_ ?_ 0 (Nat.zero_le _)
 ·refine Ev.step (fun k => ?_) hE
  simp only [cubbylaw12_SpanLive.l1]
  rw [zD (by omega), wrap_nat (by omega)]
 ·intro q hq hE
  have k1 := haslaw_ev a (r : Int) (by omega)
  have k2 := haslaw_ev a (q : Int) (by omega)
  have k3 := haslaw_ev bh (r : Int) (by omega)
  have k4 := haslaw_ev bh (q : Int) (by omega)
  have hr0 : (0 : Int) ≤ (r : Int) := by omega
  have hr1 : (r : Int) < (s.length : Int) := by omega
  have hq0 : (0 : Int) ≤ (q : Int) := by omega
  have hq1 : (q : Int) < (s.length : Int) := by omega
  have hq2 : (q : Int) < (R : Int) := by omega
  by_cases c1 : (r : Int) ∈ a
  ·rw [zF c1] at k1
   refine Ev.step (fun k => by simp only [cubbylaw12_SpanLive.l1]; rw [zC hq2]) (Ev.bind k1 ?_)
   by_cases c2 : (q : Int) ∈ a
   ·rw [zF c2] at k2
    refine Ev.congr (fun k => by rw [zC rfl]) (Ev.bind k2 ?_)
    exact Ev.congr (fun k => by rw [zC rfl, zC hr0, zC hr1, zC hq0, zC hq1, span_get, span_get, hA r q hr hq c1 c2, zJ, zC rfl, wrap_nat (by omega)]) hE
   ·rw [zG c2] at k2
    refine Ev.congr (fun k => by rw [zC rfl]) (Ev.bind k2 ?_)
    by_cases c3 : (r : Int) ∈ bh
    ·rw [zF c3] at k3
     refine Ev.congr (fun k => by rw [zD Bool.false_ne_true]) (Ev.bind k3 ?_)
     by_cases c4 : (q : Int) ∈ bh
     ·rw [zF c4] at k4
      refine Ev.congr (fun k => by rw [zC rfl]) (Ev.bind k4 ?_)
      exact Ev.congr (fun k => by rw [zC rfl, zC hr0, zC hr1, zC hq0, zC hq1, span_get, span_get, hB r q hr hq c3 (.inl c4), zJ, zC rfl, wrap_nat (by omega)]) hE
     ·rw [zG c4] at k4
      refine Ev.congr (fun k => by rw [zC rfl]) (Ev.bind k4 ?_)
      by_cases c5 : dx = (q : Int)
      ·exact Ev.congr (fun k => by rw [zD Bool.false_ne_true, zC c5, zC hr0, zC hr1, zC hq0, zC hq1, span_get, span_get, hB r q hr hq c3 (.inr c5), zJ, zC rfl, wrap_nat (by omega)]) hE
      ·exact Ev.congr (fun k => by rw [zD Bool.false_ne_true, zD c5, wrap_nat (by omega)]) hE
    ·rw [zG c3] at k3
     refine Ev.congr (fun k => by rw [zD Bool.false_ne_true]) (Ev.bind k3 ?_)
     exact Ev.congr (fun k => by rw [zD Bool.false_ne_true, wrap_nat (by omega)]) hE
  ·rw [zG c1] at k1
   refine Ev.step (fun k => by simp only [cubbylaw12_SpanLive.l1]; rw [zC hq2]) (Ev.bind k1 ?_)
   by_cases c3 : (r : Int) ∈ bh
   ·rw [zF c3] at k3
    refine Ev.congr (fun k => by rw [zD Bool.false_ne_true]) (Ev.bind k3 ?_)
    by_cases c4 : (q : Int) ∈ bh
    ·rw [zF c4] at k4
     refine Ev.congr (fun k => by rw [zC rfl]) (Ev.bind k4 ?_)
     exact Ev.congr (fun k => by rw [zC rfl, zC hr0, zC hr1, zC hq0, zC hq1, span_get, span_get, hB r q hr hq c3 (.inl c4), zJ, zC rfl, wrap_nat (by omega)]) hE
    ·rw [zG c4] at k4
     refine Ev.congr (fun k => by rw [zC rfl]) (Ev.bind k4 ?_)
     by_cases c5 : dx = (q : Int)
     ·exact Ev.congr (fun k => by rw [zD Bool.false_ne_true, zC c5, zC hr0, zC hr1, zC hq0, zC hq1, span_get, span_get, hB r q hr hq c3 (.inr c5), zJ, zC rfl, wrap_nat (by omega)]) hE
     ·exact Ev.congr (fun k => by rw [zD Bool.false_ne_true, zD c5, wrap_nat (by omega)]) hE
   ·rw [zG c3] at k3
    refine Ev.congr (fun k => by rw [zD Bool.false_ne_true]) (Ev.bind k3 ?_)
    exact Ev.congr (fun k => by rw [zD Bool.false_ne_true, wrap_nat (by omega)]) hE
theorem outer : Ev (fun k => cubbylaw12_SpanLive.l0 k s a bh dx 0 pn pp (R : Int) bs) true := by
 refine scan (fun k r => cubbylaw12_SpanLive.l0 k s a bh dx (r : Int) pn pp (R : Int) bs) R (fun _ => true) ?_ ?_ 0 (Nat.zero_le _)
 ·exact Ev.step (f := fun _ => some true) (fun k => by simp only [cubbylaw12_SpanLive.l0]; rw [zD (by omega)]) (Ev.now _)
 ·intro r hr hE
  refine Ev.step (fun k => ?_) (inner pn pp bs hR hs a bh ha hbh dx hA hB r hr hE)
  simp only [cubbylaw12_SpanLive.l0]
  rw [zC (by omega)]
end
theorem SpanLive : SpanLive.Pure := by
 intro pn pp rg bs a i hn h1 h2 hbs ha hi
 refine Ev.rounds ?_
 have hF : FairB bs := ⟨by omega, fun b hb => by have := (hbs.2.2 b hb).1; omega, fun b hb y hy => by have := ((hbs.2.2 b hb).2.2 y hy).2.2.2.2.2.1; omega⟩
 have ha := u8_range ha
 have hi := u8_range hi
 obtain ⟨hv, hE, hfalse⟩ := heavy12_ev pn pp rg bs hF
 refine Ev.bind hE ?_
 cases hv
 ·obtain ⟨R, z, rfl, T⟩ := hfalse rfl
  have O := T.small
  have hl := T.len
  have hR := T.regs
  have hpos := T.pos
  have hpl := places_len bs
  obtain ⟨s, s1, s3⟩ := spans_all T
  have l1 := s3.len
  rw [wrap_id (i := a) (by omega) (by omega), wrap_id (i := i) (by omega) (by omega)]
  have t1 := tmod_pos a (bs.length : Int) (by omega) (by omega)
  refine Ev.congr (fun k => by rw [zD Bool.false_ne_true, zD (by omega), zC t1.1, zC t1.2]) ?_
  generalize Int.tmod a (bs.length : Int) = b at t1 ⊢
  obtain ⟨b, rfl⟩ : ∃ b' : Nat, b = b' := ⟨b.toNat, by omega⟩
  have hb : b < bs.length := by omega
  have hgd : bs.getD b [] = bs[b] := getD_get hb
  have hrow : rd_LIns bs (b : Int) = bs[b] := hgd
  have hne := T.ok.row _ (List.getElem_mem hb)
  have hrl := O.row _ (List.getElem_mem hb)
  rw [hrow]
  have t2 := tmod_pos i ((bs[b].length : Nat) : Int) (by omega) (by omega)
  refine Ev.congr (fun k => by rw [zD (by omega)]) (Ev.bind (places_ev T) (Ev.bind s1 ?_))
  generalize Int.tmod i ((bs[b].length : Nat) : Int) = n at t2 ⊢
  obtain ⟨n, rfl⟩ : ∃ b' : Nat, n = b' := ⟨n.toNat, by omega⟩
  have hnl : n < bs[b].length := by omega
  by_cases cin : (b : Int) ∈ ordOf bs
  ·have hpr : rd_LInt (places bs) (b : Int) = nums (begin_ bs b) (blen bs b) := places_row bs _ cin
   obtain ⟨e1, e2⟩ := blen_nat hb
   refine Ev.congr (f := fun k => cubbylaw12_SpanLive.j0 k (b : Int) (n : Int) s false pn pp (R : Int) bs) (fun k => by rw [zC (by omega), zC (by omega), zC (by omega), hpr, nums_len, show (((blen bs (b : Int)) : Int) == 0) = false by simp; omega]) ?_
   have la := refaheadL_ev pn pp T.fair T.ok T.check T.sol T.refin (b := b) (i := n) hb (by rw [hgd]; omega)
   have lb := refaheadL_ev pn pp T.fair T.ok T.check T.sol T.refin (b := b) (i := n + 1) hb (by rw [hgd]; omega)
   refine Ev.step (fun k => by simp only [cubbylaw12_SpanLive.j0]; rw [zD Bool.false_ne_true]) (Ev.bind la ?_)
   rw [wrap_nat (by omega)]
   refine Ev.bind lb (Ev.congr (fun k => by rw [zC (by omega), zC (by omega), zC (by omega), hrow, zC (by omega), rd_ins hnl, refdef_eq, zJ]) ?_)
   have hpa : ∀ r : Nat, r < R → (r : Int) ∈ toL R (aheadN bs z b n) → allPts pp R bs z r (2 * ((begin_ bs b + n + 1 : Nat) : Int)) := fun r hr h => .inr ⟨b, n, cin, by omega, .inl ⟨h, rfl⟩⟩
   have hpb : ∀ r : Nat, r < R → ((r : Int) ∈ toL R (aheadN bs z b (n + 1)) ∨ (r : Int) = defOf (bs[b])[n].f0 (bs[b])[n].f1) → allPts pp R bs z r (2 * ((begin_ bs b + n + 1 : Nat) : Int) + 1) := fun r hr h => .inr ⟨b, n, cin, by omega, .inr ⟨by rw [insAt_get hb hnl]; exact h, rfl⟩⟩
   exact outer pn pp bs (R := R) (by omega) l1 _ _ (by have := toL_len R (aheadN bs z b n); omega) (by have := toL_len R (aheadN bs z b (n + 1)); omega) _
    (fun r q hr hq h3 h4 => meet_common (s3.is r hr) (s3.is q hq) (hpa r hr h3) (hpa q hq h4))
    (fun r q hr hq h3 h4 => meet_common (s3.is r hr) (s3.is q hq) (hpb r hr (.inl h3)) (hpb q hq (h4.imp id (fun e => e.symm))))
  ·have hpr : rd_LInt (places bs) (b : Int) = [] := places_out (by omega) cin
   refine Ev.congr (f := fun k => cubbylaw12_SpanLive.j0 k (b : Int) (n : Int) s true pn pp (R : Int) bs) (fun k => by rw [zC (by omega), zC (by omega), zC (by omega), hpr]; rfl) ?_
   refine Ev.step (fun k => by simp only [cubbylaw12_SpanLive.j0]; rw [zC trivial]) (Ev.bind (refplaces_ev T) ?_)
   exact Ev.congr (f := fun _ => some true) (fun k => by rw [zC (by omega), zC (by omega), hpr]; rfl) (Ev.now _)
 ·exact Ev.congr (f := fun _ => some true) (fun k => by rw [zC rfl]; rfl) (Ev.now _)
end Go.Proofs.YtpkimbkjjmbmcaaDoor.RSpanLive.Pure
namespace Go.Proofs.YtpkimbkjjmbmcaaDoor.RSpanLive
open Go.ChangeShapes Go.WideShapes Go.ChangeAt
open Go.ChangeMaps (open_string shut_string)
open Go Go.RowKit Go.Proofs.YtpkimbkjjmbmcaaDoorW.PrintWords Go.Proofs.YtpkimbkjjmbmcaaDoorW.PrintLast Go.Proofs.YtpkimbkjjmbmcaaDoorW.PrintMore Go.Proofs.YtpkimbkjjmbmcaaDoor.Q Go.Proofs.YtpkimbkjjmbmcaaDoor.Open
set_option linter.unusedVariables false
theorem own : ownKnob Tryd.prog.godebug = none := by kernel_rfl
theorem laidOut : laidOutB Tryd.prog = true := by kernel_rfl
theorem opensIns : Opens Tryd.prog 38 kIns GIns :=
 (Opens.iso (fun x : SIns => (x.f0, x.f1, x.f2, x.f3, x.f4, x.f5)) (fun y => ⟨y.1, y.2.1, y.2.2.1, y.2.2.2.1, y.2.2.2.2.1, y.2.2.2.2.2⟩) (fun _ => rfl) (Opens.struct Tryd.underlying38 (by kernel_rfl) (OpensFs.cons rfl (Opens.int (Tryd.underlying3) (by kernel_rfl)) (OpensFs.cons rfl (Opens.int (Tryd.underlying3) (by kernel_rfl)) (OpensFs.cons rfl (Opens.int (Tryd.underlying3) (by kernel_rfl)) (OpensFs.cons rfl (Opens.int (Tryd.underlying3) (by kernel_rfl)) (OpensFs.cons rfl (Opens.string (Tryd.underlying9) (by kernel_rfl)) (OpensFs.one rfl (Opens.slice (B := 8) (Tryd.underlying35) (by kernel_rfl) (by kernel_rfl) (Opens.int (Tryd.underlying3) (by kernel_rfl))))))))))).imp (fun _ h => h)
set_option maxRecDepth 100000 in
theorem lifted (os : Os) (started : os.Started) (H : Type) (enc : TypeId × Value → H) :
 ReturnsInHanded {} Tryd.checked os 4 .any (fun w args => (Rows.spanLiveSpec.pre enc Tryd.prog Tryd.f4 [] false w args ∧ laidMetH Tryd.prog Rows.spanLiveRow.laid w) ∧ sizedMet enc Tryd.prog Tryd.f4 (OpenSpec.ofChange Rows.spanLiveSpec) false w args) (Rows.spanLiveSpec.post enc Tryd.prog Tryd.f4 false true false false) := by
 refine returnsInHanded_of_change_and (C := Tryd.checked) (X := fun w _ => laidMetH Tryd.prog Rows.spanLiveRow.laid w) (fun _ _ _ hh h => h.of_heap hh) own started (by kernel_rfl) Tryd.func4
  (ChangeSpec.witness_shaped (enc := enc) (C := Tryd.checked) (os := os) (X := fun w _ => laidMetH Tryd.prog Rows.spanLiveRow.laid w) false (World.laidAll Tryd.prog os Rows.spanLiveRow.laid) #[.agg #[.string ByteArray.empty, .int .i64 0, .int .i64 0, .slice none 0 0], .int .u8 0, .int .u8 0] 8 (World.laidAll_os _ _ _)
    (World.shaped_of_ZipB (by kernel_rfl) (by kernel_rfl)) (by kernel_rfl) (by kernel_rfl) (by kernel_rfl)
    (by rw [MakeChecks.laidMetH_plain _ _ _ (by kernel_rfl)]; exact laidMet_laidAll _ (by kernel_rfl) (by kernel_rfl))) ?_
 intro W base args ds gs before hval0 hW hcnd hsz0 hL0 _
 rw [MakeChecks.laidMetH_plain _ _ _ (by kernel_rfl)] at hL0
 have LAIDF : LaidW W := LaidW.of_reads2 (show Lib.VarReads Tryd.prog W "cubby/ir.shapes" shapesD from Lib.laidMet.reads hL0 (n := "cubby/ir.shapes") (d := Rows.laid_cubby_ir_shapes) (by simp [Rows.spanLiveRow])) (show Lib.VarReads Tryd.prog W "math/bits.deBruijn64tab" tabD from Lib.laidMet.reads hL0 (n := "math/bits.deBruijn64tab") (d := Rows.laid_math_bits_deBruijn64tab) (by simp [Rows.spanLiveRow]))
 have hsz : (DataW.weightsEach Tryd.prog (Tryd.f4.params.toList ++ Rows.spanLiveSpec.plain.varTypes Tryd.prog) (ds ++ gs)).all (· ≤ reachBytes) = true := hsz0
 have hval : ∀ (j : Nat) t v, Tryd.f4.params[j]? = some t → args[j]? = some v → Value.okWide Tryd.prog W .any base t v := hval0
 have hW' := hW
 obtain ⟨p, q, hA0, hV, rfl, hfz, hnd⟩ := hW
 have hA : DataW.TrodAll enc Tryd.prog W 0 (fun _ => true) true Tryd.f4.params.toList args.toList ds p := hA0
 rw [Tryd.params4] at hA hval hsz
 obtain ⟨v0, vs0, d0, ds0, p0, q0, hargs, rfl, rfl, h0, r0⟩ := trodAll_cons hA
 obtain ⟨v1, vs1, d1, ds1, p1, q1, rfl, rfl, rfl, h1, r1⟩ := trodAll_cons r0
 obtain ⟨v2, vs2, d2, ds2, p2, q2, rfl, rfl, rfl, h2, r2⟩ := trodAll_cons r1
 obtain ⟨rfl, rfl, rfl⟩ := trodAll_nil r2
 obtain rfl : args = #[v0, v1, v2] := by cases args; simp_all
 obtain ⟨rfl, rfl⟩ := trodVars_none hV
 have lt0 : ∀ x ∈ p0, x.block < W.heap.size := by obtain ⟨m, hm⟩ := h0; exact DataW.trod_lt m _ _ _ hm
 obtain ⟨cs0, rfl, -⟩ := okWide_struct Tryd.underlying24 (hval 0 24 v0 rfl rfl)
 obtain ⟨⟨a0_0, a0_1, a0_2, l0_3⟩, hk0, gg0⟩ := (Opens.struct Tryd.underlying24 (by kernel_rfl) (OpensFs.cons rfl (Opens.string (Tryd.underlying9) (by kernel_rfl)) (OpensFs.cons rfl (Opens.int (Tryd.underlying3) (by kernel_rfl)) (OpensFs.cons rfl (Opens.int (Tryd.underlying3) (by kernel_rfl)) (OpensFs.one rfl (Opens.slice (B := 24) (Tryd.underlying22) (by kernel_rfl) (by kernel_rfl) (Opens.slice (B := 72) (Tryd.underlying29) (by kernel_rfl) (by kernel_rfl) opensIns)))))) : Opens Tryd.prog 24 (Kd.pair Kd.string (Kd.pair (Kd.int .i64) (Kd.pair (Kd.int .i64) (Kd.slice 29 (Kd.slice 38 kIns))))) (fun y => ((y.1).size ≤ 140737488351232 ∧ ((Lit.int .i64 (y.2.1)).wf = true ∧ ((Lit.int .i64 (y.2.2.1)).wf = true ∧ ((y.2.2.2).length * 24 ≤ 140737488351232 ∧ (y.2.2.2).length ≤ maxLen ∧ ∀ y1 ∈ (y.2.2.2), ((y1).length * 72 ≤ 140737488351232 ∧ (y1).length ≤ maxLen ∧ ∀ y2 ∈ (y1), GIns (y2)))))))).arg h0 hsz (j := 0) rfl rfl
 obtain ⟨g0_0, g0_1, g0_2, g0_3⟩ := gg0
 obtain ⟨_, _, h0_, rfl, ⟨_, _, rfl, rfl, ⟨_, _, rfl, rfl, ⟨A0_3, c0_3, rfl, hc0_3, hr0_3⟩⟩⟩⟩ := hk0
 obtain rfl : cs0 = #[.string a0_0, .int .i64 a0_1, .int .i64 a0_2, .slice A0_3 l0_3.length c0_3] := by
  cases cs0
  simp [Value.cells] at h0_
  simp [h0_]
 have lt1 : ∀ x ∈ p1, x.block < W.heap.size := by obtain ⟨m, hm⟩ := h1; exact DataW.trod_lt m _ _ _ hm
 obtain ⟨a1, rfl, rfl, rfl, w1⟩ := open_int Tryd.underlying5 (hval 1 5 v1 rfl rfl) h1
 have lt2 : ∀ x ∈ p2, x.block < W.heap.size := by obtain ⟨m, hm⟩ := h2; exact DataW.trod_lt m _ _ _ hm
 obtain ⟨a2, rfl, rfl, rfl, w2⟩ := open_int Tryd.underlying5 (hval 2 5 v2 rfl rfl) h2
 clear hA0 hval0 hsz0 hsz
 obtain ⟨k, hf⟩ := Pure.SpanLive a0_0 a0_1 a0_2 l0_3 a1 a2 g0_0 g0_1 g0_2 g0_3 w1 w2
 refine (Q.cubbylaw12_SpanLive.calls k a0_0 a0_1 a0_2 A0_3 c0_3 l0_3 a1 a2 true W LAIDF rfl hr0_3 hc0_3 hf).mono ?_
 rintro e W' ⟨rfl, hd⟩
 have bel : Below W.heap.size W W' := hd
 exact ⟨_, rfl, _, _, _, [], _, [], hW', trodAll_mk1 (shut_bool Tryd.underlying4 _), (trodAll_cons_mk (Below.trod laidOut (by kernel_rfl) (zB (by kernel_rfl)) h0 bel lt0) (trodAll_cons_mk (Below.trod laidOut (by kernel_rfl) (zB (by kernel_rfl)) h1 bel lt1) (trodAll_cons_mk (Below.trod laidOut (by kernel_rfl) (zB (by kernel_rfl)) h2 bel lt2) trodAll_mk0))), rfl, bel.frame _, fun h => by cases h⟩
theorem over : Rows.spanLiveRow.holds Tryd.pinned (OpenSpec.ofChange Rows.spanLiveSpec) :=
 OpenClaim.holds_of_wide 4 Tryd.f4 rfl rfl rfl rfl rfl rfl rfl ⟨rfl, rfl, rfl, rfl, rfl⟩ rfl rfl rfl rfl rfl (by kernel_rfl) Tryd.func4 (by kernel_rfl)
  (zB (by kernel_rfl)) (by unfold Func.isWrapper; first | (rw [zC (by decide +kernel)]; kernel_rfl) | (rw [zD (by decide +kernel)]; exact ⟨rfl, rfl⟩))
  (fun os started H enc _ => lifted os started H enc)
end Go.Proofs.YtpkimbkjjmbmcaaDoor.RSpanLive
namespace Go.Proofs.YtpkimbkjjmbmcaaDoor
theorem spanLive_holds : Rows.SpanLiveSaid := RSpanLive.over
theorem spanLive_card : Rows.SpanLiveCardSaid :=
 Claim7.holds_tied_plain_at .later [] [.data, .data, .data, .pinned] true (true, "86b6e9ea8fc3c67843df3ee2922f7abef32778c09a3551e54e3f97281a58097c") true spanLive_holds (fun _ h => by cases h) (by kernel_rfl) (fun _ h => by cases h) spanLive_row_tie rfl ⟨rfl, rfl⟩ (by kernel_rfl) rfl
  (fun f fn hf hfn => by
    obtain rfl : f = 4 := zI ((show Tryd.prog.funcNamed "cubby/cubbylaw12.SpanLive" = some 4 by kernel_rfl).symm.trans hf) |>.symm
    obtain rfl : fn = Tryd.f4 := (zI (Tryd.func4.symm.trans hfn)).symm
    exact ⟨by kernel_rfl, fun j t ht => by
     rw [Tryd.params4] at ht
     have hm : t ∈ [24, 5, 5] := by simpa using Array.mem_of_getElem? ht
     have hall : ([24, 5, 5].all fun u => !Tryd.prog.wantsStandIn u) = true := by kernel_rfl
     exact (show Tryd.prog.wantsStandIn t = false by simpa using List.all_eq_true.1 hall t hm)⟩)
  (by kernel_rfl)
#print axioms spanLive_card
end Go.Proofs.YtpkimbkjjmbmcaaDoor
