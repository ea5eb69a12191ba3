/-
  What the printed functions on the order of blocks, and on what is reached, answer: both texts' come to one plain function.
-/
import Derived.Test.YtgmklfaknomakaaPlainFlow
import Derived.Test.YtgmklfaknomakaaDfs
import Derived.Test.YtgmklfaknomakaaOrder
import Derived.Test.YtgmklfaknomakaaQcubbyref09Order
import Derived.Test.YtgmklfaknomakaaQflowReach
import Derived.Test.YtgmklfaknomakaaQcubbyref09Reach
namespace Go.Proofs.Ytgmklfaknomakaa.PlainOrder
open Go Go.RowKit Go.Proofs.YtgmklfaknomakaaW.PrintWords Go.Proofs.YtgmklfaknomakaaW.PrintMore Go.Proofs.Ytgmklfaknomakaa.Q Go.Proofs.Ytgmklfaknomakaa.Plain Go.Proofs.Ytgmklfaknomakaa.PlainFlow Go.Proofs.Ytgmklfaknomakaa.Dfs
set_option linter.unusedVariables false
set_option linter.unusedSimpArgs false

theorem rng {x : List (List SIns)} : ∀ i, ∀ k ∈ succs x i, 0 ≤ k ∧ k < ((x.length : Nat) : Int) := fun i k hk => succs_mem x i k hk

section
variable {x : List (List SIns)} (hx : x.length ≤ 1000000)
include hx

theorem ref_fold {d : Nat} (H : ∀ (i : Int) (met put : List Int), 0 ≤ i → i < x.length → i ∉ met → unmet x.length met ≤ d → Inv x.length met put → Ev (fun k => cubbyref09_visit.f k x i met put) (dfs (succs x) d i (met, put))) (i : Int) (l : List Int) (hl : l.length ≤ 1000) (hlr : ∀ k ∈ l, 0 ≤ k ∧ k < x.length) :
    ∀ (q j : Nat) (met put : List Int), l.length - j = q → j ≤ l.length → unmet x.length met ≤ d → Inv x.length met put →
    Ev (fun k => cubbyref09_visit.l0 k x i met put l (j : Int)) (((l.drop j).foldl (stepS (succs x) d) (met, put)).1, i :: ((l.drop j).foldl (stepS (succs x) d) (met, put)).2) := by
  intro q
  induction q with
  | zero =>
    intro j met put hq hj hu hv
    rw [List.drop_eq_nil_of_le (by omega)]
    refine Ev.step (f := fun _ => some (met, i :: put)) (fun k => ?_) (Ev.now _)
    have := hv.len
    simp only [cubbyref09_visit.l0]
    rw [if_neg (by omega), Option.bind_some, if_pos (by simp; omega)]
    rfl
  | succ q ih =>
    intro j met put hq hj hu hv
    have hm := hv.mlen
    have hlt : j < l.length := by omega
    obtain ⟨k0, k1⟩ := hlr l[j] (List.getElem_mem hlt)
    rw [drop_cons hlt, List.foldl_cons]
    have hh := has_ev met l[j] (by omega)
    have st : ∀ k, cubbyref09_visit.l0 (k + 1) x i met put l (j : Int) = (cubbyref09_has.f k met l[j]).bind fun t => if t = true then cubbyref09_visit.l0 k x i met put l ((j + 1 : Nat) : Int) else (cubbyref09_visit.f k x l[j] met put).bind fun b => cubbyref09_visit.l0 k x i b.1 b.2 l ((j + 1 : Nat) : Int) := fun k => by
      simp only [cubbyref09_visit.l0]
      rw [if_pos (by omega), if_pos (by omega), rd_get hlt, wrap_nat (by omega)]
    by_cases hk : l[j] ∈ met
    · have e : stepS (succs x) d (met, put) l[j] = (met, put) := by unfold stepS; rw [if_pos hk]
      rw [e]
      refine Ev.step st (Ev.bind hh ?_)
      simp only [hk, decide_true, if_true]
      exact ih (j + 1) met put (by omega) (by omega) hu hv
    · have e : stepS (succs x) d (met, put) l[j] = dfs (succs x) d l[j] (met, put) := by unfold stepS; rw [if_neg hk]
      rw [e]
      have hg := dfs_good rng d l[j] met put k0 k1 hk hu hv
      refine Ev.step st (Ev.bind hh ?_)
      simp only [hk, decide_false, Bool.false_eq_true, if_false]
      exact Ev.bind (H l[j] met put k0 k1 hk hu hv) (ih (j + 1) (dfs (succs x) d l[j] (met, put)).1 (dfs (succs x) d l[j] (met, put)).2 (by omega) (by omega) (Nat.le_trans (unmet_le hg.keep) hu) hg.inv)
theorem ref_visit (hs : Small x) : ∀ (d : Nat) (i : Int) (met put : List Int), 0 ≤ i → i < x.length → i ∉ met → unmet x.length met ≤ d → Inv x.length met put →
    Ev (fun k => cubbyref09_visit.f k x i met put) (dfs (succs x) d i (met, put)) := by
  intro d
  induction d with
  | zero =>
    intro i met put h0 h1 hi hu _
    have := unmet_pos h0 h1 hi
    omega
  | succ d ih =>
    intro i met put h0 h1 hi hu hv
    have hu' : unmet x.length (met ++ [i]) ≤ d := by have := unmet_lt h0 h1 hi; omega
    have hv' := hv.snoc h0 h1 hi
    have hm := hv'.mlen
    have hl := succs_len x i
    have h2 := ref_fold hx ih i (succs x i) (by omega) (succs_mem x i) _ 0 (met ++ [i]) put rfl (by omega) hu' hv'
    rw [List.drop_zero] at h2
    rw [dfs_succ]
    rw [List.length_append, List.length_singleton] at hm
    refine Ev.step (f := fun k => (cubbyref09_Succs.f k x i).bind fun t => cubbyref09_visit.l0 k x i (met ++ [i]) put t 0) (fun k => ?_) (Ev.bind (refsuccs_ev x i hs) h2)
    simp only [cubbyref09_visit.f, Option.bind_some, List.nil_append]
    rw [if_pos (by simp; omega), if_pos (by omega)]
theorem reforder_ev (hs : Small x) : Ev (fun k => cubbyref09_Order.f k x) (order (succs x) x.length) := by
  by_cases h : x.length = 0
  · refine Ev.congr (f := fun _ => some []) (fun k => by unfold cubbyref09_Order.f; rw [if_pos (by omega)]) ?_
    unfold order
    rw [if_pos h]
    exact Ev.now _
  · refine Ev.congr (f := fun k => (cubbyref09_visit.f k x 0 [] []).bind fun b => some b.2) (fun k => by unfold cubbyref09_Order.f; rw [if_neg (by omega)]) ?_
    refine Ev.bind (ref_visit hx hs x.length 0 [] [] (by omega) (by omega) (by simp) (by rw [unmet_nil]; exact Nat.le_refl _) ⟨by simp, by simp, List.nodup_nil, List.nodup_nil⟩) ?_
    unfold order
    rw [if_neg h]
    exact Ev.now _

omit hx in
theorem rdOf_bits {n : Nat} {met : List Int} {i : Int} (h0 : 0 ≤ i) (h1 : i < n) : rdOf false (bitsOf n met) i = decide (i ∈ met) := by
  show (bitsOf n met).getD i.toNat false = _
  rw [List.getD_eq_getElem?_getD, bits_get (by omega)]
  have : ((i.toNat : Nat) : Int) = i := by omega
  simp [this]
theorem own_fold {d : Nat} (H : ∀ (i : Int) (met put : List Int), 0 ≤ i → i < x.length → i ∉ met → unmet x.length met ≤ d → Inv x.length met put → Ev (fun k => flow_Order_1.f k x i (bitsOf x.length met) put.reverse) (bitsOf x.length (dfs (succs x) d i (met, put)).1, (dfs (succs x) d i (met, put)).2.reverse)) (i : Int) (l : List Int) (hl : l.length ≤ 1000) (hlr : ∀ k ∈ l, 0 ≤ k ∧ k < x.length) :
    ∀ (q j : Nat) (met put : List Int), l.length - j = q → j ≤ l.length → unmet x.length met ≤ d → Inv x.length met put →
    Ev (fun k => flow_Order_1.l0 k x i (bitsOf x.length met) put.reverse l (j : Int)) (bitsOf x.length ((l.drop j).foldl (stepS (succs x) d) (met, put)).1, ((l.drop j).foldl (stepS (succs x) d) (met, put)).2.reverse ++ [i]) := by
  intro q
  induction q with
  | zero =>
    intro j met put hq hj hu hv
    rw [List.drop_eq_nil_of_le (by omega)]
    refine Ev.step (f := fun _ => some (bitsOf x.length met, put.reverse ++ [i])) (fun k => ?_) (Ev.now _)
    have := hv.len
    simp only [flow_Order_1.l0]
    rw [if_neg (by omega), if_pos (by simp; omega)]
  | succ q ih =>
    intro j met put hq hj hu hv
    have hm := hv.mlen
    have hlt : j < l.length := by omega
    obtain ⟨k0, k1⟩ := hlr l[j] (List.getElem_mem hlt)
    rw [drop_cons hlt, List.foldl_cons]
    have st : ∀ k, flow_Order_1.l0 (k + 1) x i (bitsOf x.length met) put.reverse l (j : Int) = if decide (l[j] ∈ met) = true then flow_Order_1.l0 k x i (bitsOf x.length met) put.reverse l ((j + 1 : Nat) : Int) else (flow_Order_1.f k x l[j] (bitsOf x.length met) put.reverse).bind fun b => flow_Order_1.l0 k x i b.1 b.2 l ((j + 1 : Nat) : Int) := fun k => by
      simp only [flow_Order_1.l0]
      rw [if_pos (by omega), if_pos (by omega), rd_get hlt, if_pos k0, if_pos (by rw [bits_len]; omega), rdOf_bits k0 (by omega), wrap_nat (by omega)]
    by_cases hk : l[j] ∈ met
    · have e : stepS (succs x) d (met, put) l[j] = (met, put) := by unfold stepS; rw [if_pos hk]
      rw [e]
      refine Ev.step st ?_
      simp only [hk, decide_true, if_true]
      exact ih (j + 1) met put (by omega) (by omega) hu hv
    · have e : stepS (succs x) d (met, put) l[j] = dfs (succs x) d l[j] (met, put) := by unfold stepS; rw [if_neg hk]
      rw [e]
      have hg := dfs_good rng d l[j] met put k0 k1 hk hu hv
      refine Ev.step st ?_
      simp only [hk, decide_false, Bool.false_eq_true, if_false]
      exact Ev.bind (H l[j] met put k0 k1 hk hu hv) (ih (j + 1) (dfs (succs x) d l[j] (met, put)).1 (dfs (succs x) d l[j] (met, put)).2 (by omega) (by omega) (Nat.le_trans (unmet_le hg.keep) hu) hg.inv)
theorem own_visit (hs : Small x) : ∀ (d : Nat) (i : Int) (met put : List Int), 0 ≤ i → i < x.length → i ∉ met → unmet x.length met ≤ d → Inv x.length met put →
    Ev (fun k => flow_Order_1.f k x i (bitsOf x.length met) put.reverse) (bitsOf x.length (dfs (succs x) d i (met, put)).1, (dfs (succs x) d i (met, put)).2.reverse) := by
  intro d
  induction d with
  | zero =>
    intro i met put h0 h1 hi hu _
    have := unmet_pos h0 h1 hi
    omega
  | succ d ih =>
    intro i met put h0 h1 hi hu hv
    have hu' : unmet x.length (met ++ [i]) ≤ d := by have := unmet_lt h0 h1 hi; omega
    have hv' := hv.snoc h0 h1 hi
    have hl := succs_len x i
    have h2 := own_fold hx ih i (succs x i) (by omega) (succs_mem x i) _ 0 (met ++ [i]) put rfl (by omega) hu' hv'
    rw [List.drop_zero] at h2
    rw [dfs_succ]
    simp only [List.reverse_cons]
    refine Ev.step (f := fun k => (flow_Succs.f k x i).bind fun t => flow_Order_1.l0 k x i (bitsOf x.length (met ++ [i])) put.reverse t 0) (fun k => ?_) (Ev.bind (succs_ev x i hs) h2)
    simp only [flow_Order_1.f]
    rw [if_pos h0, if_pos (by rw [bits_len]; omega), bits_set h0 h1]
end

theorem swap_get {l : List Int} {a b : Nat} (ha : a < l.length) (hb : b < l.length) (i : Nat) : ((l.set a l[b]).set b l[a])[i]? = if i = b then some l[a] else if i = a then some l[b] else l[i]? := by
  rw [List.getElem?_set]
  by_cases h1 : b = i
  · subst h1
    simp [hb]
  · rw [if_neg h1, List.getElem?_set, if_neg (Ne.symm h1)]
    by_cases h2 : a = i
    · subst h2
      simp [ha]
    · rw [if_neg h2, if_neg (Ne.symm h2)]
/-- Reversed, but for what stands from a on, b ones. -/
theorem rev_loop (n : Nat) (l0 : List Int) (hn : l0.length = n) (hb : n ≤ 1000000000) : ∀ (d a : Nat) (l : List Int), n - 2 * a = d → l.length = n → 2 * a ≤ n + 1 →
    (∀ i, l[i]? = if i < a ∨ n - a ≤ i then l0.reverse[i]? else l0[i]?) → Ev (fun k => slices_Reverse_int_int.l0 k l (a : Int) ((n : Int) - 1 - a)) l0.reverse := by
  intro d
  induction d using Nat.strongRecOn with
  | _ d ih =>
    intro a l hd hl ha he
    by_cases h : (a : Int) < (n : Int) - 1 - a
    · have h1 : a < l.length := by omega
      have h2 : n - 1 - a < l.length := by omega
      have e2 : ((n : Int) - 1 - a) = ((n - 1 - a : Nat) : Int) := by omega
      refine Ev.step (f := fun k => slices_Reverse_int_int.l0 k ((l.set a l[n - 1 - a]).set (n - 1 - a) l[a]) ((a + 1 : Nat) : Int) ((n : Int) - 1 - ((a + 1 : Nat) : Int))) (fun k => ?_) (ih (n - 2 * (a + 1)) (by omega) (a + 1) ((l.set a l[n - 1 - a]).set (n - 1 - a) l[a]) rfl (by rw [List.length_set, List.length_set]; exact hl) (by omega) (fun i => ?_))
      · simp only [slices_Reverse_int_int.l0]
        rw [if_pos h, if_pos (by omega), if_pos (by omega), if_pos (by omega), if_pos (by omega), e2, rd_get h1, rd_get h2, wrap_nat (by omega), Int.toNat_natCast, Int.toNat_natCast]
        rw [show wrap64 (((n - 1 - a : Nat) : Int) - 1) = (n : Int) - 1 - ((a + 1 : Nat) : Int) from by rw [wrap_id (by omega) (by omega)]; omega]
      · rw [swap_get h1 h2 i]
        have ea : l[a] = l0[a] := by
          have := he a
          rw [if_neg (by omega), List.getElem?_eq_getElem h1, List.getElem?_eq_getElem (by omega)] at this
          exact Option.some.inj this
        have eb : l[n - 1 - a] = l0[n - 1 - a] := by
          have := he (n - 1 - a)
          rw [if_neg (by omega), List.getElem?_eq_getElem h2, List.getElem?_eq_getElem (by omega)] at this
          exact Option.some.inj this
        by_cases hi : i = n - 1 - a
        · subst hi
          rw [if_pos rfl, if_pos (by omega), List.getElem?_reverse (by omega), ea, List.getElem?_eq_getElem (by omega)]
          congr 2
          omega
        · rw [if_neg hi]
          by_cases hi2 : i = a
          · subst hi2
            rw [if_pos rfl, if_pos (by omega), List.getElem?_reverse (by omega), eb, List.getElem?_eq_getElem (by omega)]
            congr 2
            omega
          · rw [if_neg hi2, he i]
            by_cases h3 : i < a ∨ n - a ≤ i
            · rw [if_pos h3, if_pos (by omega)]
            · rw [if_neg h3, if_neg (by omega)]
    · refine Ev.step (f := fun _ => some l0.reverse) (fun k => ?_) (Ev.now _)
      simp only [slices_Reverse_int_int.l0]
      rw [if_neg h]
      congr 1
      apply List.ext_getElem?
      intro i
      rw [he i]
      split
      · rfl
      · rename_i h3
        have : i = a ∧ n = 2 * a + 1 := by omega
        obtain ⟨rfl, hn2⟩ := this
        rw [List.getElem?_reverse (by omega)]
        congr 1
        omega
theorem reverse_ev (l : List Int) (hb : l.length ≤ 1000000000) : Ev (fun k => slices_Reverse_int_int.f k l) l.reverse := by
  have := rev_loop l.length l rfl hb _ 0 l rfl rfl (by omega) (fun i => by
    split
    · rename_i h
      rw [List.getElem?_eq_none (by omega), List.getElem?_eq_none (by simp; omega)]
    · rfl)
  refine Ev.congr (f := fun k => slices_Reverse_int_int.l0 k l ((0 : Nat) : Int) ((l.length : Int) - 1 - ((0 : Nat) : Int))) (fun k => ?_) this
  unfold slices_Reverse_int_int.f
  rw [wrap_id (by omega) (by omega)]
  simp

theorem order_len (x : List (List SIns)) : (order (succs x) x.length).length ≤ x.length := nodup_len (order_nodup rng) (order_rng rng)
theorem order_ev {x : List (List SIns)} (hx : x.length ≤ 1000000) (hs : Small x) : Ev (fun k => flow_Order.f k x) (order (succs x) x.length) := by
  by_cases h : x.length = 0
  · refine Ev.congr (f := fun _ => some []) (fun k => by unfold flow_Order.f; rw [if_pos (by omega)]) ?_
    unfold order
    rw [if_pos h]
    exact Ev.now _
  · refine Ev.congr (f := fun k => (flow_Order_1.f k x 0 (bitsOf x.length []) ([] : List Int).reverse).bind fun b => slices_Reverse_int_int.f k b.2) (fun k => by unfold flow_Order.f; rw [if_neg (by omega), if_pos (by omega), bits_nil]; rfl) ?_
    refine Ev.bind (own_visit hx hs x.length 0 [] [] (by omega) (by omega) (by simp) (by rw [unmet_nil]; exact Nat.le_refl _) ⟨by simp, by simp, List.nodup_nil, List.nodup_nil⟩) ?_
    have hl := order_len x
    unfold order at hl ⊢
    rw [if_neg h] at hl ⊢
    have := reverse_ev (dfs (succs x) x.length 0 ([], [])).2.reverse (by simp; omega)
    rwa [List.reverse_reverse] at this
end Go.Proofs.Ytgmklfaknomakaa.PlainOrder
