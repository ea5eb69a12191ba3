/- For every input the law SpanNumbers returns true, and its arguments read behind the call as they did: no condition. -/
import Derived.Test.YtebnnknijbgekaaDoorRows
import Derived.WalkKit
import Derived.ProofKit
import Derived.OpenShut
import Derived.ShutString
import Derived.ChangeOld
import Derived.Below
import Derived.SizedLaws
import Derived.Test.YtebnnknijbgekaaDoorCards
import Derived.Test.YtebnnknijbgekaaDoorTie
import Derived.LaidMore
import Derived.Lay
import Derived.SevenTiedAt
import Derived.Stop.Joined
import Derived.Lib.LaidU8
import Derived.Test.YtebnnknijbgekaaDoorMSpanNumbers1
import Derived.Test.YtebnnknijbgekaaDoorMSpanNumbers2
import Derived.Test.YtebnnknijbgekaaDoorMSpanNumbers3
import Derived.Test.YtebnnknijbgekaaDoorMSpanNumbers4
import Derived.Test.YtebnnknijbgekaaDoorMSpanNumbers5
namespace Go.Proofs.YtebnnknijbgekaaDoor.Q
open Go.RowKit Go.Proofs.YtebnnknijbgekaaDoorW.PrintWords Go.Proofs.YtebnnknijbgekaaDoorW.PrintLast Go.Proofs.YtebnnknijbgekaaDoorW.PrintMore
attribute [local go_sem] max2_int min2_int max_two min_two max_three min_three max_four min_four   -- for this text's walks alone
set_option linter.unusedVariables false
set_option linter.unusedSimpArgs false

/-! ### cubbyref09_Order: function 60 -/
def cubbyref09_Order.f (k : Nat) (l0 : List (List (SIns))) : Option (List Int) := if (l0.length : Int) = 0 then (some ([] : List Int)) else ((cubbyref09_visit.f k l0 0 ([] : List Int) ([] : List Int)).bind fun bt565 => (some bt565.2))
theorem cubbyref09_Order.mono : ∀ a0 k, LeO (cubbyref09_Order.f k a0) (cubbyref09_Order.f (k + 1) a0) := by
 intro a0 k
 unfold cubbyref09_Order.f
 repeat' first | (with_reducible exact cubbyref09_visit.mono _ _ _ _ _) | (with_reducible exact LeO.refl _) | (with_reducible exact LeO.none _) | (with_reducible refine LeO.ite ?_ ?_) | (with_reducible refine LeO.bind ?_ (fun _ => ?_)) | exact LeO.none _ | refine LeO.ite ?_ ?_ | refine LeO.bind ?_ (fun _ => ?_)
set_option maxHeartbeats 8000000 in
set_option maxRecDepth 100000 in
theorem cubbyref09_Order.calls (k : Nat) (A0 : Option Addr) (c0 : Nat) (l0 : List (List (SIns))) (r : List Int) (w : World) (hr0 : Kd.C (Kd.slice 31 kIns) w A0 l0.length l0) (hc0 : l0.length ≤ c0) (h : cubbyref09_Order.f k l0 = some r) :
  Calls Tryd.prog 60 #[.slice A0 l0.length c0] w fun e w' => ∃ v0_ : Value, e = .returned (v0_) ∧ Kd.R (Kd.int .i64) 3 w' w.heap.size (fun _ => True) v0_ r ∧ Below w.heap.size w w' := by
 have HR0 := Aside0.mk hr0
 have HC0 := Aside0.mk hc0
 clear hr0 hc0
 have HB := Aside0.mk (Below.refl w.heap.size w)
 have H := h; clear h; unfold cubbyref09_Order.f at H
 by_cases c2 : (l0.length : Int) = 0
 ·rw [if_pos c2] at H
  obtain ⟨c2b0, c2b1⟩ := qe c2; clear c2
  obtain rfl := Option.some.inj H
  go_enter Tryd.func60, Tryd.ntmps60
  go_wp2
  go_ret
  exact ⟨_, qE, by first | exact Kd.R_nil _ _ _ _ _ | exact Kd.N_nil _ _ _ _ _ | exact Kd.V_nil _ _ _ _ _ | exact Kd.Q_nil _ _ _ _ _ | exact Kd.S_nil _ _ _ _ _, qB⟩
 ·rw [if_neg c2] at H
  obtain ⟨c2b0, c2b1⟩ := qn c2
  have c2b2 : ¬ (l0 = []) := fun h_ => c2 (by rw [h_]; rfl)
  replace H := Option.bind_eq_some_iff.mp H
  obtain ⟨⟨t565, t568⟩, A30, H⟩ := H
  replace H : (some t568) = some r := H
  have A3 := Aside0.mk A30
  clear A30
  obtain rfl := Option.some.inj H
  go_enter Tryd.func60, Tryd.ntmps60
  go_wp2_with (first | ((with_reducible refine gate_callee (f := 80) rfl ?_); refine goesL_ (some 10) rfl rfl Tryd.func80 (by kernel_rfl) rfl #[.slice A0 l0.length c0, .int .i64 0, .slice none 0 0, .slice none 0 0] rfl qL ?_; (refine (cubbyref09_visit.calls k _ _ l0 0 _ _ ([] : List Int) (fun k_ => False) _ _ ([] : List Int) t565 t568 _ ?side1 ?side2 ?side3 ?side4 ?side5 A3.out).mono ?_); (case side1 => repeat (first | exact HR0.out | (with_reducible refine Kd.C_alloc ?_ _) | (with_reducible refine Kd.C_drewN ?_ _) | (with_reducible refine Kd.C_drew ?_))); (case side2 => exact HC0.out); (case side3 => exact Kd.C_nil _ _); (case side4 => exact Nat.le_refl _); (case side5 => exact Kd.V_nil _ _ _ _ _); rintro e w4 ⟨v566, v569, rfl, ho0, ho1, hb⟩; refine ⟨_, rfl, ?_⟩; have HO567 := Aside0.mk (Kd.R_lower (Kd.R_mono (ok' := fun k_ => some k_ ≠ (v569 : Value).ownBlock) ho0 (fun _ hk_ => hk_.2)) (below_size qB)); have HO570 := Aside0.mk (Kd.R_lower (Kd.R_mono (ok' := fun k_ => some k_ ≠ (v566 : Value).ownBlock) ho1 (fun _ hk_ => hk_.2)) (below_size qB)); replace HB := qH hb; (try clear hb); (try clear ho0); (try clear ho1)))
  go_ret
  exact ⟨_, qE, by (with_reducible repeat (first | apply Kd.R_alloc | apply Kd.R_drewN | apply Kd.R_drew)); exact Kd.R_mono HO570.out (fun _ hk => trivial), qB⟩

end Go.Proofs.YtebnnknijbgekaaDoor.Q
namespace Go.Proofs.YtebnnknijbgekaaDoor.PlainOrder
open Go Go.RowKit Go.Proofs.YtebnnknijbgekaaDoorW.PrintWords Go.Proofs.YtebnnknijbgekaaDoorW.PrintMore Go.Proofs.YtebnnknijbgekaaDoor.Q Go.Proofs.YtebnnknijbgekaaDoor.Plain Go.Proofs.YtebnnknijbgekaaDoor.PlainSuccs Go.Proofs.YtebnnknijbgekaaDoor.Dfs
set_option linter.unusedVariables false
set_option linter.unusedSimpArgs false

theorem rng {x : List (List SIns)} : ∀ i, ∀ k ∈ succs x i, 0 ≤ k ∧ k < ((x.length : Nat) : Int) := fun i k hk => succs_mem x i k hk

section
variable {x : List (List SIns)} (hx : x.length ≤ 1000000)
include hx

theorem ref_fold {d : Nat} (H : ∀ (i : Int) (met put : List Int), 0 ≤ i → i < x.length → i ∉ met → unmet x.length met ≤ d → Inv x.length met put → Ev (fun k => cubbyref09_visit.f k x i met put) (dfs (succs x) d i (met, put))) (i : Int) (l : List Int) (hl : l.length ≤ 1000) (hlr : ∀ k ∈ l, 0 ≤ k ∧ k < x.length) :
    ∀ (q j : Nat) (met put : List Int), l.length - j = q → j ≤ l.length → unmet x.length met ≤ d → Inv x.length met put →
    Ev (fun k => cubbyref09_visit.l0 k x i met put l (j : Int)) (((l.drop j).foldl (stepS (succs x) d) (met, put)).1, i :: ((l.drop j).foldl (stepS (succs x) d) (met, put)).2) := by
  intro q
  induction q with
  | zero =>
    intro j met put hq hj hu hv
    rw [List.drop_eq_nil_of_le (by omega)]
    refine Ev.step (f := fun _ => some (met, i :: put)) (fun k => ?_) (Ev.now _)
    have := hv.len
    simp only [cubbyref09_visit.l0]
    rw [if_neg (by omega), Option.bind_some, if_pos (by simp; omega)]
    rfl
  | succ q ih =>
    intro j met put hq hj hu hv
    have hm := hv.mlen
    have hlt : j < l.length := by omega
    obtain ⟨k0, k1⟩ := hlr l[j] (List.getElem_mem hlt)
    rw [drop_cons hlt, List.foldl_cons]
    have hh := has_ev met l[j] (by omega)
    have st : ∀ k, cubbyref09_visit.l0 (k + 1) x i met put l (j : Int) = (cubbyref09_has.f k met l[j]).bind fun t => if t = true then cubbyref09_visit.l0 k x i met put l ((j + 1 : Nat) : Int) else (cubbyref09_visit.f k x l[j] met put).bind fun b => cubbyref09_visit.l0 k x i b.1 b.2 l ((j + 1 : Nat) : Int) := fun k => by
      simp only [cubbyref09_visit.l0]
      rw [if_pos (by omega), if_pos (by omega), rd_get hlt, wrap_nat (by omega)]
    by_cases hk : l[j] ∈ met
    · have e : stepS (succs x) d (met, put) l[j] = (met, put) := by unfold stepS; rw [if_pos hk]
      rw [e]
      refine Ev.step st (Ev.bind hh ?_)
      simp only [hk, decide_true, if_true]
      exact ih (j + 1) met put (by omega) (by omega) hu hv
    · have e : stepS (succs x) d (met, put) l[j] = dfs (succs x) d l[j] (met, put) := by unfold stepS; rw [if_neg hk]
      rw [e]
      have hg := dfs_good rng d l[j] met put k0 k1 hk hu hv
      refine Ev.step st (Ev.bind hh ?_)
      simp only [hk, decide_false, Bool.false_eq_true, if_false]
      exact Ev.bind (H l[j] met put k0 k1 hk hu hv) (ih (j + 1) (dfs (succs x) d l[j] (met, put)).1 (dfs (succs x) d l[j] (met, put)).2 (by omega) (by omega) (Nat.le_trans (unmet_le hg.keep) hu) hg.inv)
theorem ref_visit (hs : Small x) : ∀ (d : Nat) (i : Int) (met put : List Int), 0 ≤ i → i < x.length → i ∉ met → unmet x.length met ≤ d → Inv x.length met put →
    Ev (fun k => cubbyref09_visit.f k x i met put) (dfs (succs x) d i (met, put)) := by
  intro d
  induction d with
  | zero =>
    intro i met put h0 h1 hi hu _
    have := unmet_pos h0 h1 hi
    omega
  | succ d ih =>
    intro i met put h0 h1 hi hu hv
    have hu' : unmet x.length (met ++ [i]) ≤ d := by have := unmet_lt h0 h1 hi; omega
    have hv' := hv.snoc h0 h1 hi
    have hm := hv'.mlen
    have hl := succs_len x i
    have h2 := ref_fold hx ih i (succs x i) (by omega) (succs_mem x i) _ 0 (met ++ [i]) put rfl (by omega) hu' hv'
    rw [List.drop_zero] at h2
    rw [dfs_succ]
    rw [List.length_append, List.length_singleton] at hm
    refine Ev.step (f := fun k => (cubbyref09_Succs.f k x i).bind fun t => cubbyref09_visit.l0 k x i (met ++ [i]) put t 0) (fun k => ?_) (Ev.bind (refsuccs_ev x i hs) h2)
    simp only [cubbyref09_visit.f, Option.bind_some, List.nil_append]
    rw [if_pos (by simp; omega), if_pos (by omega)]
theorem reforder_ev (hs : Small x) : Ev (fun k => cubbyref09_Order.f k x) (order (succs x) x.length) := by
  by_cases h : x.length = 0
  · refine Ev.congr (f := fun _ => some []) (fun k => by unfold cubbyref09_Order.f; rw [if_pos (by omega)]) ?_
    unfold order
    rw [if_pos h]
    exact Ev.now _
  · refine Ev.congr (f := fun k => (cubbyref09_visit.f k x 0 [] []).bind fun b => some b.2) (fun k => by unfold cubbyref09_Order.f; rw [if_neg (by omega)]) ?_
    refine Ev.bind (ref_visit hx hs x.length 0 [] [] (by omega) (by omega) (by simp) (by rw [unmet_nil]; exact Nat.le_refl _) ⟨by simp, by simp, List.nodup_nil, List.nodup_nil⟩) ?_
    unfold order
    rw [if_neg h]
    exact Ev.now _

omit hx in
theorem rdOf_bits {n : Nat} {met : List Int} {i : Int} (h0 : 0 ≤ i) (h1 : i < n) : rdOf false (bitsOf n met) i = decide (i ∈ met) := by
  show (bitsOf n met).getD i.toNat false = _
  rw [List.getD_eq_getElem?_getD, bits_get (by omega)]
  have : ((i.toNat : Nat) : Int) = i := by omega
  simp [this]
theorem own_fold {d : Nat} (H : ∀ (i : Int) (met put : List Int), 0 ≤ i → i < x.length → i ∉ met → unmet x.length met ≤ d → Inv x.length met put → Ev (fun k => flow_Order_1.f k x i (bitsOf x.length met) put.reverse) (bitsOf x.length (dfs (succs x) d i (met, put)).1, (dfs (succs x) d i (met, put)).2.reverse)) (i : Int) (l : List Int) (hl : l.length ≤ 1000) (hlr : ∀ k ∈ l, 0 ≤ k ∧ k < x.length) :
    ∀ (q j : Nat) (met put : List Int), l.length - j = q → j ≤ l.length → unmet x.length met ≤ d → Inv x.length met put →
    Ev (fun k => flow_Order_1.l0 k x i (bitsOf x.length met) put.reverse l (j : Int)) (bitsOf x.length ((l.drop j).foldl (stepS (succs x) d) (met, put)).1, ((l.drop j).foldl (stepS (succs x) d) (met, put)).2.reverse ++ [i]) := by
  intro q
  induction q with
  | zero =>
    intro j met put hq hj hu hv
    rw [List.drop_eq_nil_of_le (by omega)]
    refine Ev.step (f := fun _ => some (bitsOf x.length met, put.reverse ++ [i])) (fun k => ?_) (Ev.now _)
    have := hv.len
    simp only [flow_Order_1.l0]
    rw [if_neg (by omega), if_pos (by simp; omega)]
  | succ q ih =>
    intro j met put hq hj hu hv
    have hm := hv.mlen
    have hlt : j < l.length := by omega
    obtain ⟨k0, k1⟩ := hlr l[j] (List.getElem_mem hlt)
    rw [drop_cons hlt, List.foldl_cons]
    have st : ∀ k, flow_Order_1.l0 (k + 1) x i (bitsOf x.length met) put.reverse l (j : Int) = if decide (l[j] ∈ met) = true then flow_Order_1.l0 k x i (bitsOf x.length met) put.reverse l ((j + 1 : Nat) : Int) else (flow_Order_1.f k x l[j] (bitsOf x.length met) put.reverse).bind fun b => flow_Order_1.l0 k x i b.1 b.2 l ((j + 1 : Nat) : Int) := fun k => by
      simp only [flow_Order_1.l0]
      rw [if_pos (by omega), if_pos (by omega), rd_get hlt, if_pos k0, if_pos (by rw [bits_len]; omega), rdOf_bits k0 (by omega), wrap_nat (by omega)]
    by_cases hk : l[j] ∈ met
    · have e : stepS (succs x) d (met, put) l[j] = (met, put) := by unfold stepS; rw [if_pos hk]
      rw [e]
      refine Ev.step st ?_
      simp only [hk, decide_true, if_true]
      exact ih (j + 1) met put (by omega) (by omega) hu hv
    · have e : stepS (succs x) d (met, put) l[j] = dfs (succs x) d l[j] (met, put) := by unfold stepS; rw [if_neg hk]
      rw [e]
      have hg := dfs_good rng d l[j] met put k0 k1 hk hu hv
      refine Ev.step st ?_
      simp only [hk, decide_false, Bool.false_eq_true, if_false]
      exact Ev.bind (H l[j] met put k0 k1 hk hu hv) (ih (j + 1) (dfs (succs x) d l[j] (met, put)).1 (dfs (succs x) d l[j] (met, put)).2 (by omega) (by omega) (Nat.le_trans (unmet_le hg.keep) hu) hg.inv)
theorem own_visit (hs : Small x) : ∀ (d : Nat) (i : Int) (met put : List Int), 0 ≤ i → i < x.length → i ∉ met → unmet x.length met ≤ d → Inv x.length met put →
    Ev (fun k => flow_Order_1.f k x i (bitsOf x.length met) put.reverse) (bitsOf x.length (dfs (succs x) d i (met, put)).1, (dfs (succs x) d i (met, put)).2.reverse) := by
  intro d
  induction d with
  | zero =>
    intro i met put h0 h1 hi hu _
    have := unmet_pos h0 h1 hi
    omega
  | succ d ih =>
    intro i met put h0 h1 hi hu hv
    have hu' : unmet x.length (met ++ [i]) ≤ d := by have := unmet_lt h0 h1 hi; omega
    have hv' := hv.snoc h0 h1 hi
    have hl := succs_len x i
    have h2 := own_fold hx ih i (succs x i) (by omega) (succs_mem x i) _ 0 (met ++ [i]) put rfl (by omega) hu' hv'
    rw [List.drop_zero] at h2
    rw [dfs_succ]
    simp only [List.reverse_cons]
    refine Ev.step (f := fun k => (flow_Succs.f k x i).bind fun t => flow_Order_1.l0 k x i (bitsOf x.length (met ++ [i])) put.reverse t 0) (fun k => ?_) (Ev.bind (succs_ev x i hs) h2)
    simp only [flow_Order_1.f]
    rw [if_pos h0, if_pos (by rw [bits_len]; omega), bits_set h0 h1]
end

theorem swap_get {l : List Int} {a b : Nat} (ha : a < l.length) (hb : b < l.length) (i : Nat) : ((l.set a l[b]).set b l[a])[i]? = if i = b then some l[a] else if i = a then some l[b] else l[i]? := by
  rw [List.getElem?_set]
  by_cases h1 : b = i
  · subst h1
    simp [hb]
  · rw [if_neg h1, List.getElem?_set, if_neg (Ne.symm h1)]
    by_cases h2 : a = i
    · subst h2
      simp [ha]
    · rw [if_neg h2, if_neg (Ne.symm h2)]
/-- Reversed, but for what stands from a on, b ones. -/
theorem rev_loop (n : Nat) (l0 : List Int) (hn : l0.length = n) (hb : n ≤ 1000000000) : ∀ (d a : Nat) (l : List Int), n - 2 * a = d → l.length = n → 2 * a ≤ n + 1 →
    (∀ i, l[i]? = if i < a ∨ n - a ≤ i then l0.reverse[i]? else l0[i]?) → Ev (fun k => slices_Reverse_int_int.l0 k l (a : Int) ((n : Int) - 1 - a)) l0.reverse := by
  intro d
  induction d using Nat.strongRecOn with
  | _ d ih =>
    intro a l hd hl ha he
    by_cases h : (a : Int) < (n : Int) - 1 - a
    · have h1 : a < l.length := by omega
      have h2 : n - 1 - a < l.length := by omega
      have e2 : ((n : Int) - 1 - a) = ((n - 1 - a : Nat) : Int) := by omega
      refine Ev.step (f := fun k => slices_Reverse_int_int.l0 k ((l.set a l[n - 1 - a]).set (n - 1 - a) l[a]) ((a + 1 : Nat) : Int) ((n : Int) - 1 - ((a + 1 : Nat) : Int))) (fun k => ?_) (ih (n - 2 * (a + 1)) (by omega) (a + 1) ((l.set a l[n - 1 - a]).set (n - 1 - a) l[a]) rfl (by rw [List.length_set, List.length_set]; exact hl) (by omega) (fun i => ?_))
      · simp only [slices_Reverse_int_int.l0]
        rw [if_pos h, if_pos (by omega), if_pos (by omega), if_pos (by omega), if_pos (by omega), e2, rd_get h1, rd_get h2, wrap_nat (by omega), Int.toNat_natCast, Int.toNat_natCast]
        rw [show wrap64 (((n - 1 - a : Nat) : Int) - 1) = (n : Int) - 1 - ((a + 1 : Nat) : Int) from by rw [wrap_id (by omega) (by omega)]; omega]
      · rw [swap_get h1 h2 i]
        have ea : l[a] = l0[a] := by
          have := he a
          rw [if_neg (by omega), List.getElem?_eq_getElem h1, List.getElem?_eq_getElem (by omega)] at this
          exact Option.some.inj this
        have eb : l[n - 1 - a] = l0[n - 1 - a] := by
          have := he (n - 1 - a)
          rw [if_neg (by omega), List.getElem?_eq_getElem h2, List.getElem?_eq_getElem (by omega)] at this
          exact Option.some.inj this
        by_cases hi : i = n - 1 - a
        · subst hi
          rw [if_pos rfl, if_pos (by omega), List.getElem?_reverse (by omega), ea, List.getElem?_eq_getElem (by omega)]
          congr 2
          omega
        · rw [if_neg hi]
          by_cases hi2 : i = a
          · subst hi2
            rw [if_pos rfl, if_pos (by omega), List.getElem?_reverse (by omega), eb, List.getElem?_eq_getElem (by omega)]
            congr 2
            omega
          · rw [if_neg hi2, he i]
            by_cases h3 : i < a ∨ n - a ≤ i
            · rw [if_pos h3, if_pos (by omega)]
            · rw [if_neg h3, if_neg (by omega)]
    · refine Ev.step (f := fun _ => some l0.reverse) (fun k => ?_) (Ev.now _)
      simp only [slices_Reverse_int_int.l0]
      rw [if_neg h]
      congr 1
      apply List.ext_getElem?
      intro i
      rw [he i]
      split
      · rfl
      · rename_i h3
        have : i = a ∧ n = 2 * a + 1 := by omega
        obtain ⟨rfl, hn2⟩ := this
        rw [List.getElem?_reverse (by omega)]
        congr 1
        omega
theorem reverse_ev (l : List Int) (hb : l.length ≤ 1000000000) : Ev (fun k => slices_Reverse_int_int.f k l) l.reverse := by
  have := rev_loop l.length l rfl hb _ 0 l rfl rfl (by omega) (fun i => by
    split
    · rename_i h
      rw [List.getElem?_eq_none (by omega), List.getElem?_eq_none (by simp; omega)]
    · rfl)
  refine Ev.congr (f := fun k => slices_Reverse_int_int.l0 k l ((0 : Nat) : Int) ((l.length : Int) - 1 - ((0 : Nat) : Int))) (fun k => ?_) this
  unfold slices_Reverse_int_int.f
  rw [wrap_id (by omega) (by omega)]
  simp

theorem order_len (x : List (List SIns)) : (order (succs x) x.length).length ≤ x.length := nodup_len (order_nodup rng) (order_rng rng)
theorem order_ev {x : List (List SIns)} (hx : x.length ≤ 1000000) (hs : Small x) : Ev (fun k => flow_Order.f k x) (order (succs x) x.length) := by
  by_cases h : x.length = 0
  · refine Ev.congr (f := fun _ => some []) (fun k => by unfold flow_Order.f; rw [if_pos (by omega)]) ?_
    unfold order
    rw [if_pos h]
    exact Ev.now _
  · refine Ev.congr (f := fun k => (flow_Order_1.f k x 0 (bitsOf x.length []) ([] : List Int).reverse).bind fun b => slices_Reverse_int_int.f k b.2) (fun k => by unfold flow_Order.f; rw [if_neg (by omega), if_pos (by omega), bits_nil]; rfl) ?_
    refine Ev.bind (own_visit hx hs x.length 0 [] [] (by omega) (by omega) (by simp) (by rw [unmet_nil]; exact Nat.le_refl _) ⟨by simp, by simp, List.nodup_nil, List.nodup_nil⟩) ?_
    have hl := order_len x
    unfold order at hl ⊢
    rw [if_neg h] at hl ⊢
    have := reverse_ev (dfs (succs x) x.length 0 ([], [])).2.reverse (by simp; omega)
    rwa [List.reverse_reverse] at this
end Go.Proofs.YtebnnknijbgekaaDoor.PlainOrder
namespace Go.Proofs.YtebnnknijbgekaaDoor.PlainSpan
open Go Go.RowKit Go.Proofs.YtebnnknijbgekaaDoorW.PrintWords Go.Proofs.YtebnnknijbgekaaDoorW.PrintMore Go.Proofs.YtebnnknijbgekaaDoor.Q Go.Proofs.YtebnnknijbgekaaDoor.Plain Go.Proofs.YtebnnknijbgekaaDoor.PlainIr Go.Proofs.YtebnnknijbgekaaDoor.PlainName Go.Proofs.YtebnnknijbgekaaDoor.PlainBits Go.Proofs.YtebnnknijbgekaaDoor.PlainFix Go.Proofs.YtebnnknijbgekaaDoor.PlainSuccs Go.Proofs.YtebnnknijbgekaaDoor.PlainOne Go.Proofs.YtebnnknijbgekaaDoor.PlainHeavy Go.Proofs.YtebnnknijbgekaaDoor.PlainCheck Go.Proofs.YtebnnknijbgekaaDoor.PlainLive Go.Proofs.YtebnnknijbgekaaDoor.Dfs Go.Proofs.YtebnnknijbgekaaDoor.PlainOrder
set_option linter.unusedVariables false
set_option linter.unusedSimpArgs false

/-- What is known of a function under the bound of layer 12. -/
structure Fit (pn : ByteArray) (pp : Int) (R : Nat) (bs : List (List SIns)) (z : List Nat) : Prop where
  fair : FairB bs
  check : checkE pn pp (R : Int) bs = 0
  ok : FuncOk pn pp (R : Int) bs
  sol : Sol R bs z
  low : at_ z 0 / 2 ^ pp.toNat = 0
  sets : Ev (fun k => live_sets.f k pn pp (R : Int) bs) (toI z)
  refin : Ev (fun k => cubbyref11_In.f k pn pp (R : Int) bs) (z.map (toL R))
  len : bs.length ≤ 8
  regs : R ≤ 24
  tot : total bs ≤ 60
theorem heavy12_loop (pn : ByteArray) (pp rg : Int) (bs : List (List SIns)) (hl : bs.length ≤ 8) (hr : ∀ b ∈ bs, b.length ≤ 1000000000000000) : ∀ (d j n : Nat), j + d = bs.length → n ≤ 1000000000000000 * j →
    Ev (fun k => cubbylaw12_heavy.l0 k (n : Int) (j : Int) pn pp rg bs) (decide (60 < n + total (bs.drop j))) := by
  intro d
  induction d with
  | zero =>
    intro j n hj hn
    rw [List.drop_eq_nil_of_le (by omega)]
    refine Ev.step (f := fun _ => some (decide (60 < n + total []))) (fun k => ?_) (Ev.now _)
    simp only [cubbylaw12_heavy.l0]
    rw [if_neg (by omega)]
    congr 1
    apply decide_eq_decide.2
    unfold total
    omega
  | succ d ih =>
    intro j n hj hn
    have hjl : j < bs.length := by omega
    have h1 := hr _ (List.getElem_mem hjl)
    rw [drop_cons hjl]
    have := ih (j + 1) (n + bs[j].length) (by omega) (by omega)
    have e : decide (60 < n + total (bs[j] :: bs.drop (j + 1))) = decide (60 < n + bs[j].length + total (bs.drop (j + 1))) := by
      apply decide_eq_decide.2
      simp only [total]
      omega
    rw [e]
    refine Ev.step (fun k => ?_) this
    simp only [cubbylaw12_heavy.l0]
    rw [if_pos (by omega), if_pos (by omega), rdL_get hjl, wrap_nat (by omega), wrap_id (by omega) (by omega)]
    rfl
theorem heavy12_ev (pn : ByteArray) (pp rg : Int) (bs : List (List SIns)) (hF : FairB bs) : ∃ h, Ev (fun k => cubbylaw12_heavy.f k pn pp rg bs) h ∧ (h = false → ∃ (R : Nat) (z : List Nat), rg = R ∧ Fit pn pp R bs z) := by
  have hyes : Ev (fun k => cubbylaw12_heavy.j0 k true pn pp rg bs) true := Ev.step (f := fun _ => some true) (fun k => by simp only [cubbylaw12_heavy.j0]; rw [if_pos trivial]) (Ev.now _)
  by_cases c0 : (pn.size : Int) > 100
  · exact ⟨true, Ev.congr (fun k => by unfold cubbylaw12_heavy.f; rw [if_pos c0]) hyes, by simp⟩
  by_cases c1 : (bs.length : Int) > 8
  · exact ⟨true, Ev.congr (fun k => by unfold cubbylaw12_heavy.f; rw [if_neg c0, if_pos c1]) hyes, by simp⟩
  by_cases c2 : rg > 24
  · exact ⟨true, Ev.congr (fun k => by unfold cubbylaw12_heavy.f; rw [if_neg c0, if_neg c1, if_pos c2]) hyes, by simp⟩
  have h3 := refcheck_ev pn pp rg bs hF
  by_cases c3 : checkE pn pp rg bs = 0
  · have F := checkE_zero c3
    obtain ⟨R, rfl⟩ := regs_nat F
    obtain ⟨z, hz, e1, e2⟩ := both pn pp hF F c3
    obtain ⟨k1, k2⟩ := checks pn hF F c3 hz e1 e2
    by_cases c4 : at_ z 0 / 2 ^ pp.toNat = 0
    · rw [if_pos c4] at k2
      have hL := heavy12_loop pn pp (R : Int) bs (by omega) hF.row bs.length 0 0 (by omega) (by omega)
      rw [List.drop_zero] at hL
      refine ⟨_, Ev.congr (fun k => by unfold cubbylaw12_heavy.f; rw [if_neg c0, if_neg c1, if_neg c2]) (Ev.bind k2 (Ev.step (fun k => by simp only [cubbylaw12_heavy.j0]; rw [if_neg (by simp)]; rfl) hL)), fun h => ⟨R, z, rfl, hF, c3, F, hz, c4, e1, e2, by omega, by omega, ?_⟩⟩
      have := of_decide_eq_false h
      omega
    · rw [if_neg c4] at k2
      exact ⟨true, Ev.congr (fun k => by unfold cubbylaw12_heavy.f; rw [if_neg c0, if_neg c1, if_neg c2]) (Ev.bind k2 hyes), by simp⟩
  · have h4 : Ev (fun k => cubbyref11_Check.f k pn pp rg bs) (checkE pn pp rg bs) := Ev.bind h3 (Ev.congr (f := fun _ => some (checkE pn pp rg bs)) (fun k => by rw [if_neg c3]) (Ev.now _))
    refine ⟨true, Ev.congr (fun k => by unfold cubbylaw12_heavy.f; rw [if_neg c0, if_neg c1, if_neg c2]) (Ev.bind h4 ?_), by simp⟩
    exact Ev.congr (fun k => by rw [show (checkE pn pp rg bs != 0) = true by simp; exact c3]) hyes

/-! ### places -/
/-- The numbers n + 1 to n + m. -/
def nums (n m : Nat) : List Int := (List.range m).map (fun i : Nat => ((n + 1 + i : Nat) : Int))
theorem nums_len (n m : Nat) : (nums n m).length = m := by simp [nums]
theorem nums_succ (n m : Nat) : nums n (m + 1) = nums n m ++ [((n + m + 1 : Nat) : Int)] := by
  unfold nums
  rw [List.range_succ, List.map_append, List.map_singleton]
  congr 3
  omega
theorem nums_get {n m i : Nat} (h : i < m) : (nums n m).getD i 0 = ((n + 1 + i : Nat) : Int) := by
  unfold nums
  rw [List.getD_eq_getElem?_getD, List.getElem?_map, List.getElem?_range h]
  rfl
/-- The blocks of a list numbered one behind the other, from n on. -/
def lay (bs : List (List SIns)) : List Int → Nat → List (List Int) → List (List Int)
  | [], _, x => x
  | b :: l, n, x => lay bs l (n + (blockAt bs b).length) (x.set b.toNat (nums n (blockAt bs b).length))
def places (bs : List (List SIns)) : List (List Int) := lay bs (order (succs bs) bs.length) 0 (List.replicate bs.length [])
theorem lay_len (bs : List (List SIns)) : ∀ (l : List Int) (n : Nat) (x : List (List Int)), (lay bs l n x).length = x.length
  | [], _, x => rfl
  | b :: l, n, x => by
    unfold lay
    rw [lay_len bs l, List.length_set]
/-- How many instructions the blocks of a list have. -/
def sumOf (bs : List (List SIns)) : List Int → Nat
  | [] => 0
  | b :: l => (blockAt bs b).length + sumOf bs l
theorem total_get : ∀ (bs : List (List SIns)) (j : Nat), (bs.getD j []).length + total (bs.set j []) = total bs
  | [], j => by simp [total]
  | b :: bs, 0 => by simp [total]
  | b :: bs, j + 1 => by
    have := total_get bs j
    simp only [List.getD_cons_succ, List.set_cons_succ, total]
    omega
theorem sumOf_le : ∀ (l : List Int) (bs : List (List SIns)), l.Nodup → (∀ v ∈ l, 0 ≤ v) → sumOf bs l ≤ total bs
  | [], bs, _, _ => Nat.zero_le _
  | b :: l, bs, hd, hp => by
    have hd' := List.nodup_cons.1 hd
    have h1 := total_get bs b.toNat
    have h2 := sumOf_le l (bs.set b.toNat []) hd'.2 (fun v hv => hp v (List.mem_cons_of_mem _ hv))
    have h3 : sumOf (bs.set b.toNat []) l = sumOf bs l := by
      have hall : ∀ v ∈ l, blockAt (bs.set b.toNat []) v = blockAt bs v := by
        intro v hv
        have hne : b.toNat ≠ v.toNat := by
          intro e
          have h4 := hp v (List.mem_cons_of_mem _ hv)
          have h5 := hp b List.mem_cons_self
          have : b = v := by omega
          exact hd'.1 (this ▸ hv)
        unfold blockAt
        rw [List.getD_eq_getElem?_getD, List.getD_eq_getElem?_getD, List.getElem?_set_ne hne]
      clear h2 hd hp hd' h1
      induction l with
      | nil => rfl
      | cons c l ih =>
        unfold sumOf
        rw [hall c List.mem_cons_self, ih (fun v hv => hall v (List.mem_cons_of_mem _ hv))]
    unfold sumOf
    rw [h3] at h2
    have : (blockAt bs b).length = (bs.getD b.toNat []).length := rfl
    omega
section
variable (pn : ByteArray) (pp rg : Int) (bs : List (List SIns)) (hr : ∀ b ∈ bs, b.length ≤ 1000)
include hr
theorem block_le (v : Int) : (blockAt bs v).length ≤ 1000 := by
  unfold blockAt
  rw [List.getD_eq_getElem?_getD]
  by_cases h : v.toNat < bs.length
  · rw [List.getElem?_eq_getElem h]
    exact hr _ (List.getElem_mem h)
  · rw [List.getElem?_eq_none (by omega)]
    exact Nat.zero_le _
theorem own_row (ord : List Int) (hol : ord.length ≤ 1000) (i : Nat) (hi : i < ord.length) (b : Nat) (hb : b < bs.length) (r : List (List Int)) : ∀ (d j n : Nat) (x : List (List Int)), j + d = (bs[b]).length → n ≤ 1000000000 → x.length = bs.length → x.getD b [] = nums n j →
    Ev (fun k => span_Places.l0 k (x.set b (nums n (bs[b]).length)) ((n + (bs[b]).length : Nat) : Int) ord (ord.length : Int) ((i + 1 : Nat) : Int) pn pp rg bs) r →
    Ev (fun k => span_Places.l1 k x ((n + j : Nat) : Int) (b : Int) ord (ord.length : Int) (i : Int) ((bs[b]).length : Int) (j : Int) pn pp rg bs) r := by
  have hbl := hr _ (List.getElem_mem hb)
  intro d
  induction d with
  | zero =>
    intro j n x hj hn hx hxb hE
    obtain rfl : j = (bs[b]).length := by omega
    have : x.set b (nums n (bs[b]).length) = x := by
      rw [← hxb, List.getD_eq_getElem?_getD, List.getElem?_eq_getElem (by omega : b < x.length)]
      exact List.set_getElem_self _
    rw [this] at hE
    refine Ev.step (fun k => ?_) hE
    simp only [span_Places.l1]
    rw [if_neg (by omega), wrap_nat (by omega)]
  | succ d ih =>
    intro j n x hj hn hx hxb hE
    have e1 : rd_LInt x (b : Int) = nums n j := hxb
    have h2 := ih (j + 1) n (x.set b (nums n (j + 1))) (by omega) hn (by rw [List.length_set]; exact hx) (by rw [List.getD_eq_getElem?_getD, List.getElem?_set_self (by omega)]; rfl) (by rw [List.set_set]; exact hE)
    refine Ev.step (fun k => ?_) h2
    simp only [span_Places.l1]
    rw [if_pos (by omega), if_pos (by omega), if_pos (by omega), e1, if_pos (by rw [nums_len]; omega), wrap_nat (by omega), wrap_nat (by omega), Int.toNat_natCast, nums_succ]
    rfl

theorem own_all (ord : List Int) (hol : ord.length ≤ 1000) (hd : ord.Nodup) (hrg : ∀ v ∈ ord, 0 ≤ v ∧ v < bs.length) : ∀ (d i n : Nat) (x : List (List Int)), i + d = ord.length → n ≤ 1000 * i → x.length = bs.length → (∀ v ∈ ord.drop i, x.getD v.toNat [] = []) →
    Ev (fun k => span_Places.l0 k x (n : Int) ord (ord.length : Int) (i : Int) pn pp rg bs) (lay bs (ord.drop i) n x) := by
  intro d
  induction d with
  | zero =>
    intro i n x hi hn hx _
    rw [List.drop_eq_nil_of_le (by omega)]
    exact Ev.step (f := fun _ => some x) (fun k => by simp only [span_Places.l0]; rw [if_neg (by omega)]) (Ev.now _)
  | succ d ih =>
    intro i n x hi hn hx hz
    have hil : i < ord.length := by omega
    have hm := hrg _ (List.getElem_mem hil)
    have hdd : (ord.drop i).Nodup := hd.sublist (List.drop_sublist _ _)
    rw [drop_cons hil] at hz hdd
    have hnd := List.nodup_cons.1 hdd
    rw [drop_cons hil]
    unfold lay
    obtain ⟨b, hb⟩ : ∃ b : Nat, ord[i] = (b : Int) := ⟨(ord[i]).toNat, by omega⟩
    have hbl : b < bs.length := by omega
    have hblk : blockAt bs ord[i] = bs[b] := by
      unfold blockAt
      rw [hb, Int.toNat_natCast, List.getD_eq_getElem?_getD, List.getElem?_eq_getElem hbl]
      rfl
    have hlen := hr _ (List.getElem_mem hbl)
    have hxb := hz _ List.mem_cons_self
    rw [hb, Int.toNat_natCast] at hxb
    rw [hblk, hb, Int.toNat_natCast]
    have h1 := ih (i + 1) (n + (bs[b]).length) (x.set b (nums n (bs[b]).length)) (by omega) (by omega) (by rw [List.length_set]; exact hx) (fun v hv => by
      have hv2 := hrg v (List.mem_of_mem_drop hv)
      have hne : b ≠ v.toNat := by
        intro e
        apply hnd.1
        have : ord[i] = v := by omega
        rw [this]
        exact hv
      rw [List.getD_eq_getElem?_getD, List.getElem?_set_ne hne, ← List.getD_eq_getElem?_getD]
      exact hz v (List.mem_cons_of_mem _ hv))
    have h2 := own_row pn pp rg bs hr ord hol i hil b hbl _ (bs[b]).length 0 n x (by omega) (by omega) hx (by rw [hxb]; rfl) h1
    refine Ev.step (fun k => ?_) h2
    simp only [span_Places.l0]
    rw [if_pos (by omega), if_pos (by omega), if_pos (by omega), rd_get hil, hb, if_pos (by omega), if_pos (by omega), rdL_get hbl]
    rfl
end
theorem Fit.small {pn : ByteArray} {pp : Int} {R : Nat} {bs : List (List SIns)} {z : List Nat} (T : Fit pn pp R bs z) : BlocksOk R bs := ok_blocks T.ok T.fair
theorem Fit.pos {pn : ByteArray} {pp : Int} {R : Nat} {bs : List (List SIns)} {z : List Nat} (T : Fit pn pp R bs z) : 0 < bs.length := by
  have := T.ok.shape.2.2.2.2.1
  omega
theorem order_ok (bs : List (List SIns)) : (order (succs bs) bs.length).Nodup ∧ ∀ v ∈ order (succs bs) bs.length, 0 ≤ v ∧ v < bs.length := ⟨order_nodup rng, order_rng rng⟩
theorem places_ev {pn : ByteArray} {pp : Int} {R : Nat} {bs : List (List SIns)} {z : List Nat} (T : Fit pn pp R bs z) : Ev (fun k => span_Places.f k pn pp (R : Int) bs) (places bs) := by
  have O := T.small
  have hl := T.len
  obtain ⟨k1, k2⟩ := checks pn T.fair T.ok T.check T.sol T.sets T.refin
  rw [if_pos T.low] at k1
  obtain ⟨h1, h2⟩ := order_ok bs
  have hol := order_len bs
  have h3 := own_all pn pp (R : Int) bs O.row (order (succs bs) bs.length) (by omega) h1 h2 (order (succs bs) bs.length).length 0 0 (List.replicate bs.length []) (by omega) (by omega) (by simp) (fun v hv => by
    rw [List.getD_eq_getElem?_getD, List.getElem?_replicate]
    split <;> rfl)
  rw [List.drop_zero] at h3
  refine Ev.bind k1 (Ev.congr (fun k => by rw [if_pos rfl, if_pos (by omega), if_pos (by omega), Int.toNat_natCast]) (Ev.bind (order_ev (by omega) O.small) h3))
end Go.Proofs.YtebnnknijbgekaaDoor.PlainSpan
namespace Go.Proofs.YtebnnknijbgekaaDoor.PlainSpan
open Go Go.RowKit Go.Proofs.YtebnnknijbgekaaDoorW.PrintWords Go.Proofs.YtebnnknijbgekaaDoorW.PrintMore Go.Proofs.YtebnnknijbgekaaDoor.Q Go.Proofs.YtebnnknijbgekaaDoor.Plain Go.Proofs.YtebnnknijbgekaaDoor.PlainIr Go.Proofs.YtebnnknijbgekaaDoor.PlainBits Go.Proofs.YtebnnknijbgekaaDoor.PlainFix Go.Proofs.YtebnnknijbgekaaDoor.PlainSuccs Go.Proofs.YtebnnknijbgekaaDoor.PlainHeavy Go.Proofs.YtebnnknijbgekaaDoor.PlainCheck Go.Proofs.YtebnnknijbgekaaDoor.PlainLive Go.Proofs.YtebnnknijbgekaaDoor.Dfs Go.Proofs.YtebnnknijbgekaaDoor.PlainOrder
set_option linter.unusedVariables false
set_option linter.unusedSimpArgs false

def blen (bs : List (List SIns)) (v : Int) : Nat := (blockAt bs v).length
theorem getD_set_ne {x : List (List Int)} {a b : Nat} {r : List Int} (h : a ≠ b) : (x.set a r).getD b [] = x.getD b [] := by
  rw [List.getD_eq_getElem?_getD, List.getD_eq_getElem?_getD, List.getElem?_set_ne h]
theorem getD_set_eq {x : List (List Int)} {a : Nat} {r : List Int} (h : a < x.length) : (x.set a r).getD a [] = r := by
  rw [List.getD_eq_getElem?_getD, List.getElem?_set_self h]
  rfl
theorem lay_out (bs : List (List SIns)) : ∀ (l : List Int) (n : Nat) (x : List (List Int)) (v : Int), (∀ w ∈ l, 0 ≤ w) → 0 ≤ v → v ∉ l → (lay bs l n x).getD v.toNat [] = x.getD v.toNat []
  | [], _, _, _, _, _, _ => rfl
  | b :: l, n, x, v, hp, h0, hv => by
    have hb := hp b List.mem_cons_self
    have hne : b ≠ v := fun e => hv (e ▸ List.mem_cons_self)
    unfold lay
    rw [lay_out bs l _ _ v (fun w hw => hp w (List.mem_cons_of_mem _ hw)) h0 (fun h => hv (List.mem_cons_of_mem _ h)), getD_set_ne (by omega)]
/-- Where the blocks of a list begin. -/
structure Starts (bs : List (List SIns)) (l : List Int) (n : Nat) (p : List (List Int)) (S : Int → Nat) : Prop where
  low : ∀ v ∈ l, n ≤ S v
  high : ∀ v ∈ l, S v + blen bs v ≤ n + sumOf bs l
  row : ∀ v ∈ l, p.getD v.toNat [] = nums (S v) (blen bs v)
  apart : ∀ v ∈ l, ∀ w ∈ l, v ≠ w → S v + blen bs v ≤ S w ∨ S w + blen bs w ≤ S v
  full : ∀ y, n < y → y ≤ n + sumOf bs l → ∃ v ∈ l, S v < y ∧ y ≤ S v + blen bs v
theorem lay_starts (bs : List (List SIns)) : ∀ (l : List Int) (n : Nat) (x : List (List Int)), l.Nodup → (∀ v ∈ l, 0 ≤ v ∧ v < x.length) → ∃ S, Starts bs l n (lay bs l n x) S
  | [], n, x, _, _ => ⟨fun _ => 0, ⟨by simp, by simp, by simp, by simp, fun y h1 h2 => by simp [sumOf] at h2; omega⟩⟩
  | b :: l, n, x, hd, hr => by
    have hd' := List.nodup_cons.1 hd
    have hb := hr b List.mem_cons_self
    obtain ⟨S, T⟩ := lay_starts bs l (n + (blockAt bs b).length) (x.set b.toNat (nums n (blockAt bs b).length)) hd'.2 (fun v hv => by rw [List.length_set]; exact hr v (List.mem_cons_of_mem _ hv))
    have hs : sumOf bs (b :: l) = blen bs b + sumOf bs l := rfl
    have hbl : blen bs b = (blockAt bs b).length := rfl
    have hnb : ∀ v ∈ l, v ≠ b := fun v hv e => hd'.1 (e ▸ hv)
    refine ⟨fun v => if v = b then n else S v, ⟨?_, ?_, ?_, ?_, ?_⟩⟩
    · intro v hv
      show n ≤ if v = b then n else S v
      split
      · omega
      · next e =>
        have := T.low v ((List.mem_cons.1 hv).resolve_left e)
        omega
    · intro v hv
      show (if v = b then n else S v) + blen bs v ≤ _
      rw [hs]
      split
      · next e =>
        subst e
        omega
      · next e =>
        have := T.high v ((List.mem_cons.1 hv).resolve_left e)
        omega
    · intro v hv
      show _ = nums (if v = b then n else S v) (blen bs v)
      unfold lay
      split
      · next e =>
        subst e
        rw [lay_out bs l _ _ v (fun w hw => (hr w (List.mem_cons_of_mem _ hw)).1) hb.1 hd'.1, getD_set_eq (by omega)]
        rfl
      · next e => exact T.row v ((List.mem_cons.1 hv).resolve_left e)
    · intro v hv w hw hne
      show (if v = b then n else S v) + blen bs v ≤ (if w = b then n else S w) ∨ (if w = b then n else S w) + blen bs w ≤ (if v = b then n else S v)
      by_cases e1 : v = b
      · subst e1
        have hw' := (List.mem_cons.1 hw).resolve_left (fun e => hne e.symm)
        have := T.low w hw'
        rw [if_pos rfl, if_neg (hnb w hw')]
        left
        omega
      · have hv' := (List.mem_cons.1 hv).resolve_left e1
        by_cases e2 : w = b
        · subst e2
          have := T.low v hv'
          rw [if_pos rfl, if_neg e1]
          right
          omega
        · rw [if_neg e1, if_neg e2]
          exact T.apart v hv' w ((List.mem_cons.1 hw).resolve_left e2) hne
    · intro y h1 h2
      rw [hs] at h2
      by_cases c : y ≤ n + blen bs b
      · refine ⟨b, List.mem_cons_self, ?_⟩
        rw [if_pos rfl]
        exact ⟨h1, c⟩
      · obtain ⟨v, hv, h3⟩ := T.full y (by omega) (by omega)
        refine ⟨v, List.mem_cons_of_mem _ hv, ?_⟩
        rw [if_neg (hnb v hv)]
        exact h3
/-- How many numbers rows have. -/
def tl : List (List Int) → Nat
  | [] => 0
  | r :: x => r.length + tl x
theorem tl_set : ∀ (x : List (List Int)) (b : Nat) (r : List Int), b < x.length → tl (x.set b r) + (x.getD b []).length = tl x + r.length
  | [], b, r, h => by simp at h
  | q :: x, 0, r, _ => by
    simp only [List.set_cons_zero, List.getD_cons_zero, tl]
    omega
  | q :: x, b + 1, r, h => by
    have := tl_set x b r (by simpa using h)
    simp only [List.set_cons_succ, List.getD_cons_succ, tl]
    omega
theorem lay_tl (bs : List (List SIns)) : ∀ (l : List Int) (n : Nat) (x : List (List Int)), l.Nodup → (∀ v ∈ l, 0 ≤ v ∧ v < x.length) → (∀ v ∈ l, x.getD v.toNat [] = []) → tl (lay bs l n x) = tl x + sumOf bs l
  | [], n, x, _, _, _ => by simp [lay, sumOf]
  | b :: l, n, x, hd, hr, hz => by
    have hd' := List.nodup_cons.1 hd
    have hb := hr b List.mem_cons_self
    have h1 := tl_set x b.toNat (nums n (blockAt bs b).length) (by omega)
    rw [hz b List.mem_cons_self, nums_len] at h1
    have h2 := lay_tl bs l (n + (blockAt bs b).length) (x.set b.toNat (nums n (blockAt bs b).length)) hd'.2 (fun v hv => by rw [List.length_set]; exact hr v (List.mem_cons_of_mem _ hv)) (fun v hv => by
      have hv2 := hr v (List.mem_cons_of_mem _ hv)
      rw [getD_set_ne (fun e => hd'.1 (by have : b = v := by omega
                                          rw [this]; exact hv))]
      exact hz v (List.mem_cons_of_mem _ hv))
    unfold lay sumOf
    rw [h2]
    simp at h1
    omega
theorem tl_zero (n : Nat) : tl (List.replicate n []) = 0 := by
  induction n with
  | zero => rfl
  | succ n ih =>
    rw [List.replicate_succ]
    simp [tl, ih]
theorem nil_get (n i : Nat) : (List.replicate n ([] : List Int)).getD i [] = [] := by
  rw [List.getD_eq_getElem?_getD, List.getElem?_replicate]
  split <;> rfl
def ordOf (bs : List (List SIns)) : List Int := order (succs bs) bs.length
theorem places_starts (bs : List (List SIns)) : ∃ S, Starts bs (ordOf bs) 0 (places bs) S := by
  obtain ⟨h1, h2⟩ := order_ok bs
  exact lay_starts bs _ 0 _ h1 (fun v hv => by rw [List.length_replicate]; exact h2 v hv)
theorem places_len (bs : List (List SIns)) : (places bs).length = bs.length := by
  unfold places
  rw [lay_len, List.length_replicate]
theorem places_out {bs : List (List SIns)} {v : Int} (h0 : 0 ≤ v) (h : v ∉ ordOf bs) : (places bs).getD v.toNat [] = [] := by
  obtain ⟨h1, h2⟩ := order_ok bs
  unfold places
  rw [lay_out bs _ _ _ v (fun w hw => (h2 w hw).1) h0 h, nil_get]
theorem places_tl (bs : List (List SIns)) : tl (places bs) = sumOf bs (ordOf bs) := by
  obtain ⟨h1, h2⟩ := order_ok bs
  unfold places
  rw [lay_tl bs _ 0 _ h1 (fun v hv => by rw [List.length_replicate]; exact h2 v hv) (fun v _ => nil_get _ _), tl_zero, Nat.zero_add]
  rfl
theorem sum_le (bs : List (List SIns)) : sumOf bs (ordOf bs) ≤ total bs := by
  obtain ⟨h1, h2⟩ := order_ok bs
  exact sumOf_le _ bs h1 (fun v hv => (h2 v hv).1)
theorem ord_head {bs : List (List SIns)} (h : 0 < bs.length) : (0 : Int) ∈ ordOf bs := by
  obtain ⟨t, ht⟩ := order_head (g := succs bs) (n := bs.length) h
  unfold ordOf
  rw [ht]
  exact List.mem_cons_self
theorem first_row {bs : List (List SIns)} (h : 0 < bs.length) : (places bs).getD 0 [] = nums 0 (blen bs 0) := by
  obtain ⟨t, ht⟩ := order_head (g := succs bs) (n := bs.length) h
  obtain ⟨h1, h2⟩ := order_ok bs
  unfold places
  rw [ht] at h1 h2 ⊢
  have hd := List.nodup_cons.1 h1
  unfold lay
  have := lay_out bs t (0 + (blockAt bs 0).length) ((List.replicate bs.length []).set (0 : Int).toNat (nums 0 (blockAt bs 0).length)) 0 (fun w hw => (h2 w (List.mem_cons_of_mem _ hw)).1) (by omega) hd.1
  rw [show (0 : Int).toNat = 0 from rfl] at this ⊢
  rw [this, getD_set_eq (by rw [List.length_replicate]; exact h)]
  rfl
end Go.Proofs.YtebnnknijbgekaaDoor.PlainSpan
namespace Go.Proofs.YtebnnknijbgekaaDoor.RSpanNumbers.Pure
open Go Go.RowKit Go.Proofs.YtebnnknijbgekaaDoorW.PrintWords Go.Proofs.YtebnnknijbgekaaDoorW.PrintMore Go.Proofs.YtebnnknijbgekaaDoor.Q Go.Proofs.YtebnnknijbgekaaDoor.Plain Go.Proofs.YtebnnknijbgekaaDoor.PlainHeavy Go.Proofs.YtebnnknijbgekaaDoor.PlainCheck Go.Proofs.YtebnnknijbgekaaDoor.PlainSuccs Go.Proofs.YtebnnknijbgekaaDoor.PlainLive Go.Proofs.YtebnnknijbgekaaDoor.Dfs Go.Proofs.YtebnnknijbgekaaDoor.PlainOrder Go.Proofs.YtebnnknijbgekaaDoor.PlainSpan
set_option linter.unusedVariables false
theorem set_get {m : List Bool} {i j : Nat} (hi : i < m.length) : (m.set i true).getD j false = (m.getD j false || decide (j = i)) := by
  rw [List.getD_eq_getElem?_getD, List.getD_eq_getElem?_getD]
  by_cases h : i = j
  · subst h
    rw [List.getElem?_set_self hi]
    simp
  · rw [List.getElem?_set_ne h, decide_eq_false (fun e => h e.symm), Bool.or_false]
theorem rdOf_nat (m : List Bool) (i : Nat) : rdOf false m (i : Int) = m.getD i false := rfl
section
variable (pn : ByteArray) (pp rg : Int) {bs : List (List SIns)} {S : Int → Nat} (T : Starts bs (ordOf bs) 0 (places bs) S) (hN : sumOf bs (ordOf bs) ≤ 60) (hl : bs.length ≤ 8)
include T hN hl
/-- The numbers of the blocks below b, and of the first k of block b. -/
def cov (bs : List (List SIns)) (S : Int → Nat) (b k y : Nat) : Prop := ∃ v : Nat, (v : Int) ∈ ordOf bs ∧ S v < y ∧ (v < b ∧ y ≤ S v + blen bs v ∨ v = b ∧ y ≤ S v + k)
theorem row_ev (b : Nat) (hb : b < bs.length) (hin : (b : Int) ∈ ordOf bs) : ∀ (d k n : Nat) (m : List Bool), k + d = blen bs b → n ≤ 100000 + k → m.length = 70 → (∀ y, y < 70 → (m.getD y false = true ↔ cov bs S b k y)) →
    (∀ m' : List Bool, m'.length = 70 → (∀ y, y < 70 → (m'.getD y false = true ↔ cov bs S b (blen bs b) y)) → Ev (fun q => cubbylaw12_SpanNumbers.l0 q (places bs) m' ((n + d : Nat) : Int) ((b + 1 : Nat) : Int) pn pp rg bs) true) →
    Ev (fun q => cubbylaw12_SpanNumbers.l1 q (places bs) m (n : Int) (b : Int) (k : Int) pn pp rg bs) true := by
  have hrow : rd_LInt (places bs) (b : Int) = nums (S b) (blen bs b) := T.row b hin
  have hhigh := T.high b hin
  have hpl := places_len bs
  intro d
  induction d with
  | zero =>
    intro k n m hk hn hm hcov H
    obtain rfl : k = blen bs b := by omega
    refine Ev.step (fun q => ?_) (H m hm hcov)
    simp only [cubbylaw12_SpanNumbers.l1]
    rw [if_pos (by omega), if_pos (by omega), hrow, nums_len, if_neg (by omega), wrap_nat (by omega)]
    rfl
  | succ d ih =>
    intro k n m hk hn hm hcov H
    have hkl : k < blen bs b := by omega
    have hx : rd (nums (S b) (blen bs b)) (k : Int) = ((S b + 1 + k : Nat) : Int) := nums_get hkl
    have hnot : m.getD (S b + 1 + k) false = false := by
      cases h : m.getD (S b + 1 + k) false
      · rfl
      · obtain ⟨v, hv, h1, h2⟩ := (hcov _ (by omega)).1 h
        rcases h2 with ⟨h3, h4⟩ | ⟨h3, h4⟩
        · rcases T.apart v hv b hin (by omega) with h5 | h5 <;> omega
        · subst h3
          omega
    have hcov' : ∀ y, y < 70 → ((m.set (S b + 1 + k) true).getD y false = true ↔ cov bs S b (k + 1) y) := by
      intro y hy
      rw [set_get (by omega), Bool.or_eq_true, decide_eq_true_iff, hcov y hy]
      constructor
      · rintro (⟨v, hv, h1, h2⟩ | rfl)
        · refine ⟨v, hv, h1, ?_⟩
          rcases h2 with h2 | ⟨h3, h4⟩
          · exact .inl h2
          · exact .inr ⟨h3, by omega⟩
        · exact ⟨b, hin, by omega, .inr ⟨rfl, by omega⟩⟩
      · rintro ⟨v, hv, h1, h2⟩
        rcases h2 with h2 | ⟨h3, h4⟩
        · exact .inl ⟨v, hv, h1, .inl h2⟩
        · subst h3
          by_cases e : y = S v + 1 + k
          · exact .inr e
          · exact .inl ⟨v, hv, h1, .inr ⟨rfl, by omega⟩⟩
    have hE := ih (k + 1) (n + 1) (m.set (S b + 1 + k) true) (by omega) (by omega) (by rw [List.length_set]; exact hm) hcov' (fun m' h1 h2 => by
      have := H m' h1 h2
      rw [show n + (d + 1) = n + 1 + d by omega] at this
      exact this)
    refine Ev.step (fun q => ?_) hE
    simp only [cubbylaw12_SpanNumbers.l1]
    rw [if_pos (by omega), if_pos (by omega), hrow, nums_len, if_pos (by omega), if_pos (by omega), hx, if_neg (by omega), if_neg (by omega), if_pos (by omega), if_pos (by omega), rdOf_nat, hnot, if_neg Bool.false_ne_true, Int.toNat_natCast, wrap_nat (by omega), wrap_nat (by omega)]
    by_cases c : (k : Int) > 0
    · have hx' : rd (nums (S b) (blen bs b)) ((k - 1 : Nat) : Int) = ((S b + 1 + (k - 1) : Nat) : Int) := nums_get (by omega)
      rw [if_pos c, wrap_pred (by omega) (by omega), if_pos (by omega), if_pos (by omega), hx', wrap_nat (by omega), if_pos (by omega)]
    · rw [if_neg c]
theorem all_ev (hp : ∀ b ∈ bs, b.length ≠ 0) : ∀ (d b n : Nat) (m : List Bool), b + d = bs.length → n + tl ((places bs).drop b) = tl (places bs) → m.length = 70 → (∀ y, y < 70 → (m.getD y false = true ↔ cov bs S b 0 y)) →
    Ev (fun q => cubbylaw12_SpanNumbers.l0 q (places bs) m (n : Int) (b : Int) pn pp rg bs) true := by
  have hpl := places_len bs
  have htl := places_tl bs
  intro d
  induction d with
  | zero =>
    intro b n m hb hn hm hcov
    rw [List.drop_eq_nil_of_le (by omega)] at hn
    simp only [tl] at hn
    have hloop : ∀ (e i : Nat), i + e = n + 1 → 1 ≤ i → Ev (fun q => cubbylaw12_SpanNumbers.l2 q m (n : Int) (i : Int)) true := by
      intro e
      induction e with
      | zero =>
        intro i hi h1
        exact Ev.step (f := fun _ => some true) (fun q => by simp only [cubbylaw12_SpanNumbers.l2]; rw [if_neg (by omega)]) (Ev.now _)
      | succ e ihe =>
        intro i hi h1
        have hmi : m.getD i false = true := by
          rw [hcov i (by omega)]
          obtain ⟨v, hv, h2, h3⟩ := T.full i (by omega) (by omega)
          have hv2 := (order_ok bs).2 v hv
          refine ⟨v.toNat, ?_, ?_, .inl ⟨by omega, ?_⟩⟩
          · rw [show ((v.toNat : Nat) : Int) = v by omega]
            exact hv
          · rw [show ((v.toNat : Nat) : Int) = v by omega]
            exact h2
          · rw [show ((v.toNat : Nat) : Int) = v by omega]
            exact h3
        refine Ev.step (fun q => ?_) (ihe (i + 1) (by omega) (by omega))
        simp only [cubbylaw12_SpanNumbers.l2]
        rw [if_pos (by omega), if_pos (by omega), if_pos (by omega), rdOf_nat, hmi, if_pos rfl, wrap_nat (by omega)]
    exact Ev.step (fun q => by simp only [cubbylaw12_SpanNumbers.l0]; rw [if_neg (by omega)]; rfl) (hloop n 1 (by omega) (by omega))
  | succ d ih =>
    intro b n m hb hn hm hcov
    have hbl : b < bs.length := by omega
    have hbp : b < (places bs).length := by omega
    have hne := hp _ (List.getElem_mem hbl)
    have hblen : blen bs b = bs[b].length := by
      unfold blen blockAt
      rw [Int.toNat_natCast, List.getD_eq_getElem?_getD, List.getElem?_eq_getElem hbl]
      rfl
    have hg : (places bs)[b] = (places bs).getD b [] := by
      rw [List.getD_eq_getElem?_getD, List.getElem?_eq_getElem hbp]
      rfl
    rw [drop_cons hbp] at hn
    simp only [tl] at hn
    have hsucc : ∀ k y, (k = blen bs b ∨ (b : Int) ∉ ordOf bs) → (cov bs S b k y ↔ cov bs S (b + 1) 0 y) := by
      intro k y hk
      constructor
      · rintro ⟨v, hv, h1, h2⟩
        rcases h2 with ⟨h3, h4⟩ | ⟨h3, h4⟩
        · exact ⟨v, hv, h1, .inl ⟨by omega, h4⟩⟩
        · subst h3
          rcases hk with hk | hk
          · exact ⟨v, hv, h1, .inl ⟨by omega, by omega⟩⟩
          · exact absurd hv hk
      · rintro ⟨v, hv, h1, h2⟩
        rcases h2 with ⟨h3, h4⟩ | ⟨h3, h4⟩
        · by_cases e : v = b
          · subst e
            rcases hk with hk | hk
            · exact ⟨v, hv, h1, .inr ⟨rfl, by omega⟩⟩
            · exact absurd hv hk
          · exact ⟨v, hv, h1, .inl ⟨by omega, h4⟩⟩
        · omega
    by_cases hin : (b : Int) ∈ ordOf bs
    · have hrow : rd_LInt (places bs) (b : Int) = nums (S b) (blen bs b) := T.row b hin
      have hhigh := T.high b hin
      have hlen : ((places bs)[b]).length = blen bs b := by
        rw [hg]
        have : (places bs).getD b [] = nums (S b) (blen bs b) := hrow
        rw [this, nums_len]
      have hE := row_ev pn pp rg T hN hl b hbl hin (blen bs b) 0 n m (by omega) (by omega) hm hcov (fun m' h1 h2 => ih (b + 1) (n + blen bs b) m' (by omega) (by omega) h1 (fun y hy => by rw [h2 y hy]; exact hsucc _ y (.inl rfl)))
      refine Ev.step (fun q => by simp only [cubbylaw12_SpanNumbers.l0]; rw [if_pos (by omega), if_pos (by omega), hrow, nums_len, if_neg (by omega), if_pos (by omega), rdL_get hbl, hblen]) ?_
      exact Ev.step (fun q => by simp only [cubbylaw12_SpanNumbers.j2]; rw [if_neg (by simp)]; rfl) hE
    · have hrow : rd_LInt (places bs) (b : Int) = [] := places_out (by omega) hin
      have hlen : ((places bs)[b]).length = 0 := by
        rw [hg]
        have : (places bs).getD b [] = [] := hrow
        rw [this]
        rfl
      have hE := ih (b + 1) n m (by omega) (by omega) hm (fun y hy => by rw [hcov y hy]; exact hsucc 0 y (.inr hin))
      refine Ev.step (fun q => by simp only [cubbylaw12_SpanNumbers.l0]; rw [if_pos (by omega), if_pos (by omega), hrow, if_pos (by simp)]) ?_
      refine Ev.step (fun q => by simp only [cubbylaw12_SpanNumbers.j2]; rw [if_neg Bool.false_ne_true]) ?_
      refine Ev.step (fun q => ?_) hE
      simp only [cubbylaw12_SpanNumbers.l1]
      rw [if_pos (by omega), if_pos (by omega), hrow, if_neg (by simp), wrap_nat (by omega)]
end
theorem SpanNumbers : SpanNumbers.Pure := by
  intro pn pp rg bs hn h1 h2 hbs
  refine Ev.rounds ?_
  have hF : FairB bs := ⟨by omega, fun b hb => by have := (hbs.2.2 b hb).1; omega, fun b hb y hy => by have := ((hbs.2.2 b hb).2.2 y hy).2.2.2.2.2.1; omega⟩
  obtain ⟨hv, hE, hfalse⟩ := heavy12_ev pn pp rg bs hF
  refine Ev.bind hE ?_
  cases hv
  · obtain ⟨R, z, rfl, T⟩ := hfalse rfl
    have hpos := T.pos
    have hl := T.len
    have hpl := places_len bs
    obtain ⟨S, hS⟩ := places_starts bs
    have hN := sum_le bs
    have htot := T.tot
    have hrow : rd_LInt (places bs) 0 = nums 0 (blen bs 0) := first_row hpos
    have hne : blen bs 0 ≠ 0 := by
      have := T.ok.row _ (List.getElem_mem hpos)
      unfold blen blockAt
      rw [show (0 : Int).toNat = 0 from rfl, List.getD_eq_getElem?_getD, List.getElem?_eq_getElem hpos]
      exact this
    have hx : rd (nums 0 (blen bs 0)) 0 = 1 := nums_get (n := 0) (i := 0) (by omega)
    refine Ev.congr (fun k => by rw [if_neg Bool.false_ne_true]) (Ev.bind (places_ev T) (Ev.congr (fun k => by rw [if_pos (by omega), if_pos (by omega), hrow, nums_len, if_neg (by omega), if_pos (by omega), hx]) ?_))
    refine Ev.step (f := fun k => cubbylaw12_SpanNumbers.l0 k (places bs) (List.replicate 70 false) ((0 : Nat) : Int) ((0 : Nat) : Int) pn pp (R : Int) bs) (fun k => by simp only [cubbylaw12_SpanNumbers.j0]; rw [if_neg (by decide), if_pos (by decide)]; rfl) ?_
    refine all_ev pn pp (R : Int) hS (by omega) hl T.ok.row bs.length 0 0 (List.replicate 70 false) (by omega) (by simp) (by simp) (fun y hy => ?_)
    constructor
    · intro h
      rw [List.getD_eq_getElem?_getD, List.getElem?_replicate] at h
      split at h <;> simp at h
    · rintro ⟨v, hv, h1, h2⟩
      omega
  · exact Ev.congr (f := fun _ => some true) (fun k => by rw [if_pos rfl]; rfl) (Ev.now _)
end Go.Proofs.YtebnnknijbgekaaDoor.RSpanNumbers.Pure
namespace Go.Proofs.YtebnnknijbgekaaDoor.RSpanNumbers
open Go.ChangeShapes Go.WideShapes Go.ChangeAt
open Go.ChangeMaps (open_string shut_string)
open Go Go.RowKit Go.Proofs.YtebnnknijbgekaaDoorW.PrintWords Go.Proofs.YtebnnknijbgekaaDoorW.PrintLast Go.Proofs.YtebnnknijbgekaaDoorW.PrintMore Go.Proofs.YtebnnknijbgekaaDoor.Q Go.Proofs.YtebnnknijbgekaaDoor.Open
set_option linter.unusedVariables false
theorem own : ownKnob Tryd.prog.godebug = none := by kernel_rfl
theorem laidOut : laidOutB Tryd.prog = true := by kernel_rfl
theorem opensIns : Opens Tryd.prog 31 kIns GIns :=
  (Opens.iso (fun x : SIns => (x.f0, x.f1, x.f2, x.f3, x.f4, x.f5)) (fun y => ⟨y.1, y.2.1, y.2.2.1, y.2.2.2.1, y.2.2.2.2.1, y.2.2.2.2.2⟩) (fun _ => rfl) (Opens.struct Tryd.underlying31 (by kernel_rfl) (OpensFs.cons rfl (Opens.int (Tryd.underlying3) (by kernel_rfl)) (OpensFs.cons rfl (Opens.int (Tryd.underlying3) (by kernel_rfl)) (OpensFs.cons rfl (Opens.int (Tryd.underlying3) (by kernel_rfl)) (OpensFs.cons rfl (Opens.int (Tryd.underlying3) (by kernel_rfl)) (OpensFs.cons rfl (Opens.string (Tryd.underlying9) (by kernel_rfl)) (OpensFs.one rfl (Opens.slice (B := 8) (Tryd.underlying29) (by kernel_rfl) (by kernel_rfl) (Opens.int (Tryd.underlying3) (by kernel_rfl))))))))))).imp (fun _ h => h)
set_option maxRecDepth 100000 in
theorem lifted (os : Os) (started : os.Started) (H : Type) (enc : TypeId × Value → H) :
    ReturnsInHanded {} Tryd.checked os 10 .any (fun w args => (Rows.spanNumbersSpec.pre enc Tryd.prog Tryd.f10 [] false w args ∧ laidMetH Tryd.prog Rows.spanNumbersRow.laid w) ∧ sizedMet enc Tryd.prog Tryd.f10 (OpenSpec.ofChange Rows.spanNumbersSpec) false w args) (Rows.spanNumbersSpec.post enc Tryd.prog Tryd.f10 false true false false) := by
  refine returnsInHanded_of_change_and (C := Tryd.checked) (X := fun w _ => laidMetH Tryd.prog Rows.spanNumbersRow.laid w) (fun _ _ _ hh h => h.of_heap hh) own started (by kernel_rfl) Tryd.func10
    (ChangeSpec.witness_shaped (enc := enc) (C := Tryd.checked) (os := os) (X := fun w _ => laidMetH Tryd.prog Rows.spanNumbersRow.laid w) false (World.laidAll Tryd.prog os Rows.spanNumbersRow.laid) #[.agg #[.string ByteArray.empty, .int .i64 0, .int .i64 0, .slice none 0 0]] 8 (World.laidAll_os _ _ _)
      (World.shaped_of_ZipB (by kernel_rfl) (by kernel_rfl)) (by kernel_rfl) (by kernel_rfl) (by kernel_rfl)
      (by rw [MakeChecks.laidMetH_plain _ _ _ (by kernel_rfl)]; exact laidMet_laidAll _ (by kernel_rfl) (by kernel_rfl))) ?_
  intro W base args ds gs before hval0 hW hcnd hsz0 hL0 _
  rw [MakeChecks.laidMetH_plain _ _ _ (by kernel_rfl)] at hL0
  have LAIDF : LaidW W := LaidW.of_reads (show Lib.VarReads Tryd.prog W "cubby/ir.shapes" shapesD from Lib.laidMet.reads hL0 (n := "cubby/ir.shapes") (d := Rows.laid_cubby_ir_shapes) (by simp [Rows.spanNumbersRow]))
  have hsz : (DataW.weightsEach Tryd.prog (Tryd.f10.params.toList ++ Rows.spanNumbersSpec.plain.varTypes Tryd.prog) (ds ++ gs)).all (· ≤ reachBytes) = true := hsz0
  have hval : ∀ (j : Nat) t v, Tryd.f10.params[j]? = some t → args[j]? = some v → Value.okWide Tryd.prog W .any base t v := hval0
  have hW' := hW
  obtain ⟨p, q, hA0, hV, rfl, hfz, hnd⟩ := hW
  have hA : DataW.TrodAll enc Tryd.prog W 0 (fun _ => true) true Tryd.f10.params.toList args.toList ds p := hA0
  rw [Tryd.params10] at hA hval hsz
  obtain ⟨v0, vs0, d0, ds0, p0, q0, hargs, rfl, rfl, h0, r0⟩ := trodAll_cons hA
  obtain ⟨rfl, rfl, rfl⟩ := trodAll_nil r0
  obtain rfl : args = #[v0] := by cases args; simp_all
  obtain ⟨rfl, rfl⟩ := trodVars_none hV
  have lt0 : ∀ x ∈ p0, x.block < W.heap.size := by obtain ⟨m, hm⟩ := h0; exact DataW.trod_lt m _ _ _ hm
  obtain ⟨cs0, rfl, -⟩ := okWide_struct Tryd.underlying34 (hval 0 34 v0 rfl rfl)
  obtain ⟨⟨a0_0, a0_1, a0_2, l0_3⟩, hk0, gg0⟩ := (Opens.struct Tryd.underlying34 (by kernel_rfl) (OpensFs.cons rfl (Opens.string (Tryd.underlying9) (by kernel_rfl)) (OpensFs.cons rfl (Opens.int (Tryd.underlying3) (by kernel_rfl)) (OpensFs.cons rfl (Opens.int (Tryd.underlying3) (by kernel_rfl)) (OpensFs.one rfl (Opens.slice (B := 24) (Tryd.underlying22) (by kernel_rfl) (by kernel_rfl) (Opens.slice (B := 72) (Tryd.underlying28) (by kernel_rfl) (by kernel_rfl) opensIns)))))) : Opens Tryd.prog 34 (Kd.pair Kd.string (Kd.pair (Kd.int .i64) (Kd.pair (Kd.int .i64) (Kd.slice 28 (Kd.slice 31 kIns))))) (fun y => ((y.1).size ≤ 140737488351232 ∧ ((Lit.int .i64 (y.2.1)).wf = true ∧ ((Lit.int .i64 (y.2.2.1)).wf = true ∧ ((y.2.2.2).length * 24 ≤ 140737488351232 ∧ (y.2.2.2).length ≤ maxLen ∧ ∀ y1 ∈ (y.2.2.2), ((y1).length * 72 ≤ 140737488351232 ∧ (y1).length ≤ maxLen ∧ ∀ y2 ∈ (y1), GIns (y2)))))))).arg h0 hsz (j := 0) rfl rfl
  obtain ⟨g0_0, g0_1, g0_2, g0_3⟩ := gg0
  obtain ⟨_, _, h0_, rfl, ⟨_, _, rfl, rfl, ⟨_, _, rfl, rfl, ⟨A0_3, c0_3, rfl, hc0_3, hr0_3⟩⟩⟩⟩ := hk0
  obtain rfl : cs0 = #[.string a0_0, .int .i64 a0_1, .int .i64 a0_2, .slice A0_3 l0_3.length c0_3] := by
    cases cs0
    simp [Value.cells] at h0_
    simp [h0_]
  clear hA0 hval0 hsz0 hsz
  obtain ⟨k, hf⟩ := Pure.SpanNumbers a0_0 a0_1 a0_2 l0_3 g0_0 g0_1 g0_2 g0_3
  refine (Q.cubbylaw12_SpanNumbers.calls k a0_0 a0_1 a0_2 A0_3 c0_3 l0_3 true W LAIDF rfl hr0_3 hc0_3 hf).mono ?_
  rintro e W' ⟨rfl, hd⟩
  have bel : Below W.heap.size W W' := hd
  exact ⟨_, rfl, _, _, _, [], _, [], hW', trodAll_mk1 (shut_bool Tryd.underlying4 _), (trodAll_cons_mk (Below.trod laidOut (by kernel_rfl) (of_decide_eq_true (by kernel_rfl)) h0 bel lt0) trodAll_mk0), rfl, bel.frame _, fun h => by cases h⟩
theorem over : Rows.spanNumbersRow.holds Tryd.pinned (OpenSpec.ofChange Rows.spanNumbersSpec) :=
  OpenClaim.holds_of_wide 10 Tryd.f10 rfl rfl rfl rfl rfl rfl rfl ⟨rfl, rfl, rfl, rfl, rfl⟩ rfl rfl rfl rfl rfl (by kernel_rfl) Tryd.func10 (by kernel_rfl)
    (of_decide_eq_true (by kernel_rfl)) (by unfold Func.isWrapper; first | (rw [if_pos (by decide +kernel)]; kernel_rfl) | (rw [if_neg (by decide +kernel)]; exact ⟨rfl, rfl⟩))
    (fun os started H enc _ => lifted os started H enc)
end Go.Proofs.YtebnnknijbgekaaDoor.RSpanNumbers
namespace Go.Proofs.YtebnnknijbgekaaDoor
/-- The row, under a short name, for the claim. -/
theorem spanNumbers_holds : Rows.SpanNumbersSaid := RSpanNumbers.over
/-- The tied card. -/
theorem spanNumbers_card : Rows.SpanNumbersCardSaid :=
  Claim7.holds_tied_plain_at .later [] [.data, .data, .pinned] true (true, "f478bf7cf80a0a19cd0e3ed25470ae850c7921cd0ccad9bb821bd05bde23d4b3") false spanNumbers_holds (fun _ h => by cases h) (by kernel_rfl) (fun _ h => by cases h) spanNumbers_row_tie rfl ⟨rfl, rfl⟩ (by kernel_rfl) rfl
    (fun f fn hf hfn => by
      obtain rfl : f = 10 := Option.some.inj ((show Tryd.prog.funcNamed "cubby/cubbylaw12.SpanNumbers" = some 10 by kernel_rfl).symm.trans hf) |>.symm
      obtain rfl : fn = Tryd.f10 := (Option.some.inj (Tryd.func10.symm.trans hfn)).symm
      exact ⟨by kernel_rfl, fun j t ht => by
        rw [Tryd.params10] at ht
        have hm : t ∈ [34] := by simpa using Array.mem_of_getElem? ht
        have hall : ([34].all fun u => !Tryd.prog.wantsStandIn u) = true := by kernel_rfl
        exact (show Tryd.prog.wantsStandIn t = false by simpa using List.all_eq_true.1 hall t hm)⟩)
    (by kernel_rfl)
#print axioms spanNumbers_card
end Go.Proofs.YtebnnknijbgekaaDoor
