/- SpanNumbers: parts of the proofs, put together. -/
import Derived.OneCell
import Derived.Test.YtebnnknijbgekaaDoorProg
import Derived.WalkKit
import Derived.Ground.NamesProg
import Derived.Ground.SlgfProg
import Derived.Shelf.SlGeneric
import Derived.Shelf.Strings.SlTrimAscii
import Derived.Shelf.SlicesE.IndexFunc
import Derived.Shelf.Spec.TrailingZeros
import Derived.Test.YtebnnknijbgekaaDoorMSpanNumbers1
import Derived.Test.YtebnnknijbgekaaDoorMSpanNumbers2
namespace Go.Proofs.YtebnnknijbgekaaDoor.Q
open Go.RowKit Go.Proofs.YtebnnknijbgekaaDoorW.PrintWords Go.Proofs.YtebnnknijbgekaaDoorW.PrintLast Go.Proofs.YtebnnknijbgekaaDoorW.PrintMore
attribute [local go_sem] max2_int min2_int max_two min_two max_three min_three max_four min_four   -- for this text's walks alone
set_option linter.unusedVariables false
set_option linter.unusedSimpArgs false

/-! ### cubbyref09_Succs: function 96 -/
mutual
def cubbyref09_Succs.j0 : Nat → List (List (SIns)) → Int → List Int → Bool → Option (List Int)
 | 0, _, _, _, _ => none
 | k + 1, x0, x1, x5, x24 => if x24 = true then (some x5) else (if 0 ≤ x1 then (if x1 < (x0.length : Int) then (if 0 ≤ (wrap64 (((rd_LIns x0 x1).length : Int) - 1)) then (if (wrap64 (((rd_LIns x0 x1).length : Int) - 1)) < ((rd_LIns x0 x1).length : Int) then ((cubbyref07_Targets.f ((rd_TIns (rd_LIns x0 x1) (wrap64 (((rd_LIns x0 x1).length : Int) - 1))).f0) ((rd_TIns (rd_LIns x0 x1) (wrap64 (((rd_LIns x0 x1).length : Int) - 1))).f1) ((rd_TIns (rd_LIns x0 x1) (wrap64 (((rd_LIns x0 x1).length : Int) - 1))).f2) ((rd_TIns (rd_LIns x0 x1) (wrap64 (((rd_LIns x0 x1).length : Int) - 1))).f3) ((rd_TIns (rd_LIns x0 x1) (wrap64 (((rd_LIns x0 x1).length : Int) - 1))).f4) ((rd_TIns (rd_LIns x0 x1) (wrap64 (((rd_LIns x0 x1).length : Int) - 1))).f5)).bind fun t292 => (cubbyref09_Succs.l0 k x0 x5 t292 0)) else (none)) else (none)) else (none)) else (none))
def cubbyref09_Succs.l0 : Nat → List (List (SIns)) → List Int → List Int → Int → Option (List Int)
 | 0, _, _, _, _ => none
 | k + 1, x0, x5, x6, x7 => if x7 < (x6.length : Int) then (if 0 ≤ x7 then (if (rd x6 x7) ≥ 0 then (if (rd x6 x7) < (x0.length : Int) then ((cubbyref09_has.f k x5 (rd x6 x7)).bind fun t298 => (if t298 = true then (cubbyref09_Succs.l0 k x0 x5 x6 (wrap64 (x7 + 1))) else (if x5.length < 17592186044416 then (cubbyref09_Succs.l0 k x0 (x5 ++ [rd x6 x7]) x6 (wrap64 (x7 + 1))) else (none)))) else (cubbyref09_Succs.l0 k x0 x5 x6 (wrap64 (x7 + 1)))) else (cubbyref09_Succs.l0 k x0 x5 x6 (wrap64 (x7 + 1)))) else (none)) else (some x5)
end
def cubbyref09_Succs.f (k : Nat) (l0 : List (List (SIns))) (a1 : Int) : Option (List Int) := (some (([] : List Int) : List Int)).bind fun y285 => (if a1 < 0 then (cubbyref09_Succs.j0 k l0 a1 y285 true) else (if a1 ≥ (l0.length : Int) then (cubbyref09_Succs.j0 k l0 a1 y285 true) else (if 0 ≤ a1 then (if a1 < (l0.length : Int) then (cubbyref09_Succs.j0 k l0 a1 y285 (((rd_LIns l0 a1).length : Int) == 0)) else (none)) else (none))))
theorem cubbyref09_Succs.mono_l : ∀ k, (∀ y0 y1 y2 y3, LeO (cubbyref09_Succs.j0 k y0 y1 y2 y3) (cubbyref09_Succs.j0 (k + 1) y0 y1 y2 y3)) ∧ (∀ y0 y1 y2 y3, LeO (cubbyref09_Succs.l0 k y0 y1 y2 y3) (cubbyref09_Succs.l0 (k + 1) y0 y1 y2 y3))
 | 0 => ⟨fun _ _ _ _ r h => by simp [cubbyref09_Succs.j0] at h, fun _ _ _ _ r h => by simp [cubbyref09_Succs.l0] at h⟩
 | k + 1 => by
  obtain ⟨ih0, ih1⟩ := cubbyref09_Succs.mono_l k
  refine ⟨?_, ?_⟩ <;> intros <;> (first | unfold cubbyref09_Succs.j0 | unfold cubbyref09_Succs.l0) <;> repeat' first | (with_reducible exact ih0 _ _ _ _) | (with_reducible exact ih1 _ _ _ _) | (with_reducible exact cubbyref09_has.mono _ _ _) | (with_reducible exact LeO.refl _) | (with_reducible exact LeO.none _) | (with_reducible refine LeO.ite ?_ ?_) | (with_reducible refine LeO.bind ?_ (fun _ => ?_)) | exact LeO.none _ | refine LeO.ite ?_ ?_ | refine LeO.bind ?_ (fun _ => ?_)
theorem cubbyref09_Succs.mono : ∀ a0 a1 k, LeO (cubbyref09_Succs.f k a0 a1) (cubbyref09_Succs.f (k + 1) a0 a1) := by
 intro a0 a1 k
 obtain ⟨ih0, ih1⟩ := cubbyref09_Succs.mono_l k
 unfold cubbyref09_Succs.f
 repeat' first | (with_reducible exact ih0 _ _ _ _) | (with_reducible exact ih1 _ _ _ _) | (with_reducible exact cubbyref09_has.mono _ _ _) | (with_reducible exact LeO.refl _) | (with_reducible exact LeO.none _) | (with_reducible refine LeO.ite ?_ ?_) | (with_reducible refine LeO.bind ?_ (fun _ => ?_)) | exact LeO.none _ | refine LeO.ite ?_ ?_ | refine LeO.bind ?_ (fun _ => ?_)
def cubbyref09_Succs.T4 : Bool × List (List Nat × List Nat) := (true, [([], []), ([], []), ([0, 1], [0, 1]), ([2], [2]), ([], []), ([], []), ([4, 5], [4, 5]), ([6], [6]), ([7], [7]), ([8], [8]), ([3, 9], [3, 9]), ([10], [10]), ([11], [11]), ([12, 12, 0, 1, 2, 3, 4, 5, 6, 7, 8, 9, 10, 11, 12], [12])])
def cubbyref09_Succs.B4 : List Nat := [0, 0, 3, 7, 0, 0, 48, 112, 240, 496, 1023, 2047, 4095, 8191]
theorem cubbyref09_Succs.tab4 : rtab .any (opsOf Tryd.f96 4) = cubbyref09_Succs.T4 := by kernel_rfl
theorem cubbyref09_Succs.bits4 : waitsOk cubbyref09_Succs.T4.2 cubbyref09_Succs.B4 = true := by kernel_rfl
set_option maxHeartbeats 8000000 in
set_option maxRecDepth 100000 in
theorem cubbyref09_Succs.calls (k : Nat) (A0 : Option Addr) (c0 : Nat) (l0 : List (List (SIns))) (a1 : Int) (r : List Int) (w : World) (hr0 : Kd.C (Kd.slice 31 kIns) w A0 l0.length l0) (hc0 : l0.length ≤ c0) (h : cubbyref09_Succs.f k l0 a1 = some r) :
  Calls Tryd.prog 96 #[.slice A0 l0.length c0, .int .i64 a1] w fun e w' => ∃ v0_ : Value, e = .returned (v0_) ∧ Kd.R (Kd.int .i64) 3 w' w.heap.size (fun _ => True) v0_ r ∧ Below w.heap.size w w' := by
 have hu31 := Tryd.underlying31
 have HR0 := Aside0.mk hr0
 have HC0 := Aside0.mk hc0
 clear hr0 hc0
 have HB := Aside0.mk (Below.refl w.heap.size w)
 have H := h; clear h; unfold cubbyref09_Succs.f at H
 obtain ⟨y285, hy285⟩ : ∃ y_ : List Int, y_ = (([] : List Int)) := ⟨_, rfl⟩
 replace H : (if a1 < 0 then (cubbyref09_Succs.j0 k l0 a1 y285 true) else (if a1 ≥ (l0.length : Int) then (cubbyref09_Succs.j0 k l0 a1 y285 true) else (if 0 ≤ a1 then (if a1 < (l0.length : Int) then (cubbyref09_Succs.j0 k l0 a1 y285 (((rd_LIns l0 a1).length : Int) == 0)) else (none)) else (none)))) = some r := by first | (rw [hy285]; with_reducible exact H) | (have H2_ := (Option.bind_some _ _).symm.trans H; rw [hy285]; with_reducible exact H2_) | (have H2_ := (Option.bind_some _ _).symm.trans H; with_reducible exact H2_) | with_reducible exact H | (rw [hy285]; exact H) | exact H
 have Ny285 := Aside0.mk hy285
 clear hy285
 have HC3 := Aside0.mk H
 clear H
 go_enter Tryd.func96, Tryd.ntmps96
 go_upto_region 2 with (first | ((with_reducible refine gate_dst (N := 8) rfl ?_); (try (refine gate_guard (by rfl) ?_; dsimp only)); refine Kd.R_lit (Kd.int .i64) _ 3 (by rfl) (N := 8) (by rfl) (xs := ([] : List Int)) (inner := []) (ok := fun _ => True) (okp := fun _ => True) ?hr ?hp (fun _ hk => hk) trivial (Below.refl _ _) (Nat.le_refl _) (by simp) ?_; (case hr => first | (go_simp; done) | (go_simp; rfl)); (case hp => exact (Reps.none _ _)); intro v286 w4 ho5 hb hg_ hnew_; clear hg_ hnew_; (first | rw [← Ny285.out] at ho5 | (simp only [Int.reduceToNat] at ho5; rw [← Ny285.out] at ho5)); have HO287 := Aside0.mk (Kd.R_lower ho5 (below_size qB)); replace HB := qH hb; clear hb ho5))
 (try simp only [Act.put, List.setIfInBounds_toArray, List.set_cons_zero, List.set_cons_succ])
 go_cut [24] (fun v24 wc => ∃ (kq : Nat) (x24_2 : Bool), v24 = .bool x24_2 ∧ Aside0 (cubbyref09_Succs.j0 kq l0 a1 y285 x24_2 = some r) ∧ Aside0 (kq ≤ k) ∧ Aside0 (Kd.R (Kd.int .i64) 3 wc w.heap.size (fun _ => True) v286 y285) ∧ Aside0 (Below w.heap.size w wc))
 case first =>
  have H := HC3.out
  clear HC3
  by_cases c6 : a1 < 0
  ·rw [if_pos c6] at H
   have c6b0 := decide_eq_true c6
   clear c6
   (first | rw [c6b0] | (simp only [i64_w, i32_w]; rw [c6b0]) | skip)
   have H' := Aside0.mk H
   clear H
   go_wp2
   go_meet
   case rel => exact ⟨_, (true), qT, H', ⟨qO⟩, ⟨qR HO287.out⟩, ⟨qB⟩⟩
  ·rw [if_neg c6] at H
   have c6b0 := decide_eq_false c6
   clear c6
   (first | rw [c6b0] | (simp only [i64_w, i32_w]; rw [c6b0]) | skip)
   by_cases c7 : a1 ≥ (l0.length : Int)
   ·rw [if_pos c7] at H
    have c7b0 : decide ((l0.length : Int) ≤ a1) = true := decide_eq_true c7
    clear c7
    have H' := Aside0.mk H
    clear H
    go_wp2
    go_meet
    case rel => exact ⟨_, (true), qT, H', ⟨qO⟩, ⟨qR HO287.out⟩, ⟨qB⟩⟩
   ·rw [if_neg c7] at H
    have c7b0 : decide ((l0.length : Int) ≤ a1) = false := decide_eq_false c7
    clear c7
    by_cases c8 : 0 ≤ a1
    ·rw [if_pos c8] at H
     have c8b0 := decide_eq_true c8
     clear c8
     by_cases c9 : a1 < (l0.length : Int)
     ·rw [if_pos c9] at H
      have c9b0 := decide_eq_true c9
      clear c9
      have H' := Aside0.mk H
      clear H
      have p288 : 0 ≤ (a1 : Int) := of_decide_eq_true qA
      have q288 : a1 < (l0.length : Int) := of_decide_eq_true qA
      obtain ⟨ad288, A288_0, c288_0, e288, hx288_0, hl288_0, hi288_0⟩ := at_LIns HR0.out a1 p288 q288
      cases e288
      replace hx288_0 := (HB.out.cell (World.block_lt_of_cell? w _ hx288_0)).trans hx288_0
      have HR288_0 := Aside0.mk hi288_0
      have HC288_0 := Aside0.mk hl288_0
      clear hi288_0 hl288_0
      replace p288 := eq_true p288
      replace q288 := eq_true q288
      go_wp2
      go_meet
      case rel => exact ⟨_, ((((rd_LIns l0 a1).length : Int) == 0)), qT, H', ⟨qO⟩, ⟨qR HO287.out⟩, ⟨qB⟩⟩
     ·rw [if_neg c9] at H
      exact absurd H (by simp)
    ·rw [if_neg c8] at H
     exact absurd H (by simp)
 case rest =>
  clear HC3
  try clear c2; try clear p2; try clear q2; try clear hx2; try clear c6; try clear c6b0; try clear c7; try clear c7b0; try clear c8; try clear c8b0; try clear c9; try clear c9b0; try clear hx288_0; try clear p288; try clear q288
  obtain ⟨kq, x24_2, rfl, HA, HJ2, HO_5, HB⟩ := hcut
  cases kq with
  | zero => exact absurd HA.out (by simp [cubbyref09_Succs.j0])
  | succ kj2 =>
   have H := HA.out
   clear HA
   simp only [cubbyref09_Succs.j0] at H
   by_cases c10 : x24_2 = true
   ·subst c10
    have H1 : (some y285) = some r := by rw [if_pos rfl] at H; exact H
    clear H
    have H := H1
    clear H1
    obtain rfl := Option.some.inj H
    go_wp2
    go_ret
    exact ⟨_, qE, qR HO_5.out, qB⟩
   ·replace c10 := Bool.eq_false_iff.mpr c10
    subst c10
    have H1 : (if 0 ≤ a1 then (if a1 < (l0.length : Int) then (if 0 ≤ (wrap64 (((rd_LIns l0 a1).length : Int) - 1)) then (if (wrap64 (((rd_LIns l0 a1).length : Int) - 1)) < ((rd_LIns l0 a1).length : Int) then ((cubbyref07_Targets.f ((rd_TIns (rd_LIns l0 a1) (wrap64 (((rd_LIns l0 a1).length : Int) - 1))).f0) ((rd_TIns (rd_LIns l0 a1) (wrap64 (((rd_LIns l0 a1).length : Int) - 1))).f1) ((rd_TIns (rd_LIns l0 a1) (wrap64 (((rd_LIns l0 a1).length : Int) - 1))).f2) ((rd_TIns (rd_LIns l0 a1) (wrap64 (((rd_LIns l0 a1).length : Int) - 1))).f3) ((rd_TIns (rd_LIns l0 a1) (wrap64 (((rd_LIns l0 a1).length : Int) - 1))).f4) ((rd_TIns (rd_LIns l0 a1) (wrap64 (((rd_LIns l0 a1).length : Int) - 1))).f5)).bind fun t292 => (cubbyref09_Succs.l0 kj2 l0 y285 t292 0)) else (none)) else (none)) else (none)) else (none)) = some r := by rw [if_neg (show ¬ (false = true) by decide)] at H; exact H
    clear H
    have H := H1
    clear H1
    by_cases c11 : 0 ≤ a1
    ·rw [if_pos c11] at H
     have c11b0 := decide_eq_true c11
     clear c11
     by_cases c12 : a1 < (l0.length : Int)
     ·rw [if_pos c12] at H
      have c12b0 := decide_eq_true c12
      clear c12
      obtain ⟨ji13, hji13⟩ : ∃ j_ : Int, (wrap64 (((rd_LIns l0 a1).length : Int) - 1)) = j_ := ⟨_, rfl⟩
      replace H : (if 0 ≤ (ji13) then (if (ji13) < ((rd_LIns l0 a1).length : Int) then ((cubbyref07_Targets.f ((rd_TIns (rd_LIns l0 a1) (ji13)).f0) ((rd_TIns (rd_LIns l0 a1) (ji13)).f1) ((rd_TIns (rd_LIns l0 a1) (ji13)).f2) ((rd_TIns (rd_LIns l0 a1) (ji13)).f3) ((rd_TIns (rd_LIns l0 a1) (ji13)).f4) ((rd_TIns (rd_LIns l0 a1) (ji13)).f5)).bind fun t292 => (cubbyref09_Succs.l0 kj2 l0 y285 t292 0)) else (none)) else (none)) = some r := by first | (rw [hji13] at H; exact H) | (simp only [hji13] at H ⊢; exact H)
      have hji13w : (IntKind.i64.wrap (((rd_LIns l0 a1).length : Int) - 1)) = ji13 := (i64_w _).trans hji13
      by_cases c14 : 0 ≤ (ji13)
      ·rw [if_pos c14] at H
       have c14b0 := decide_eq_true c14
       clear c14
       by_cases c15 : (ji13) < ((rd_LIns l0 a1).length : Int)
       ·rw [if_pos c15] at H
        have c15b0 := decide_eq_true c15
        clear c15
        replace H := qb H; obtain ⟨t292, A16, H⟩ := H
        have H' := Aside0.mk H
        clear H
        try go_wp2
        have n0_ := Aside0.mk (Kd.R_drew HO_5.out)
        have n1_ := Aside0.mk (below_drew1 HB.out)
        clear HO_5
        clear HB
        have HO_5 := n0_
        have HB := n1_
        clear n0_ n1_
        have p289 : 0 ≤ (a1 : Int) := of_decide_eq_true qA
        have q289 : a1 < (l0.length : Int) := of_decide_eq_true qA
        obtain ⟨ad289, A289_0, c289_0, e289, hx289_0, hl289_0, hi289_0⟩ := at_LIns HR0.out a1 p289 q289
        have hw289_0 := hx289_0
        cases e289
        replace hx289_0 := (HB.out.cell (World.block_lt_of_cell? w _ hx289_0)).trans hx289_0
        have HR289_0 := Aside0.mk hi289_0
        have HC289_0 := Aside0.mk hl289_0
        clear hi289_0 hl289_0
        replace p289 := eq_true p289
        replace q289 := eq_true q289
        have p290 : 0 ≤ (a1 : Int) := of_decide_eq_true qA
        have q290 : a1 < (l0.length : Int) := of_decide_eq_true qA
        obtain ⟨ad290, A290_0, c290_0, e290, hx290_0, hl290_0, hi290_0⟩ := at_LIns HR0.out a1 p290 q290
        have hw290_0 := hx290_0
        obtain rfl : ad289 = ad290 := (by injection e290)
        replace hx290_0 := (HB.out.cell (World.block_lt_of_cell? w _ hx290_0)).trans hx290_0
        have HR290_0 := Aside0.mk hi290_0
        have HC290_0 := Aside0.mk hl290_0
        clear hi290_0 hl290_0
        replace p290 := eq_true p290
        replace q290 := eq_true q290
        have ea_ := Option.some.inj (hx289_0.symm.trans hx290_0)
        injection ea_ with ea_ en_ ec_
        subst ea_
        subst ec_
        clear en_
        have p291 : 0 ≤ ((ji13) : Int) := of_decide_eq_true qA
        have q291 : (ji13) < ((rd_LIns l0 a1).length : Int) := of_decide_eq_true qA
        obtain ⟨ad291, A291_5, c291_5, e291, hx291_0, hx291_1, hx291_2, hx291_3, hx291_4, hx291_5, hl291_5, hi291_5⟩ := at_TIns HR289_0.out (ji13) p291 q291
        have hw291_5 := hx291_5
        have hw291_4 := hx291_4
        have hw291_3 := hx291_3
        have hw291_2 := hx291_2
        have hw291_1 := hx291_1
        have hw291_0 := hx291_0
        cases e291
        replace hx291_0 := (HB.out.cell (World.block_lt_of_cell? w _ hx291_0)).trans hx291_0
        replace hx291_1 := (HB.out.cell (World.block_lt_of_cell? w _ hx291_1)).trans hx291_1
        replace hx291_2 := (HB.out.cell (World.block_lt_of_cell? w _ hx291_2)).trans hx291_2
        replace hx291_3 := (HB.out.cell (World.block_lt_of_cell? w _ hx291_3)).trans hx291_3
        replace hx291_4 := (HB.out.cell (World.block_lt_of_cell? w _ hx291_4)).trans hx291_4
        replace hx291_5 := (HB.out.cell (World.block_lt_of_cell? w _ hx291_5)).trans hx291_5
        have HR291_5 := Aside0.mk hi291_5
        have HC291_5 := Aside0.mk hl291_5
        clear hi291_5 hl291_5
        replace p291 := eq_true p291
        replace q291 := eq_true q291
        refine start_ (n := 14) (S := fun w' => w'.cell? (ad289.add (a1).toNat) = some (.slice (some ad291) (rd_LIns l0 a1).length c289_0) ∧ w'.cell? (ad289.add (a1).toNat) = some (.slice (some ad291) (rd_LIns l0 a1).length c289_0) ∧ w'.cell? (ad291.add (((ji13)).toNat * 6)) = some (.int .i64 ((rd_TIns (rd_LIns l0 a1) (ji13)).f0)) ∧ w'.cell? ⟨(ad291.add (((ji13)).toNat * 6)).block, (ad291.add (((ji13)).toNat * 6)).off + 1, none⟩ = some (.int .i64 ((rd_TIns (rd_LIns l0 a1) (ji13)).f1)) ∧ w'.cell? ⟨(ad291.add (((ji13)).toNat * 6)).block, (ad291.add (((ji13)).toNat * 6)).off + 2, none⟩ = some (.int .i64 ((rd_TIns (rd_LIns l0 a1) (ji13)).f2)) ∧ w'.cell? ⟨(ad291.add (((ji13)).toNat * 6)).block, (ad291.add (((ji13)).toNat * 6)).off + 3, none⟩ = some (.int .i64 ((rd_TIns (rd_LIns l0 a1) (ji13)).f3)) ∧ w'.cell? ⟨(ad291.add (((ji13)).toNat * 6)).block, (ad291.add (((ji13)).toNat * 6)).off + 4, none⟩ = some (.string ((rd_TIns (rd_LIns l0 a1) (ji13)).f4)) ∧ w'.cell? ⟨(ad291.add (((ji13)).toNat * 6)).block, (ad291.add (((ji13)).toNat * 6)).off + 5, none⟩ = some (.slice A291_5 ((rd_TIns (rd_LIns l0 a1) (ji13)).f5).length c291_5)) (ds := []) #[false, false, false, false, false, false, false, false, false, false, false, false, false, false] (by kernel_rfl) rfl rfl ⟨((HB.out.cell (World.block_lt_of_cell? w _ hw289_0)).trans hw289_0), ((HB.out.cell (World.block_lt_of_cell? w _ hw290_0)).trans hw290_0), ((HB.out.cell (World.block_lt_of_cell? w _ hw291_0)).trans hw291_0), ((HB.out.cell (World.block_lt_of_cell? w _ hw291_1)).trans hw291_1), ((HB.out.cell (World.block_lt_of_cell? w _ hw291_2)).trans hw291_2), ((HB.out.cell (World.block_lt_of_cell? w _ hw291_3)).trans hw291_3), ((HB.out.cell (World.block_lt_of_cell? w _ hw291_4)).trans hw291_4), ((HB.out.cell (World.block_lt_of_cell? w _ hw291_5)).trans hw291_5)⟩ (fun hHeld => ?_); refine with_tabW cubbyref09_Succs.tab4 cubbyref09_Succs.bits4 (fun HT_ HW_ => ?_)
        generalize wc.drew = w17 at HO_5 HB HR289_0 HR290_0 HR291_5 hx289_0 hx290_0 hx291_0 hx291_1 hx291_2 hx291_3 hx291_4 hx291_5 hHeld ⊢
        refine pure_ (i := 0) (N := some 26) (v := ?_) (a' := ?_) #[true, false, false, false, false, false, false, false, false, false, false, false, false, false] rfl rfl (any_of HT_.out (by kernel_rfl)) (fun _ _ _ h => h) (Or.inl ⟨by rfl, ?_⟩) ?_ ?_
        rotate_left
        ·intro w'
         go_simp
         with_reducible rfl
        rotate_left
        ·simp only [Act.put, List.setIfInBounds_toArray, List.set_cons_zero, List.set_cons_succ, i64_w, i32_w]
         rfl
        refine pure_ (i := 1) (N := some 27) (v := ?_) (a' := ?_) #[true, true, false, false, false, false, false, false, false, false, false, false, false, false] rfl rfl (any_of HT_.out (by kernel_rfl)) (fun _ _ _ h => h) (Or.inl ⟨by rfl, ?_⟩) ?_ ?_
        rotate_left
        ·intro w'
         go_simp
         with_reducible rfl
        rotate_left
        ·simp only [Act.put, List.setIfInBounds_toArray, List.set_cons_zero, List.set_cons_succ, i64_w, i32_w]
         rfl
        refine pure_ (i := 2) (N := some 28) (v := ?_) (a' := ?_) #[true, true, true, false, false, false, false, false, false, false, false, false, false, false] rfl rfl (any_of HT_.out (by kernel_rfl)) (fun _ _ _ h => h) (Or.inl ⟨by rfl, ?_⟩) ?_ ?_
        rotate_left
        ·intro w'
         go_simp
         with_reducible rfl
        rotate_left
        ·simp only [Act.put, List.setIfInBounds_toArray, List.set_cons_zero, List.set_cons_succ, i64_w, i32_w]
         rfl
        refine pure_ (i := 4) (N := some 30) (v := ?_) (a' := ?_) #[true, true, true, false, true, false, false, false, false, false, false, false, false, false] rfl rfl (any_of HT_.out (by kernel_rfl)) (fun _ _ _ h => h) (Or.inl ⟨by rfl, ?_⟩) ?_ ?_
        rotate_left
        ·intro w'
         go_simp
         with_reducible rfl
        rotate_left
        ·simp only [Act.put, List.setIfInBounds_toArray, List.set_cons_zero, List.set_cons_succ, i64_w, i32_w]
         rfl
        refine pure_ (i := 5) (N := some 31) (v := ?_) (a' := ?_) #[true, true, true, false, true, true, false, false, false, false, false, false, false, false] rfl rfl (any_of HT_.out (by kernel_rfl)) (fun _ _ _ h => h) (Or.inl ⟨by rfl, ?_⟩) ?_ ?_
        rotate_left
        ·intro w'
         go_simp
         with_reducible rfl
        rotate_left
        ·simp only [Act.put, List.setIfInBounds_toArray, List.set_cons_zero, List.set_cons_succ, i64_w, i32_w]
         rfl
        refine pure_ (i := 6) (N := some 32) (v := ?_) (a' := ?_) #[true, true, true, false, true, true, true, false, false, false, false, false, false, false] rfl rfl (any_of HT_.out (by kernel_rfl)) (fun _ _ _ h => h) (Or.inl ⟨by rfl, ?_⟩) ?_ ?_
        rotate_left
        ·intro w'
         go_simp
         with_reducible rfl
        rotate_left
        ·simp only [Act.put, List.setIfInBounds_toArray, List.set_cons_zero, List.set_cons_succ, i64_w, i32_w]
         rfl
        refine take_ (i := 3) (N := some 29) (v := ?_) (a' := ?_) #[true, true, true, true, true, true, true, false, false, false, false, false, false, false] rfl rfl (take_ofW HT_.out HW_.out (by kernel_rfl)) (fun _ _ _ h => h) (Or.inl ⟨by rfl, ?_⟩) hHeld ?_ ?_
        rotate_left
        ·rintro w' ⟨s0, s1, s2, s3, s4, s5, s6, s7⟩
         go_simp
         with_reducible rfl
        rotate_left
        ·simp only [Act.put, List.setIfInBounds_toArray, List.set_cons_zero, List.set_cons_succ, i64_w, i32_w]
         rfl
        refine take_ (i := 7) (N := some 33) (v := ?_) (a' := ?_) #[true, true, true, true, true, true, true, true, false, false, false, false, false, false] rfl rfl (take_ofW HT_.out HW_.out (by kernel_rfl)) (fun _ _ _ h => h) (Or.inl ⟨by rfl, ?_⟩) hHeld ?_ ?_
        rotate_left
        ·rintro w' ⟨s0, s1, s2, s3, s4, s5, s6, s7⟩
         go_simp
         with_reducible rfl
        rotate_left
        ·simp only [Act.put, List.setIfInBounds_toArray, List.set_cons_zero, List.set_cons_succ, i64_w, i32_w]
         rfl
        refine pure_ (i := 8) (N := some 34) (v := ?_) (a' := ?_) #[true, true, true, true, true, true, true, true, true, false, false, false, false, false] rfl rfl (any_of HT_.out (by kernel_rfl)) (fun _ _ _ h => h) (Or.inl ⟨by rfl, ?_⟩) ?_ ?_
        rotate_left
        ·intro w'
         go_simp
         with_reducible rfl
        rotate_left
        ·simp only [Act.put, List.setIfInBounds_toArray, List.set_cons_zero, List.set_cons_succ, i64_w, i32_w]
         rfl
        refine pure_ (i := 9) (N := some 35) (v := ?_) (a' := ?_) #[true, true, true, true, true, true, true, true, true, true, false, false, false, false] rfl rfl (any_of HT_.out (by kernel_rfl)) (fun _ _ _ h => h) (Or.inl ⟨by rfl, ?_⟩) ?_ ?_
        rotate_left
        ·intro w'
         go_simp
         with_reducible rfl
        rotate_left
        ·simp only [Act.put, List.setIfInBounds_toArray, List.set_cons_zero, List.set_cons_succ, i64_w, i32_w]
         rfl
        refine pure_ (i := 10) (N := some 36) (v := ?_) (a' := ?_) #[true, true, true, true, true, true, true, true, true, true, true, false, false, false] rfl rfl (any_of HT_.out (by kernel_rfl)) (fun _ _ _ h => h) (Or.inl ⟨by rfl, ?_⟩) ?_ ?_
        rotate_left
        ·intro w'
         go_simp
         with_reducible rfl
        rotate_left
        ·simp only [Act.put, List.setIfInBounds_toArray, List.set_cons_zero, List.set_cons_succ, i64_w, i32_w]
         rfl
        refine take_ (i := 11) (N := some 37) (v := ?_) (a' := ?_) #[true, true, true, true, true, true, true, true, true, true, true, true, false, false] rfl rfl (take_ofW HT_.out HW_.out (by kernel_rfl)) (fun _ _ _ h => h) (Or.inl ⟨by rfl, ?_⟩) hHeld ?_ ?_
        rotate_left
        ·rintro w' ⟨s0, s1, s2, s3, s4, s5, s6, s7⟩
         go_simp
         with_reducible rfl
        rotate_left
        ·simp only [Act.put, List.setIfInBounds_toArray, List.set_cons_zero, List.set_cons_succ, i64_w, i32_w]
         rfl
        refine one_ (i := 12) (N := some 38) #[true, true, true, true, true, true, true, true, true, true, true, true, true, false] rfl rfl (one_of HT_.out (by kernel_rfl)) (by decide) (fun K hK => ?_)
        refine goes_ Tryd.func70 (by kernel_rfl) rfl #[.agg #[.int .i64 ((rd_TIns (rd_LIns l0 a1) (ji13)).f0), .int .i64 ((rd_TIns (rd_LIns l0 a1) (ji13)).f1), .int .i64 ((rd_TIns (rd_LIns l0 a1) (ji13)).f2), .int .i64 ((rd_TIns (rd_LIns l0 a1) (ji13)).f3), .string ((rd_TIns (rd_LIns l0 a1) (ji13)).f4), .slice A291_5 ((rd_TIns (rd_LIns l0 a1) (ji13)).f5).length c291_5]] (by rfl) rfl rfl (by (try simp only [List.map_toArray, List.map_cons, List.map_nil]); first | done | (simp only [hji13]; rfl) | rfl | (simp only [List.length_drop, List.length_take]; rfl)) ?_
        with_reducible refine (cubbyref07_Targets.calls ((rd_TIns (rd_LIns l0 a1) (ji13)).f0) ((rd_TIns (rd_LIns l0 a1) (ji13)).f1) ((rd_TIns (rd_LIns l0 a1) (ji13)).f2) ((rd_TIns (rd_LIns l0 a1) (ji13)).f3) ((rd_TIns (rd_LIns l0 a1) (ji13)).f4) _ _ ((rd_TIns (rd_LIns l0 a1) (ji13)).f5) t292 _ ?side1 ?side2 A16.out).mono ?_
        (case side1 => exact qCB HR291_5.out)
        (case side2 => exact HC291_5.out)
        rintro e w18 ⟨v293, rfl, ho0, hb⟩
        refine ⟨_, rfl, ?_⟩
        have n0_ := Aside0.mk (Kd.R_elder' (qR HO_5.out) (Kd.R_base ho0) hb)
        have n1_ := Aside0.mk (Kd.R_lower (Kd.R_new' ho0 (Kd.R_lt (qR HO_5.out))) (below_size qB))
        have n2_ := qH hb
        clear HO_5
        clear HB
        have HO_5 := n0_
        have HO294 := n1_
        have HB := n2_
        clear n0_ n1_ n2_
        (try clear hb)
        (try clear hb2)
        (try clear hk)
        (try clear hi)
        (try clear ho0)
        refine hK.out _ _ ⟨((HB.out.cell (World.block_lt_of_cell? w _ hw289_0)).trans hw289_0), ((HB.out.cell (World.block_lt_of_cell? w _ hw290_0)).trans hw290_0), ((HB.out.cell (World.block_lt_of_cell? w _ hw291_0)).trans hw291_0), ((HB.out.cell (World.block_lt_of_cell? w _ hw291_1)).trans hw291_1), ((HB.out.cell (World.block_lt_of_cell? w _ hw291_2)).trans hw291_2), ((HB.out.cell (World.block_lt_of_cell? w _ hw291_3)).trans hw291_3), ((HB.out.cell (World.block_lt_of_cell? w _ hw291_4)).trans hw291_4), ((HB.out.cell (World.block_lt_of_cell? w _ hw291_5)).trans hw291_5)⟩ (fun hHeld => ?_)
        clear hK K
        refine norm_ (a' := ?_) ?_ ?_
        rotate_left
        ·show Act.put _ (some 38) _ = _
         simp only [Act.put, List.setIfInBounds_toArray, List.set_cons_zero, List.set_cons_succ, i64_w, i32_w]
         rfl
        refine pure_ (i := 13) (N := some 6) (v := ?_) (a' := ?_) #[true, true, true, true, true, true, true, true, true, true, true, true, true, true] rfl rfl (any_of HT_.out (by kernel_rfl)) (fun _ _ _ h => h) (Or.inl ⟨by rfl, ?_⟩) ?_ ?_
        rotate_left
        ·intro w'
         go_simp
         with_reducible rfl
        rotate_left
        ·simp only [Act.put, List.setIfInBounds_toArray, List.set_cons_zero, List.set_cons_succ, i64_w, i32_w]
         rfl
        refine done_ (done_of HT_.out (by kernel_rfl)) ?_
        try go_wp2
        go_loopg [5, 7] kj2 (fun kq v5 v7 w' => ∃ (x5_2 : List Int) (x7_2 : Int), v7 = .int .i64 x7_2 ∧ Aside0 (cubbyref09_Succs.l0 kq l0 x5_2 t292 x7_2 = some r) ∧ Aside0 (kq ≤ kj2) ∧ Aside0 (Kd.R (Kd.int .i64) 3 w' w.heap.size (fun k_ => some k_ ≠ (v293 : Value).ownBlock) v5 x5_2) ∧ Aside0 (Kd.R (Kd.int .i64) 3 w' w.heap.size (fun k_ => some k_ ≠ (v5 : Value).ownBlock) v293 t292) ∧ Aside0 (Below w.heap.size w w'))
        case atStart => exact ⟨(y285), (0), qT, H', ⟨Nat.le_refl _⟩, ⟨by (with_reducible repeat (first | apply Kd.R_alloc | apply Kd.R_drewN | apply Kd.R_drew)); exact Kd.R_mono HO_5.out (fun _ hk => hk.2)⟩, ⟨by (with_reducible repeat (first | apply Kd.R_alloc | apply Kd.R_drewN | apply Kd.R_drew)); exact Kd.R_mono HO294.out (fun _ hk => hk.2)⟩, ⟨qB⟩⟩
        case round =>
         clear H'
         try clear c1; try clear c2; try clear p2; try clear q2; try clear hx2; try clear c6; try clear c6b0; try clear p6; try clear c7; try clear c7b0; try clear c8; try clear c8b0; try clear c9; try clear c9b0; try clear c10; try clear c11; try clear c11b0; try clear c12; try clear c12b0; try clear c14; try clear c14b0; try clear c15; try clear c15b0; try clear hx288_0; try clear hx289_0; try clear hx290_0; try clear hx291_0; try clear hx291_1; try clear hx291_2; try clear hx291_3; try clear hx291_4; try clear hx291_5; try clear p288; try clear p289; try clear p290; try clear p291; try clear q288; try clear q289; try clear q290; try clear q291
         obtain ⟨x5_2, x7_2, rfl, HA, HK2, HO_5, HO_6, HB⟩ := hrel
         cases gk with
         | zero => exact absurd HA.out (by simp [cubbyref09_Succs.l0])
         | succ k2 =>
          have H := HA.out
          clear HA
          simp only [cubbyref09_Succs.l0] at H
          by_cases c19 : x7_2 < (t292.length : Int)
          ·rw [if_pos c19] at H
           have c19b0 := decide_eq_true c19
           clear c19
           by_cases c20 : 0 ≤ x7_2
           ·rw [if_pos c20] at H
            have c20b0 := decide_eq_true c20
            clear c20
            by_cases c21 : (rd t292 x7_2) ≥ 0
            ·rw [if_pos c21] at H
             have c21b0 : decide (0 ≤ (rd t292 x7_2)) = true := decide_eq_true c21
             clear c21
             by_cases c22 : (rd t292 x7_2) < (l0.length : Int)
             ·rw [if_pos c22] at H
              have c22b0 := decide_eq_true c22
              clear c22
              replace H := qb H; obtain ⟨t298, A23, H⟩ := H
              by_cases c24 : t298 = true
              ·subst c24
               have H1 : (cubbyref09_Succs.l0 k2 l0 x5_2 t292 (wrap64 (x7_2 + 1))) = some r := by rw [if_pos rfl] at H; exact H
               clear H
               have H := H1
               clear H1
               have H' := Aside0.mk H
               clear H
               obtain ⟨Ao25, co25, eo25⟩ := Kd.R_slice HO_6.out
               subst eo25
               have p295 : 0 ≤ (x7_2 : Int) := of_decide_eq_true qA
               have q295 : x7_2 < (t292.length : Int) := of_decide_eq_true qA
               obtain ⟨ad295, e295, hx295_0⟩ := Kd.at_int (Kd.R_reads' HO_6.out).2.2 x7_2 p295 q295
               cases e295
               replace p295 := eq_true p295
               replace q295 := eq_true q295
               have p296 : 0 ≤ (x7_2 : Int) := of_decide_eq_true qA
               have q296 : x7_2 < (t292.length : Int) := of_decide_eq_true qA
               obtain ⟨ad296, e296, hx296_0⟩ := Kd.at_int (Kd.R_reads' HO_6.out).2.2 x7_2 p296 q296
               obtain rfl : ad295 = ad296 := (by injection e296)
               replace p296 := eq_true p296
               replace q296 := eq_true q296
               have p297 : 0 ≤ (x7_2 : Int) := of_decide_eq_true qA
               have q297 : x7_2 < (t292.length : Int) := of_decide_eq_true qA
               obtain ⟨ad297, e297, hx297_0⟩ := Kd.at_int (Kd.R_reads' HO_6.out).2.2 x7_2 p297 q297
               obtain rfl : ad295 = ad297 := (by injection e297)
               replace p297 := eq_true p297
               replace q297 := eq_true q297
               obtain ⟨Ao26, co26, eo26⟩ := Kd.R_slice HO_5.out
               subst eo26
               go_wp2_with (first | (go_at_call 98; (with_reducible refine (cubbyref09_has.calls k2 _ _ x5_2 (rd t292 x7_2) true _ ?side1 ?side2 A23.out).mono ?_); (case side1 => repeat (first | exact (Kd.R_reads' HO_5.out).2.2 | (with_reducible refine Kd.C_alloc ?_ _) | (with_reducible refine Kd.C_drewN ?_ _) | (with_reducible refine Kd.C_drew ?_))); (case side2 => exact (Kd.R_reads' HO_5.out).2.1); (try clear A23); rintro e w' ⟨rfl, ⟨nd, rfl⟩⟩))
               go_roundg k2
               case measure => have := HJ2.out; have := HK2.out; omega
               case rel => exact ⟨(x5_2), (wrap64 (x7_2 + 1)), qT, H', ⟨by have := HJ2.out; have := HK2.out; omega⟩, ⟨qR HO_5.out⟩, ⟨qR HO_6.out⟩, ⟨qB⟩⟩
              ·replace c24 := Bool.eq_false_iff.mpr c24
               subst c24
               have H1 : (if x5_2.length < 17592186044416 then (cubbyref09_Succs.l0 k2 l0 (x5_2 ++ [rd t292 x7_2]) t292 (wrap64 (x7_2 + 1))) else (none)) = some r := by rw [if_neg (show ¬ (false = true) by decide)] at H; exact H
               clear H
               have H := H1
               clear H1
               by_cases c27 : x5_2.length < 17592186044416
               ·rw [if_pos c27] at H
                have LMc27 := Aside0.mk c27
                clear c27
                obtain ⟨y300, hy300⟩ : ∃ y_ : List Int, y_ = (x5_2 ++ [rd t292 x7_2]) := ⟨_, rfl⟩
                replace H : (cubbyref09_Succs.l0 k2 l0 y300 t292 (wrap64 (x7_2 + 1))) = some r := by first | (rw [hy300]; with_reducible exact H) | (have H2_ := (Option.bind_some _ _).symm.trans H; rw [hy300]; with_reducible exact H2_) | (have H2_ := (Option.bind_some _ _).symm.trans H; with_reducible exact H2_) | with_reducible exact H | (rw [hy300]; exact H) | exact H
                have Ny300 := Aside0.mk hy300
                clear hy300
                have H' := Aside0.mk H
                clear H
                obtain ⟨Ao28, co28, eo28⟩ := Kd.R_slice HO_6.out
                subst eo28
                have p295 : 0 ≤ (x7_2 : Int) := of_decide_eq_true qA
                have q295 : x7_2 < (t292.length : Int) := of_decide_eq_true qA
                obtain ⟨ad295, e295, hx295_0⟩ := Kd.at_int (Kd.R_reads' HO_6.out).2.2 x7_2 p295 q295
                cases e295
                replace p295 := eq_true p295
                replace q295 := eq_true q295
                have p296 : 0 ≤ (x7_2 : Int) := of_decide_eq_true qA
                have q296 : x7_2 < (t292.length : Int) := of_decide_eq_true qA
                obtain ⟨ad296, e296, hx296_0⟩ := Kd.at_int (Kd.R_reads' HO_6.out).2.2 x7_2 p296 q296
                obtain rfl : ad295 = ad296 := (by injection e296)
                replace p296 := eq_true p296
                replace q296 := eq_true q296
                have p297 : 0 ≤ (x7_2 : Int) := of_decide_eq_true qA
                have q297 : x7_2 < (t292.length : Int) := of_decide_eq_true qA
                obtain ⟨ad297, e297, hx297_0⟩ := Kd.at_int (Kd.R_reads' HO_6.out).2.2 x7_2 p297 q297
                obtain rfl : ad295 = ad297 := (by injection e297)
                replace p297 := eq_true p297
                replace q297 := eq_true q297
                obtain ⟨Ao29, co29, eo29⟩ := Kd.R_slice HO_5.out
                subst eo29
                go_wp2_with (first | (go_at_call 98; (with_reducible refine (cubbyref09_has.calls k2 _ _ x5_2 (rd t292 x7_2) false _ ?side1 ?side2 A23.out).mono ?_); (case side1 => repeat (first | exact (Kd.R_reads' HO_5.out).2.2 | (with_reducible refine Kd.C_alloc ?_ _) | (with_reducible refine Kd.C_drewN ?_ _) | (with_reducible refine Kd.C_drew ?_))); (case side2 => exact (Kd.R_reads' HO_5.out).2.1); (try clear A23); rintro e w' ⟨rfl, ⟨nd, rfl⟩⟩; have p299 : 0 ≤ (x7_2 : Int) := of_decide_eq_true qA; have q299 : x7_2 < (t292.length : Int) := of_decide_eq_true qA; obtain ⟨ad299, e299, hx299_0⟩ := Kd.at_int (Kd.R_reads' HO_6.out).2.2 x7_2 p299 q299; obtain rfl : ad295 = ad299 := (by injection e299); replace p299 := eq_true p299; replace q299 := eq_true q299) | ((with_reducible refine gate_builtin (b := .append) (xs := #[.tmp 68, .tmp 73]) rfl ?_); (try (refine gate_guard (by rfl) ?_; dsimp only)); at_builtin; refine Kd.R_append (Kd.int .i64) (w0 := w) w.heap.size rfl (.tmp 68) (.tmp 73) 29 3 (.int .i64 0) 8 rfl Tryd.underlying29 info3 rfl (by decide) (by omega) (.slice Ao29 x5_2.length co29) x5_2 (rd t292 x7_2) [.int .i64 (rd t292 x7_2)] (fun k_ => some k_ ≠ (.slice (some ad295) t292.length co28 : Value).ownBlock) (fun _ => False) rfl rfl ?aP (fun _ hk => hk.elim) ?aF ?aO ?aB ?aS ?aL ?_; (case aP => exact rfl); (case aB => exact qB); (case aF => exact (fun k_ hk => Kd.fresh' (Kd.R_lt (qR HO_6.out)) k_ hk)); (case aO => exact (qR HO_5.out)); (case aS => exact (below_size qB)); (case aL => have := LMc27.out; omega); intro v301 w30 ho hb hg hat; rw [← Ny300.out] at ho; replace HO_6 := Aside0.mk (Kd.R_after (ok := (fun _ => True)) (by (with_reducible repeat (first | apply Kd.R_alloc | apply Kd.R_drewN | apply Kd.R_drew)); exact Kd.R_mono HO_6.out (fun _ hk => ⟨trivial, hk⟩)) hg hat); replace HB := Aside0.mk (hb); have HO302 := Aside0.mk (ho); clear HO_5; clear ho hb hg hat))
                go_roundg k2
                case measure => have := HJ2.out; have := HK2.out; omega
                case rel => exact ⟨(y300), (wrap64 (x7_2 + 1)), qT, H', ⟨by have := HJ2.out; have := HK2.out; omega⟩, ⟨qR HO302.out⟩, ⟨by (with_reducible repeat (first | apply Kd.R_alloc | apply Kd.R_drewN | apply Kd.R_drew)); exact Kd.R_mono HO_6.out (fun _ hk => hk.2)⟩, ⟨qB⟩⟩
               ·rw [if_neg c27] at H
                exact absurd H (by simp)
             ·rw [if_neg c22] at H
              have c22b0 := decide_eq_false c22
              clear c22
              have H' := Aside0.mk H
              clear H
              obtain ⟨Ao31, co31, eo31⟩ := Kd.R_slice HO_6.out
              subst eo31
              have p295 : 0 ≤ (x7_2 : Int) := of_decide_eq_true qA
              have q295 : x7_2 < (t292.length : Int) := of_decide_eq_true qA
              obtain ⟨ad295, e295, hx295_0⟩ := Kd.at_int (Kd.R_reads' HO_6.out).2.2 x7_2 p295 q295
              cases e295
              replace p295 := eq_true p295
              replace q295 := eq_true q295
              have p296 : 0 ≤ (x7_2 : Int) := of_decide_eq_true qA
              have q296 : x7_2 < (t292.length : Int) := of_decide_eq_true qA
              obtain ⟨ad296, e296, hx296_0⟩ := Kd.at_int (Kd.R_reads' HO_6.out).2.2 x7_2 p296 q296
              obtain rfl : ad295 = ad296 := (by injection e296)
              replace p296 := eq_true p296
              replace q296 := eq_true q296
              go_wp2
              go_roundg k2
              case measure => have := HJ2.out; have := HK2.out; omega
              case rel => exact ⟨(x5_2), (wrap64 (x7_2 + 1)), qT, H', ⟨by have := HJ2.out; have := HK2.out; omega⟩, ⟨qR HO_5.out⟩, ⟨qR HO_6.out⟩, ⟨qB⟩⟩
            ·rw [if_neg c21] at H
             have c21b0 : decide (0 ≤ (rd t292 x7_2)) = false := decide_eq_false c21
             clear c21
             have H' := Aside0.mk H
             clear H
             obtain ⟨Ao32, co32, eo32⟩ := Kd.R_slice HO_6.out
             subst eo32
             have p295 : 0 ≤ (x7_2 : Int) := of_decide_eq_true qA
             have q295 : x7_2 < (t292.length : Int) := of_decide_eq_true qA
             obtain ⟨ad295, e295, hx295_0⟩ := Kd.at_int (Kd.R_reads' HO_6.out).2.2 x7_2 p295 q295
             cases e295
             replace p295 := eq_true p295
             replace q295 := eq_true q295
             go_wp2
             go_roundg k2
             case measure => have := HJ2.out; have := HK2.out; omega
             case rel => exact ⟨(x5_2), (wrap64 (x7_2 + 1)), qT, H', ⟨by have := HJ2.out; have := HK2.out; omega⟩, ⟨qR HO_5.out⟩, ⟨qR HO_6.out⟩, ⟨qB⟩⟩
           ·rw [if_neg c20] at H
            exact absurd H (by simp)
          ·rw [if_neg c19] at H
           have c19b0 := decide_eq_false c19
           clear c19
           obtain rfl := Option.some.inj H
           obtain ⟨Ao33, co33, eo33⟩ := Kd.R_slice HO_6.out
           subst eo33
           go_wp2
           go_ret
           exact ⟨_, by first | rfl | (simp [errW_none, errW_some] <;> rfl) | (simp only [← hji13]; first | rfl | (simp [errW_none, errW_some] <;> rfl)) | (simp [*, errW_none, errW_some] <;> rfl), by (with_reducible repeat (first | apply Kd.R_alloc | apply Kd.R_drewN | apply Kd.R_drew)); exact Kd.R_mono HO_5.out (fun _ hk => trivial), qB⟩
       ·rw [if_neg c15] at H
        exact absurd H (by simp)
      ·rw [if_neg c14] at H
       exact absurd H (by simp)
     ·rw [if_neg c12] at H
      exact absurd H (by simp)
    ·rw [if_neg c11] at H
     exact absurd H (by simp)

end Go.Proofs.YtebnnknijbgekaaDoor.Q
namespace Go.Proofs.YtebnnknijbgekaaDoor.Q
open Go.RowKit Go.Proofs.YtebnnknijbgekaaDoorW.PrintWords Go.Proofs.YtebnnknijbgekaaDoorW.PrintLast Go.Proofs.YtebnnknijbgekaaDoorW.PrintMore
attribute [local go_sem] max2_int min2_int max_two min_two max_three min_three max_four min_four   -- for this text's walks alone
set_option linter.unusedVariables false
set_option linter.unusedSimpArgs false

/-! ### cubbyref11_has: function 105 -/
def cubbyref11_has.l0 : Nat → List Int → Int → Int → Option (Bool)
 | 0, _, _, _ => none
 | k + 1, x0, x1, x5 => if x5 < (x0.length : Int) then (if 0 ≤ x5 then (if (rd x0 x5) = x1 then (some true) else (cubbyref11_has.l0 k x0 x1 (wrap64 (x5 + 1)))) else (none)) else (some false)
def cubbyref11_has.f (k : Nat) (l0 : List Int) (a1 : Int) : Option (Bool) := cubbyref11_has.l0 k l0 a1 0
theorem cubbyref11_has.mono_l : ∀ k, (∀ y0 y1 y2, LeO (cubbyref11_has.l0 k y0 y1 y2) (cubbyref11_has.l0 (k + 1) y0 y1 y2))
 | 0 => fun _ _ _ r h => by simp [cubbyref11_has.l0] at h
 | k + 1 => by
  have ih0 := cubbyref11_has.mono_l k
  ·intro y0 y1 y2
   unfold cubbyref11_has.l0
   repeat' first | (with_reducible exact ih0 _ _ _) | (with_reducible exact LeO.refl _) | (with_reducible exact LeO.none _) | (with_reducible refine LeO.ite ?_ ?_) | (with_reducible refine LeO.bind ?_ (fun _ => ?_)) | exact LeO.none _ | refine LeO.ite ?_ ?_ | refine LeO.bind ?_ (fun _ => ?_)
theorem cubbyref11_has.mono : ∀ a0 a1 k, LeO (cubbyref11_has.f k a0 a1) (cubbyref11_has.f (k + 1) a0 a1) := by
 intro a0 a1 k
 have ih0 := cubbyref11_has.mono_l k
 unfold cubbyref11_has.f
 repeat' first | (with_reducible exact ih0 _ _ _) | (with_reducible exact LeO.refl _) | (with_reducible exact LeO.none _) | (with_reducible refine LeO.ite ?_ ?_) | (with_reducible refine LeO.bind ?_ (fun _ => ?_)) | exact LeO.none _ | refine LeO.ite ?_ ?_ | refine LeO.bind ?_ (fun _ => ?_)
set_option maxHeartbeats 8000000 in
set_option maxRecDepth 100000 in
theorem cubbyref11_has.calls (k : Nat) (A0 : Option Addr) (c0 : Nat) (l0 : List Int) (a1 : Int) (r : Bool) (w : World) (hr0 : Kd.C (Kd.int .i64) w A0 l0.length l0) (hc0 : l0.length ≤ c0) (h : cubbyref11_has.f k l0 a1 = some r) :
  Calls Tryd.prog 105 #[.slice A0 l0.length c0, .int .i64 a1] w fun e w' => e = .returned (.bool r) ∧ Drawn0 w w' := by
 have HR0 := Aside0.mk hr0
 have HC0 := Aside0.mk hc0
 clear hr0 hc0
 have H := h; clear h; unfold cubbyref11_has.f at H
 have H' := Aside0.mk H
 clear H
 go_enter Tryd.func105, Tryd.ntmps105
 go_wp2
 go_loopg [5] k (fun kq v5 w' => ∃ (x5_1 : Int), v5 = .int .i64 x5_1 ∧ Aside0 (cubbyref11_has.l0 kq l0 a1 x5_1 = some r) ∧ Aside0 (kq ≤ k) ∧ Drawn0 w w')
 case atStart => exact ⟨(0), qT, H', ⟨Nat.le_refl _⟩, qD⟩
 case round =>
  clear H'
  try clear c1; try clear p2
  obtain ⟨x5_1, rfl, HA, HK1, ⟨m1, rfl⟩⟩ := hrel
  cases gk with
  | zero => exact absurd HA.out (by simp [cubbyref11_has.l0])
  | succ k1 =>
   have H := HA.out
   clear HA
   simp only [cubbyref11_has.l0] at H
   by_cases c3 : x5_1 < (l0.length : Int)
   ·rw [if_pos c3] at H
    have c3b0 := decide_eq_true c3
    clear c3
    by_cases c4 : 0 ≤ x5_1
    ·rw [if_pos c4] at H
     have c4b0 := decide_eq_true c4
     clear c4
     by_cases c5 : (rd l0 x5_1) = a1
     ·rw [if_pos c5] at H
      obtain ⟨c5b0, c5b1⟩ := qe c5; clear c5
      obtain rfl := Option.some.inj H
      have p303 : 0 ≤ (x5_1 : Int) := of_decide_eq_true qA
      have q303 : x5_1 < (l0.length : Int) := of_decide_eq_true qA
      obtain ⟨ad303, e303, hx303_0⟩ := Kd.at_int HR0.out x5_1 p303 q303
      cases e303
      replace p303 := eq_true p303
      replace q303 := eq_true q303
      go_wp2
      go_ret
      exact ⟨by first | rfl | (simp; done) | (simp [*]; done), qD⟩
     ·rw [if_neg c5] at H
      obtain ⟨c5b0, c5b1⟩ := qn c5
      have H' := Aside0.mk H
      clear H
      have p303 : 0 ≤ (x5_1 : Int) := of_decide_eq_true qA
      have q303 : x5_1 < (l0.length : Int) := of_decide_eq_true qA
      obtain ⟨ad303, e303, hx303_0⟩ := Kd.at_int HR0.out x5_1 p303 q303
      cases e303
      replace p303 := eq_true p303
      replace q303 := eq_true q303
      go_wp2
      go_roundg k1
      case measure => have := HK1.out; omega
      case rel => exact ⟨(wrap64 (x5_1 + 1)), qT, H', ⟨by have := HK1.out; omega⟩, qD⟩
    ·rw [if_neg c4] at H
     exact absurd H (by simp)
   ·rw [if_neg c3] at H
    have c3b0 := decide_eq_false c3
    clear c3
    obtain rfl := Option.some.inj H
    go_wp2
    go_ret
    exact ⟨by first | rfl | (simp; done) | (simp [*]; done), qD⟩

end Go.Proofs.YtebnnknijbgekaaDoor.Q
namespace Go.Proofs.YtebnnknijbgekaaDoor.Q
open Go.RowKit Go.Proofs.YtebnnknijbgekaaDoorW.PrintWords Go.Proofs.YtebnnknijbgekaaDoorW.PrintLast Go.Proofs.YtebnnknijbgekaaDoorW.PrintMore
attribute [local go_sem] max2_int min2_int max_two min_two max_three min_three max_four min_four   -- for this text's walks alone
set_option linter.unusedVariables false
set_option linter.unusedSimpArgs false

/-! ### cubbyref11_union: function 97 -/
def cubbyref11_union.l0 : Nat → List Int → List Int → Int → List Int → Int → Option (List Int)
 | 0, _, _, _, _, _ => none
 | k + 1, x0, x1, x2, x7, x8 => if x8 < x2 then ((cubbyref11_has.f k x0 x8).bind fun t307 => (if t307 = true then (if x7.length < 17592186044416 then (cubbyref11_union.l0 k x0 x1 x2 (x7 ++ [x8]) (wrap64 (x8 + 1))) else (none)) else ((cubbyref11_has.f k x1 x8).bind fun t311 => (if t311 = true then (if x7.length < 17592186044416 then (cubbyref11_union.l0 k x0 x1 x2 (x7 ++ [x8]) (wrap64 (x8 + 1))) else (none)) else (cubbyref11_union.l0 k x0 x1 x2 x7 (wrap64 (x8 + 1))))))) else (some x7)
def cubbyref11_union.f (k : Nat) (l0 : List Int) (l1 : List Int) (a2 : Int) : Option (List Int) := cubbyref11_union.l0 k l0 l1 a2 (([] : List Int)) 0
theorem cubbyref11_union.mono_l : ∀ k, (∀ y0 y1 y2 y3 y4, LeO (cubbyref11_union.l0 k y0 y1 y2 y3 y4) (cubbyref11_union.l0 (k + 1) y0 y1 y2 y3 y4))
 | 0 => fun _ _ _ _ _ r h => by simp [cubbyref11_union.l0] at h
 | k + 1 => by
  have ih0 := cubbyref11_union.mono_l k
  ·intro y0 y1 y2 y3 y4
   unfold cubbyref11_union.l0
   repeat' first | (with_reducible exact ih0 _ _ _ _ _) | (with_reducible exact cubbyref11_has.mono _ _ _) | (with_reducible exact LeO.refl _) | (with_reducible exact LeO.none _) | (with_reducible refine LeO.ite ?_ ?_) | (with_reducible refine LeO.bind ?_ (fun _ => ?_)) | exact LeO.none _ | refine LeO.ite ?_ ?_ | refine LeO.bind ?_ (fun _ => ?_)
theorem cubbyref11_union.mono : ∀ a0 a1 a2 k, LeO (cubbyref11_union.f k a0 a1 a2) (cubbyref11_union.f (k + 1) a0 a1 a2) := by
 intro a0 a1 a2 k
 have ih0 := cubbyref11_union.mono_l k
 unfold cubbyref11_union.f
 repeat' first | (with_reducible exact ih0 _ _ _ _ _) | (with_reducible exact cubbyref11_has.mono _ _ _) | (with_reducible exact LeO.refl _) | (with_reducible exact LeO.none _) | (with_reducible refine LeO.ite ?_ ?_) | (with_reducible refine LeO.bind ?_ (fun _ => ?_)) | exact LeO.none _ | refine LeO.ite ?_ ?_ | refine LeO.bind ?_ (fun _ => ?_)
set_option maxHeartbeats 8000000 in
set_option maxRecDepth 100000 in
theorem cubbyref11_union.calls (k : Nat) (A0 : Option Addr) (c0 : Nat) (l0 : List Int) (A1 : Option Addr) (c1 : Nat) (l1 : List Int) (a2 : Int) (r : List Int) (w : World) (hr0 : Kd.C (Kd.int .i64) w A0 l0.length l0) (hc0 : l0.length ≤ c0) (hr1 : Kd.C (Kd.int .i64) w A1 l1.length l1) (hc1 : l1.length ≤ c1) (h : cubbyref11_union.f k l0 l1 a2 = some r) :
  Calls Tryd.prog 97 #[.slice A0 l0.length c0, .slice A1 l1.length c1, .int .i64 a2] w fun e w' => ∃ v0_ : Value, e = .returned (v0_) ∧ Kd.R (Kd.int .i64) 3 w' w.heap.size (fun _ => True) v0_ r ∧ Below w.heap.size w w' := by
 have HR0 := Aside0.mk hr0
 have HC0 := Aside0.mk hc0
 clear hr0 hc0
 have HR1 := Aside0.mk hr1
 have HC1 := Aside0.mk hc1
 clear hr1 hc1
 have HB := Aside0.mk (Below.refl w.heap.size w)
 have H := h; clear h; unfold cubbyref11_union.f at H
 obtain ⟨y304, hy304⟩ : ∃ y_ : List Int, y_ = (([] : List Int)) := ⟨_, rfl⟩
 replace H : (cubbyref11_union.l0 k l0 l1 a2 y304 0) = some r := by first | (rw [hy304]; with_reducible exact H) | (have H2_ := (Option.bind_some _ _).symm.trans H; rw [hy304]; with_reducible exact H2_) | (have H2_ := (Option.bind_some _ _).symm.trans H; with_reducible exact H2_) | with_reducible exact H | (rw [hy304]; exact H) | exact H
 have Ny304 := Aside0.mk hy304
 clear hy304
 have H' := Aside0.mk H
 clear H
 go_enter Tryd.func97, Tryd.ntmps97
 go_wp2_with (first | ((with_reducible refine gate_dst (N := 9) rfl ?_); refine Kd.R_lit (Kd.int .i64) _ 3 (by rfl) (N := 9) (by rfl) (xs := ([] : List Int)) (inner := []) (ok := fun _ => True) (okp := fun _ => True) ?hr ?hp (fun _ hk => hk) trivial (Below.refl _ _) (Nat.le_refl _) (by simp) ?_; (case hr => first | (go_simp; done) | (go_simp; rfl)); (case hp => exact (Reps.none _ _)); intro v305 w4 ho5 hb hg_ hnew_; clear hg_ hnew_; (first | rw [← Ny304.out] at ho5 | (simp only [Int.reduceToNat] at ho5; rw [← Ny304.out] at ho5)); have HO306 := Aside0.mk (Kd.R_lower ho5 (below_size qB)); replace HB := qH hb; clear hb ho5))
 go_loopg [7, 8] k (fun kq v7 v8 w' => ∃ (x7_1 : List Int) (x8_1 : Int), v8 = .int .i64 x8_1 ∧ Aside0 (cubbyref11_union.l0 kq l0 l1 a2 x7_1 x8_1 = some r) ∧ Aside0 (kq ≤ k) ∧ Aside0 (Kd.R (Kd.int .i64) 3 w' w.heap.size (fun _ => True) v7 x7_1) ∧ Aside0 (Below w.heap.size w w'))
 case atStart => exact ⟨(y304), (0), qT, H', ⟨Nat.le_refl _⟩, ⟨qR HO306.out⟩, ⟨qB⟩⟩
 case round =>
  clear H'
  try clear c1; try clear p2
  obtain ⟨x7_1, x8_1, rfl, HA, HK1, HO_7, HB⟩ := hrel
  cases gk with
  | zero => exact absurd HA.out (by simp [cubbyref11_union.l0])
  | succ k1 =>
   have H := HA.out
   clear HA
   simp only [cubbyref11_union.l0] at H
   by_cases c6 : x8_1 < a2
   ·rw [if_pos c6] at H
    have c6b0 := decide_eq_true c6
    clear c6
    replace H := qb H; obtain ⟨t307, A7, H⟩ := H
    by_cases c8 : t307 = true
    ·subst c8
     have H1 : (if x7_1.length < 17592186044416 then (cubbyref11_union.l0 k1 l0 l1 a2 (x7_1 ++ [x8_1]) (wrap64 (x8_1 + 1))) else (none)) = some r := by rw [if_pos rfl] at H; exact H
     clear H
     have H := H1
     clear H1
     by_cases c9 : x7_1.length < 17592186044416
     ·rw [if_pos c9] at H
      have LMc9 := Aside0.mk c9
      clear c9
      obtain ⟨y308, hy308⟩ : ∃ y_ : List Int, y_ = (x7_1 ++ [x8_1]) := ⟨_, rfl⟩
      replace H : (cubbyref11_union.l0 k1 l0 l1 a2 y308 (wrap64 (x8_1 + 1))) = some r := by first | (rw [hy308]; with_reducible exact H) | (have H2_ := (Option.bind_some _ _).symm.trans H; rw [hy308]; with_reducible exact H2_) | (have H2_ := (Option.bind_some _ _).symm.trans H; with_reducible exact H2_) | with_reducible exact H | (rw [hy308]; exact H) | exact H
      have Ny308 := Aside0.mk hy308
      clear hy308
      have H' := Aside0.mk H
      clear H
      go_wp2_with (first | ((with_reducible refine gate_callee (f := 105) rfl ?_); refine goesL_ (some 17) rfl rfl Tryd.func105 (by kernel_rfl) rfl #[.slice A0 l0.length c0, .int .i64 x8_1] rfl qL ?_; (with_reducible refine (cubbyref11_has.calls k1 _ _ l0 x8_1 true _ ?side1 ?side2 A7.out).mono ?_); (case side1 => exact qCB HR0.out); (case side2 => exact HC0.out); rintro e w' ⟨rfl, ⟨nd, rfl⟩⟩; refine ⟨_, rfl, ?_⟩) | ((with_reducible refine gate_builtin (b := .append) (xs := #[.tmp 23, .tmp 25]) rfl ?_); at_builtin; refine Kd.R_append (Kd.int .i64) (w0 := w) w.heap.size rfl (.tmp 23) (.tmp 25) 29 3 (.int .i64 0) 8 rfl Tryd.underlying29 info3 rfl (by decide) (by omega) u7 x7_1 x8_1 [.int .i64 x8_1] (fun _ => True) (fun _ => False) rfl rfl ?aP (fun _ hk => hk.elim) ?aF ?aO ?aB ?aS ?aL ?_; (case aP => exact rfl); (case aB => exact qB); (case aF => exact (fun _ _ => trivial)); (case aO => exact (qR HO_7.out)); (case aS => exact (below_size qB)); (case aL => have := LMc9.out; omega); intro v309 w10 ho hb hg hat; rw [← Ny308.out] at ho; replace HB := Aside0.mk (hb); have HO310 := Aside0.mk (ho); clear HO_7; clear ho hb hg hat))
      go_roundg k1
      case measure => have := HK1.out; omega
      case rel => exact ⟨(y308), (wrap64 (x8_1 + 1)), qT, H', ⟨by have := HK1.out; omega⟩, ⟨qR HO310.out⟩, ⟨qB⟩⟩
     ·rw [if_neg c9] at H
      exact absurd H (by simp)
    ·replace c8 := Bool.eq_false_iff.mpr c8
     subst c8
     have H1 : ((cubbyref11_has.f k1 l1 x8_1).bind fun t311 => (if t311 = true then (if x7_1.length < 17592186044416 then (cubbyref11_union.l0 k1 l0 l1 a2 (x7_1 ++ [x8_1]) (wrap64 (x8_1 + 1))) else (none)) else (cubbyref11_union.l0 k1 l0 l1 a2 x7_1 (wrap64 (x8_1 + 1))))) = some r := by rw [if_neg (show ¬ (false = true) by decide)] at H; exact H
     clear H
     have H := H1
     clear H1
     replace H := qb H; obtain ⟨t311, A11, H⟩ := H
     by_cases c12 : t311 = true
     ·subst c12
      have H1 : (if x7_1.length < 17592186044416 then (cubbyref11_union.l0 k1 l0 l1 a2 (x7_1 ++ [x8_1]) (wrap64 (x8_1 + 1))) else (none)) = some r := by rw [if_pos rfl] at H; exact H
      clear H
      have H := H1
      clear H1
      by_cases c13 : x7_1.length < 17592186044416
      ·rw [if_pos c13] at H
       have LMc13 := Aside0.mk c13
       clear c13
       obtain ⟨y312, hy312⟩ : ∃ y_ : List Int, y_ = (x7_1 ++ [x8_1]) := ⟨_, rfl⟩
       replace H : (cubbyref11_union.l0 k1 l0 l1 a2 y312 (wrap64 (x8_1 + 1))) = some r := by first | (rw [hy312]; with_reducible exact H) | (have H2_ := (Option.bind_some _ _).symm.trans H; rw [hy312]; with_reducible exact H2_) | (have H2_ := (Option.bind_some _ _).symm.trans H; with_reducible exact H2_) | with_reducible exact H | (rw [hy312]; exact H) | exact H
       have Ny312 := Aside0.mk hy312
       clear hy312
       have H' := Aside0.mk H
       clear H
       go_wp2_with (first | ((with_reducible refine gate_callee (f := 105) rfl ?_); refine goesL_ (some 17) rfl rfl Tryd.func105 (by kernel_rfl) rfl #[.slice A0 l0.length c0, .int .i64 x8_1] rfl qL ?_; (with_reducible refine (cubbyref11_has.calls k1 _ _ l0 x8_1 false _ ?side1 ?side2 A7.out).mono ?_); (case side1 => exact qCB HR0.out); (case side2 => exact HC0.out); rintro e w' ⟨rfl, ⟨nd, rfl⟩⟩; refine ⟨_, rfl, ?_⟩) | (go_at_call 105; (with_reducible refine (cubbyref11_has.calls k1 _ _ l1 x8_1 true _ ?side1 ?side2 A11.out).mono ?_); (case side1 => repeat (first | exact (Kd.C_below HR1.out qB) | (with_reducible refine Kd.C_alloc ?_ _) | (with_reducible refine Kd.C_drewN ?_ _) | (with_reducible refine Kd.C_drew ?_))); (case side2 => exact HC1.out); (try clear A11); rintro e w' ⟨rfl, ⟨nd, rfl⟩⟩) | ((with_reducible refine gate_builtin (b := .append) (xs := #[.tmp 23, .tmp 25]) rfl ?_); at_builtin; refine Kd.R_append (Kd.int .i64) (w0 := w) w.heap.size rfl (.tmp 23) (.tmp 25) 29 3 (.int .i64 0) 8 rfl Tryd.underlying29 info3 rfl (by decide) (by omega) u7 x7_1 x8_1 [.int .i64 x8_1] (fun _ => True) (fun _ => False) rfl rfl ?aP (fun _ hk => hk.elim) ?aF ?aO ?aB ?aS ?aL ?_; (case aP => exact rfl); (case aB => exact qB); (case aF => exact (fun _ _ => trivial)); (case aO => exact (qR HO_7.out)); (case aS => exact (below_size qB)); (case aL => have := LMc13.out; omega); intro v313 w14 ho hb hg hat; rw [← Ny312.out] at ho; replace HB := Aside0.mk (hb); have HO314 := Aside0.mk (ho); clear HO_7; clear ho hb hg hat))
       go_roundg k1
       case measure => have := HK1.out; omega
       case rel => exact ⟨(y312), (wrap64 (x8_1 + 1)), qT, H', ⟨by have := HK1.out; omega⟩, ⟨qR HO314.out⟩, ⟨qB⟩⟩
      ·rw [if_neg c13] at H
       exact absurd H (by simp)
     ·replace c12 := Bool.eq_false_iff.mpr c12
      subst c12
      have H1 : (cubbyref11_union.l0 k1 l0 l1 a2 x7_1 (wrap64 (x8_1 + 1))) = some r := by rw [if_neg (show ¬ (false = true) by decide)] at H; exact H
      clear H
      have H := H1
      clear H1
      have H' := Aside0.mk H
      clear H
      go_wp2_with (first | ((with_reducible refine gate_callee (f := 105) rfl ?_); refine goesL_ (some 17) rfl rfl Tryd.func105 (by kernel_rfl) rfl #[.slice A0 l0.length c0, .int .i64 x8_1] rfl qL ?_; (with_reducible refine (cubbyref11_has.calls k1 _ _ l0 x8_1 false _ ?side1 ?side2 A7.out).mono ?_); (case side1 => exact qCB HR0.out); (case side2 => exact HC0.out); rintro e w' ⟨rfl, ⟨nd, rfl⟩⟩; refine ⟨_, rfl, ?_⟩) | (go_at_call 105; (with_reducible refine (cubbyref11_has.calls k1 _ _ l1 x8_1 false _ ?side1 ?side2 A11.out).mono ?_); (case side1 => repeat (first | exact (Kd.C_below HR1.out qB) | (with_reducible refine Kd.C_alloc ?_ _) | (with_reducible refine Kd.C_drewN ?_ _) | (with_reducible refine Kd.C_drew ?_))); (case side2 => exact HC1.out); (try clear A11); rintro e w' ⟨rfl, ⟨nd, rfl⟩⟩))
      go_roundg k1
      case measure => have := HK1.out; omega
      case rel => exact ⟨(x7_1), (wrap64 (x8_1 + 1)), qT, H', ⟨by have := HK1.out; omega⟩, ⟨qR HO_7.out⟩, ⟨qB⟩⟩
   ·rw [if_neg c6] at H
    have c6b0 := decide_eq_false c6
    clear c6
    obtain rfl := Option.some.inj H
    go_wp2
    go_ret
    exact ⟨_, qE, qR HO_7.out, qB⟩

end Go.Proofs.YtebnnknijbgekaaDoor.Q
namespace Go.Proofs.YtebnnknijbgekaaDoor.Q
open Go.RowKit Go.Proofs.YtebnnknijbgekaaDoorW.PrintWords Go.Proofs.YtebnnknijbgekaaDoorW.PrintLast Go.Proofs.YtebnnknijbgekaaDoorW.PrintMore
attribute [local go_sem] max2_int min2_int max_two min_two max_three min_three max_four min_four   -- for this text's walks alone
set_option linter.unusedVariables false
set_option linter.unusedSimpArgs false

/-! ### cubbyref11_behind: function 76 -/
def cubbyref11_behind.l0 : Nat → List (List Int) → List Int → List Int → Int → ByteArray → Int → Int → List (List (SIns)) → Option (List Int)
 | 0, _, _, _, _, _, _, _, _ => none
 | k + 1, x1, x7, x8, x9, x316000, x316001, x316002, x316003 => if x9 < (x8.length : Int) then (if 0 ≤ x9 then (if 0 ≤ (rd x8 x9) then (if (rd x8 x9) < (x1.length : Int) then ((cubbyref11_union.f k x7 (rd_LInt x1 (rd x8 x9)) x316002).bind fun t324 => (cubbyref11_behind.l0 k x1 t324 x8 (wrap64 (x9 + 1)) x316000 x316001 x316002 x316003)) else (none)) else (none)) else (none)) else (some x7)
def cubbyref11_behind.f (k : Nat) (a0_0 : ByteArray) (a0_1 : Int) (a0_2 : Int) (l0_3 : List (List (SIns))) (l1 : List (List Int)) (a2 : Int) : Option (List Int) := (cubbyref09_Succs.f k l0_3 a2).bind fun t319 => (cubbyref11_behind.l0 k l1 (([] : List Int)) t319 0 a0_0 a0_1 a0_2 l0_3)
theorem cubbyref11_behind.mono_l : ∀ k, (∀ y0 y1 y2 y3 y4 y5 y6 y7, LeO (cubbyref11_behind.l0 k y0 y1 y2 y3 y4 y5 y6 y7) (cubbyref11_behind.l0 (k + 1) y0 y1 y2 y3 y4 y5 y6 y7))
 | 0 => fun _ _ _ _ _ _ _ _ r h => by simp [cubbyref11_behind.l0] at h
 | k + 1 => by
  have ih0 := cubbyref11_behind.mono_l k
  ·intro y0 y1 y2 y3 y4 y5 y6 y7
   unfold cubbyref11_behind.l0
   repeat' first | (with_reducible exact ih0 _ _ _ _ _ _ _ _) | (with_reducible exact cubbyref09_Succs.mono _ _ _) | (with_reducible exact cubbyref11_union.mono _ _ _ _) | (with_reducible exact LeO.refl _) | (with_reducible exact LeO.none _) | (with_reducible refine LeO.ite ?_ ?_) | (with_reducible refine LeO.bind ?_ (fun _ => ?_)) | exact LeO.none _ | refine LeO.ite ?_ ?_ | refine LeO.bind ?_ (fun _ => ?_)
theorem cubbyref11_behind.mono : ∀ a0 a1 a2 a3 a4 a5 k, LeO (cubbyref11_behind.f k a0 a1 a2 a3 a4 a5) (cubbyref11_behind.f (k + 1) a0 a1 a2 a3 a4 a5) := by
 intro a0 a1 a2 a3 a4 a5 k
 have ih0 := cubbyref11_behind.mono_l k
 unfold cubbyref11_behind.f
 repeat' first | (with_reducible exact ih0 _ _ _ _ _ _ _ _) | (with_reducible exact cubbyref09_Succs.mono _ _ _) | (with_reducible exact cubbyref11_union.mono _ _ _ _) | (with_reducible exact LeO.refl _) | (with_reducible exact LeO.none _) | (with_reducible refine LeO.ite ?_ ?_) | (with_reducible refine LeO.bind ?_ (fun _ => ?_)) | exact LeO.none _ | refine LeO.ite ?_ ?_ | refine LeO.bind ?_ (fun _ => ?_)
def cubbyref11_behind.T6 : Bool × List (List Nat × List Nat) := (true, [([], []), ([], []), ([], []), ([], []), ([2, 3], [2, 3]), ([4], [4]), ([1, 5], [1, 5]), ([6], [6]), ([], []), ([8], [8]), ([0, 7, 9], [0, 7, 9]), ([10, 10, 0, 1, 2, 3, 4, 5, 6, 7, 8, 9, 10], [0, 10])])
def cubbyref11_behind.B6 : List Nat := [0, 0, 0, 0, 12, 28, 62, 126, 0, 256, 1023, 2047]
theorem cubbyref11_behind.tab6 : rtab .any (opsOf Tryd.f76 6) = cubbyref11_behind.T6 := by kernel_rfl
theorem cubbyref11_behind.bits6 : waitsOk cubbyref11_behind.T6.2 cubbyref11_behind.B6 = true := by kernel_rfl
set_option maxHeartbeats 8000000 in
set_option maxRecDepth 100000 in
theorem cubbyref11_behind.calls (k : Nat) (a0_0 : ByteArray) (a0_1 : Int) (a0_2 : Int) (A0_3 : Option Addr) (c0_3 : Nat) (l0_3 : List (List (SIns))) (A1 : Option Addr) (c1 : Nat) (l1 : List (List Int)) (a2 : Int) (r : List Int) (w : World) (hr0_3 : Kd.C (Kd.slice 31 kIns) w A0_3 l0_3.length l0_3) (hc0_3 : l0_3.length ≤ c0_3) (hr1 : Kd.C (Kd.slice 3 (Kd.int .i64)) w A1 l1.length l1) (hc1 : l1.length ≤ c1) (h : cubbyref11_behind.f k a0_0 a0_1 a0_2 l0_3 l1 a2 = some r) :
  Calls Tryd.prog 76 #[.agg #[.string a0_0, .int .i64 a0_1, .int .i64 a0_2, .slice A0_3 l0_3.length c0_3], .slice A1 l1.length c1, .int .i64 a2] w fun e w' => ∃ v0_ : Value, e = .returned (v0_) ∧ Kd.R (Kd.int .i64) 3 w' w.heap.size (fun _ => True) v0_ r ∧ Below w.heap.size w w' := by
 have hu34 := Tryd.underlying34
 have HR0_3 := Aside0.mk hr0_3
 have HC0_3 := Aside0.mk hc0_3
 clear hr0_3 hc0_3
 have HR1 := Aside0.mk hr1
 have HC1 := Aside0.mk hc1
 clear hr1 hc1
 have HB := Aside0.mk (Below.refl w.heap.size w)
 have H := h; clear h; unfold cubbyref11_behind.f at H
 obtain ⟨y316, hy316⟩ : ∃ y_ : List Int, y_ = (([] : List Int)) := ⟨_, rfl⟩
 replace H : ((cubbyref09_Succs.f k l0_3 a2).bind fun t319 => (cubbyref11_behind.l0 k l1 y316 t319 0 a0_0 a0_1 a0_2 l0_3)) = some r := by first | (rw [hy316]; with_reducible exact H) | (have H2_ := (Option.bind_some _ _).symm.trans H; rw [hy316]; with_reducible exact H2_) | (have H2_ := (Option.bind_some _ _).symm.trans H; with_reducible exact H2_) | with_reducible exact H | (rw [hy316]; exact H) | exact H
 have Ny316 := Aside0.mk hy316
 clear hy316
 replace H := qb H; obtain ⟨t319, A4, H⟩ := H
 have H' := Aside0.mk H
 clear H
 go_enter Tryd.func76, Tryd.ntmps76
 go_wp2_with (first | ((with_reducible refine gate_dst (N := 3) rfl ?_); refine box_event (by rfl) (N := 3) (by rfl) (cs := #[.string a0_0, .int .i64 a0_1, .int .i64 a0_2, .slice A0_3 l0_3.length c0_3]) (t := 34) ?hr ?_; (case hr => first | (go_simp; done) | (go_simp; rfl)); intro gb315 hg w5 hbox hb; have BK315 := Aside0.mk (hbox); have GW315 := qG hg; have GE315 := GW315; replace HB := qH hb; clear hb hbox hg) | ((with_reducible refine gate_dst (N := 10) rfl ?_); refine Kd.R_lit (Kd.int .i64) _ 3 (by rfl) (N := 10) (by rfl) (xs := ([] : List Int)) (inner := []) (ok := fun _ => True) (okp := fun _ => True) ?hr ?hp (fun _ hk => hk) trivial (Below.refl _ _) (Nat.le_refl _) (by simp) ?_; (case hr => first | (go_simp; done) | (go_simp; rfl)); (case hp => exact (Reps.none _ _)); intro v317 w6 ho7 hb hg_ hnew_; clear hg_ hnew_; (first | rw [← Ny316.out] at ho7 | (simp only [Int.reduceToNat] at ho7; rw [← Ny316.out] at ho7)); have HO318 := Aside0.mk (Kd.R_lower ho7 (below_size qB)); replace BK315 := qW BK315 hb; replace HB := qH hb; clear hb ho7; obtain ⟨hcz8_0, hcz8_1, hcz8_2, hcz8_3, hfz8_0, hfz8_1, hfz8_2, hfz8_3⟩ := bk4 BK315.out) | ((with_reducible refine gate_callee (f := 96) rfl ?_); refine goesL_ (some 14) rfl rfl Tryd.func96 (by kernel_rfl) rfl #[.slice A0_3 l0_3.length c0_3, .int .i64 a2] rfl qL ?_; (with_reducible refine (cubbyref09_Succs.calls k _ _ l0_3 a2 t319 _ ?side1 ?side2 A4.out).mono ?_); (case side1 => exact qCB HR0_3.out); (case side2 => exact HC0_3.out); rintro e w9 ⟨v320, rfl, ho0, hb⟩; refine ⟨_, rfl, ?_⟩; have HO321 := Aside0.mk (Kd.R_lower (Kd.R_new' ho0 (Kd.R_lt (qR HO318.out))) (below_size qB)); replace HO318 := Aside0.mk (Kd.R_elder' (qR HO318.out) (Kd.R_base ho0) hb); replace BK315 := qW BK315 hb; replace HB := qH hb; (try clear hb); (try clear ho0)))
 go_loopg [7, 9] k (fun kq v7 v9 w' => ∃ (x7_1 : List Int) (x9_1 : Int), v9 = .int .i64 x9_1 ∧ Aside0 (cubbyref11_behind.l0 kq l1 x7_1 t319 x9_1 a0_0 a0_1 a0_2 l0_3 = some r) ∧ Aside0 (kq ≤ k) ∧ Aside0 (Kd.R (Kd.int .i64) 3 w' w.heap.size (fun k_ => some k_ ≠ (v320 : Value).ownBlock) v7 x7_1) ∧ Aside0 (Kd.R (Kd.int .i64) 3 w' w.heap.size (fun k_ => some k_ ≠ (v7 : Value).ownBlock) v320 t319) ∧ Aside0 (w'.heap[gb315]? = some (.cells #[.string a0_0, .int .i64 a0_1, .int .i64 a0_2, (.slice A0_3 l0_3.length c0_3)] 34 (0, 0))) ∧ Aside0 (Below w.heap.size w w'))
 case atStart => exact ⟨(y316), (0), qT, H', ⟨Nat.le_refl _⟩, ⟨by (with_reducible repeat (first | apply Kd.R_alloc | apply Kd.R_drewN | apply Kd.R_drew)); exact Kd.R_mono HO318.out (fun _ hk => hk.2)⟩, ⟨by (with_reducible repeat (first | apply Kd.R_alloc | apply Kd.R_drewN | apply Kd.R_drew)); exact Kd.R_mono HO321.out (fun _ hk => hk.2)⟩, ⟨qK BK315.out⟩, ⟨qB⟩⟩
 case round =>
  clear H'
  try clear c1; try clear p2; try clear c7; try clear c9; try clear hcz8_0 hcz8_1 hcz8_2 hcz8_3 hfz8_0 hfz8_1 hfz8_2 hfz8_3
  obtain ⟨x7_1, x9_1, rfl, HA, HK1, HO_7, HO_8, BK315, HB⟩ := hrel
  cases gk with
  | zero => exact absurd HA.out (by simp [cubbyref11_behind.l0])
  | succ k1 =>
   have H := HA.out
   clear HA
   simp only [cubbyref11_behind.l0] at H
   by_cases c10 : x9_1 < (t319.length : Int)
   ·rw [if_pos c10] at H
    have c10b0 := decide_eq_true c10
    clear c10
    by_cases c11 : 0 ≤ x9_1
    ·rw [if_pos c11] at H
     have c11b0 := decide_eq_true c11
     clear c11
     by_cases c12 : 0 ≤ (rd t319 x9_1)
     ·rw [if_pos c12] at H
      have c12b0 := decide_eq_true c12
      clear c12
      by_cases c13 : (rd t319 x9_1) < (l1.length : Int)
      ·rw [if_pos c13] at H
       have c13b0 := decide_eq_true c13
       clear c13
       replace H := qb H; obtain ⟨t324, A14, H⟩ := H
       have H' := Aside0.mk H
       clear H
       obtain ⟨Ao15, co15, eo15⟩ := Kd.R_slice HO_8.out
       subst eo15
       try go_wp2
       have n0_ := Aside0.mk (Kd.R_drew HO_7.out)
       have n1_ := Aside0.mk (Kd.R_drew HO_8.out)
       have n2_ := Aside0.mk (blk_drew BK315.out)
       have n3_ := Aside0.mk (below_drew1 HB.out)
       clear HO_7
       clear HO_8
       clear BK315
       clear HB
       have HO_7 := n0_
       have HO_8 := n1_
       have BK315 := n2_
       have HB := n3_
       clear n0_ n1_ n2_ n3_
       have p322 : 0 ≤ (x9_1 : Int) := of_decide_eq_true qA
       have q322 : x9_1 < (t319.length : Int) := of_decide_eq_true qA
       obtain ⟨ad322, e322, hx322_0⟩ := Kd.at_int (Kd.R_reads' HO_8.out).2.2 x9_1 p322 q322
       cases e322
       replace p322 := eq_true p322
       replace q322 := eq_true q322
       have p323 : 0 ≤ ((rd t319 x9_1) : Int) := of_decide_eq_true qA
       have q323 : (rd t319 x9_1) < (l1.length : Int) := of_decide_eq_true qA
       obtain ⟨ad323, A323_0, c323_0, e323, hx323_0, hl323_0, hi323_0⟩ := at_LInt HR1.out (rd t319 x9_1) p323 q323
       have hw323_0 := hx323_0
       cases e323
       replace hx323_0 := (HB.out.cell (World.block_lt_of_cell? w _ hx323_0)).trans hx323_0
       have HR323_0 := Aside0.mk hi323_0
       have HC323_0 := Aside0.mk hl323_0
       clear hi323_0 hl323_0
       replace p323 := eq_true p323
       replace q323 := eq_true q323
       obtain ⟨Ao17, co17, eo17⟩ := Kd.R_slice HO_7.out
       (first | subst eo17 | (injection eo17 with f1_ f2_ f3_; have f4_ := f1_.symm; have f5_ := f3_.symm; clear f1_ f2_ f3_; subst f4_; subst f5_))
       refine start_ (n := 12) (S := fun w' => w'.cell? ⟨gb315, 0, none⟩ = some (.string a0_0) ∧ w'.cell? ⟨gb315, 1, none⟩ = some (.int .i64 a0_1) ∧ w'.cell? ⟨gb315, 2, none⟩ = some (.int .i64 a0_2) ∧ w'.cell? ⟨gb315, 3, none⟩ = some (.slice A0_3 l0_3.length c0_3) ∧ w'.cell? (ad322.add (x9_1).toNat) = some (.int .i64 (rd t319 x9_1)) ∧ w'.cell? (ad323.add ((rd t319 x9_1)).toNat) = some (.slice A323_0 (rd_LInt l1 (rd t319 x9_1)).length c323_0)) (ds := []) #[false, false, false, false, false, false, false, false, false, false, false, false] (by kernel_rfl) rfl rfl ⟨(blk_cell BK315.out 0).trans rfl, (blk_cell BK315.out 1).trans rfl, (blk_cell BK315.out 2).trans rfl, (blk_cell BK315.out 3).trans rfl, hx322_0, ((HB.out.cell (World.block_lt_of_cell? w _ hw323_0)).trans hw323_0)⟩ (fun hHeld => ?_); refine with_tabW cubbyref11_behind.tab6 cubbyref11_behind.bits6 (fun HT_ HW_ => ?_)
       generalize wr.drew = w16 at HO_7 HO_8 BK315 HB HR323_0 hx322_0 hx323_0 hHeld ⊢
       refine pure_ (i := 0) (N := some 21) (v := ?_) (a' := ?_) #[true, false, false, false, false, false, false, false, false, false, false, false] rfl rfl (any_of HT_.out (by kernel_rfl)) (fun _ _ _ h => h) (Or.inl ⟨by rfl, ?_⟩) ?_ ?_
       rotate_left
       ·intro w'
        go_simp
        with_reducible rfl
       rotate_left
       ·simp only [Act.put, List.setIfInBounds_toArray, List.set_cons_zero, List.set_cons_succ, i64_w, i32_w]
        rfl
       refine pure_ (i := 1) (N := some 22) (v := ?_) (a' := ?_) #[true, true, false, false, false, false, false, false, false, false, false, false] rfl rfl (any_of HT_.out (by kernel_rfl)) (fun _ _ _ h => h) (Or.inl ⟨by rfl, ?_⟩) ?_ ?_
       rotate_left
       ·intro w'
        go_simp
        with_reducible rfl
       rotate_left
       ·simp only [Act.put, List.setIfInBounds_toArray, List.set_cons_zero, List.set_cons_succ, i64_w, i32_w]
        rfl
       refine pure_ (i := 2) (N := some 23) (v := ?_) (a' := ?_) #[true, true, true, false, false, false, false, false, false, false, false, false] rfl rfl (any_of HT_.out (by kernel_rfl)) (fun _ _ _ h => h) (Or.inl ⟨by rfl, ?_⟩) ?_ ?_
       rotate_left
       ·intro w'
        go_simp
        with_reducible rfl
       rotate_left
       ·simp only [Act.put, List.setIfInBounds_toArray, List.set_cons_zero, List.set_cons_succ, i64_w, i32_w]
        rfl
       refine pure_ (i := 3) (N := some 24) (v := ?_) (a' := ?_) #[true, true, true, true, false, false, false, false, false, false, false, false] rfl rfl (any_of HT_.out (by kernel_rfl)) (fun _ _ _ h => h) (Or.inl ⟨by rfl, ?_⟩) ?_ ?_
       rotate_left
       ·intro w'
        go_simp
        with_reducible rfl
       rotate_left
       ·simp only [Act.put, List.setIfInBounds_toArray, List.set_cons_zero, List.set_cons_succ, i64_w, i32_w]
        rfl
       refine pure_ (i := 4) (N := some 25) (v := ?_) (a' := ?_) #[true, true, true, true, true, false, false, false, false, false, false, false] rfl rfl (any_of HT_.out (by kernel_rfl)) (fun _ _ _ h => h) (Or.inl ⟨by rfl, ?_⟩) ?_ ?_
       rotate_left
       ·intro w'
        go_simp
        with_reducible rfl
       rotate_left
       ·simp only [Act.put, List.setIfInBounds_toArray, List.set_cons_zero, List.set_cons_succ, i64_w, i32_w]
        rfl
       refine pure_ (i := 8) (N := some 29) (v := ?_) (a' := ?_) #[true, true, true, true, true, false, false, false, true, false, false, false] rfl rfl (any_of HT_.out (by kernel_rfl)) (fun _ _ _ h => h) (Or.inl ⟨by rfl, ?_⟩) ?_ ?_
       rotate_left
       ·intro w'
        go_simp
        with_reducible rfl
       rotate_left
       ·simp only [Act.put, List.setIfInBounds_toArray, List.set_cons_zero, List.set_cons_succ, i64_w, i32_w]
        rfl
       refine take_ (i := 5) (N := some 26) (v := ?_) (a' := ?_) #[true, true, true, true, true, true, false, false, true, false, false, false] rfl rfl (take_ofW HT_.out HW_.out (by kernel_rfl)) (fun _ _ _ h => h) (Or.inl ⟨by rfl, ?_⟩) hHeld ?_ ?_
       rotate_left
       ·rintro w' ⟨s0, s1, s2, s3, s4, s5⟩
        go_simp
        with_reducible rfl
       rotate_left
       ·simp only [Act.put, List.setIfInBounds_toArray, List.set_cons_zero, List.set_cons_succ, i64_w, i32_w]
        rfl
       refine pure_ (i := 6) (N := some 27) (v := ?_) (a' := ?_) #[true, true, true, true, true, true, true, false, true, false, false, false] rfl rfl (any_of HT_.out (by kernel_rfl)) (fun _ _ _ h => h) (Or.inl ⟨by rfl, ?_⟩) ?_ ?_
       rotate_left
       ·intro w'
        go_simp
        with_reducible rfl
       rotate_left
       ·simp only [Act.put, List.setIfInBounds_toArray, List.set_cons_zero, List.set_cons_succ, i64_w, i32_w]
        rfl
       refine take_ (i := 7) (N := some 28) (v := ?_) (a' := ?_) #[true, true, true, true, true, true, true, true, true, false, false, false] rfl rfl (take_ofW HT_.out HW_.out (by kernel_rfl)) (fun _ _ _ h => h) (Or.inl ⟨by rfl, ?_⟩) hHeld ?_ ?_
       rotate_left
       ·rintro w' ⟨s0, s1, s2, s3, s4, s5⟩
        go_simp
        with_reducible rfl
       rotate_left
       ·simp only [Act.put, List.setIfInBounds_toArray, List.set_cons_zero, List.set_cons_succ, i64_w, i32_w]
        rfl
       refine take_ (i := 9) (N := some 30) (v := ?_) (a' := ?_) #[true, true, true, true, true, true, true, true, true, true, false, false] rfl rfl (take_ofW HT_.out HW_.out (by kernel_rfl)) (fun _ _ _ h => h) (Or.inl ⟨by rfl, ?_⟩) hHeld ?_ ?_
       rotate_left
       ·rintro w' ⟨s0, s1, s2, s3, s4, s5⟩
        go_simp
        with_reducible rfl
       rotate_left
       ·simp only [Act.put, List.setIfInBounds_toArray, List.set_cons_zero, List.set_cons_succ, i64_w, i32_w]
        rfl
       refine one_ (i := 10) (N := some 31) #[true, true, true, true, true, true, true, true, true, true, true, false] rfl rfl (one_of HT_.out (by kernel_rfl)) (by decide) (fun K hK => ?_)
       refine goes_ Tryd.func97 (by kernel_rfl) rfl #[.slice Ao17 x7_1.length co17, .slice A323_0 (rd_LInt l1 (rd t319 x9_1)).length c323_0, .int .i64 a0_2] (by rfl) rfl rfl qL ?_
       with_reducible refine (cubbyref11_union.calls k1 _ _ x7_1 _ _ (rd_LInt l1 (rd t319 x9_1)) a0_2 t324 _ ?side1 ?side2 ?side3 ?side4 A14.out).mono ?_
       (case side1 => repeat (first | exact (Kd.R_reads' HO_7.out).2.2 | (with_reducible refine Kd.C_alloc ?_ _) | (with_reducible refine Kd.C_drewN ?_ _) | (with_reducible refine Kd.C_drew ?_)))
       (case side2 => exact (Kd.R_reads' HO_7.out).2.1)
       (case side3 => exact qCB HR323_0.out)
       (case side4 => exact HC323_0.out)
       rintro e w18 ⟨v325, rfl, ho0, hb⟩
       have HS4_ := (hb.cell (World.block_lt_of_cell? _ _ (hHeld.2.2.2.2.1))).trans (hHeld.2.2.2.2.1)
       refine ⟨_, rfl, ?_⟩
       have n0_ := Aside0.mk (Kd.R_elder' (qR HO_7.out) (Kd.R_base ho0) hb)
       have n1_ := Aside0.mk (Kd.R_elder' (qR HO_8.out) (Kd.R_base ho0) hb)
       have n2_ := Aside0.mk (Kd.R_lower (Kd.R_new' (Kd.R_new' ho0 (Kd.R_lt (qR HO_7.out))) (Kd.R_lt (qR HO_8.out))) (below_size qB))
       have n3_ := qW BK315 hb
       have n4_ := qH hb
       clear HO_7
       clear HO_8
       clear BK315
       clear HB
       have HO_7 := n0_
       have HO_8 := n1_
       have HO326 := n2_
       have BK315 := n3_
       have HB := n4_
       clear n0_ n1_ n2_ n3_ n4_
       (try clear hb)
       (try clear hb2)
       (try clear hk)
       (try clear hi)
       (try clear ho0)
       refine hK.out _ _ ⟨(blk_cell BK315.out 0).trans rfl, (blk_cell BK315.out 1).trans rfl, (blk_cell BK315.out 2).trans rfl, (blk_cell BK315.out 3).trans rfl, HS4_, ((HB.out.cell (World.block_lt_of_cell? w _ hw323_0)).trans hw323_0)⟩ (fun hHeld => ?_)
       clear hK K
       refine norm_ (a' := ?_) ?_ ?_
       rotate_left
       ·show Act.put _ (some 31) _ = _
        simp only [Act.put, List.setIfInBounds_toArray, List.set_cons_zero, List.set_cons_succ, i64_w, i32_w]
        rfl
       refine pure_ (i := 11) (N := some 7) (v := ?_) (a' := ?_) #[true, true, true, true, true, true, true, true, true, true, true, true] rfl rfl (any_of HT_.out (by kernel_rfl)) (fun _ _ _ h => h) (Or.inl ⟨by rfl, ?_⟩) ?_ ?_
       rotate_left
       ·intro w'
        go_simp
        with_reducible rfl
       rotate_left
       ·simp only [Act.put, List.setIfInBounds_toArray, List.set_cons_zero, List.set_cons_succ, i64_w, i32_w]
        rfl
       refine done_ (done_of HT_.out (by kernel_rfl)) ?_
       try go_wp2
       go_roundg k1
       case measure => have := HK1.out; omega
       case rel => exact ⟨(t324), (wrap64 (x9_1 + 1)), qT, H', ⟨by have := HK1.out; omega⟩, ⟨by (with_reducible repeat (first | apply Kd.R_alloc | apply Kd.R_drewN | apply Kd.R_drew)); exact Kd.R_mono HO326.out (fun _ hk => hk.2)⟩, ⟨by (with_reducible repeat (first | apply Kd.R_alloc | apply Kd.R_drewN | apply Kd.R_drew)); exact Kd.R_mono HO_8.out (fun _ hk => hk.2)⟩, ⟨qK BK315.out⟩, ⟨qB⟩⟩
      ·rw [if_neg c13] at H
       exact absurd H (by simp)
     ·rw [if_neg c12] at H
      exact absurd H (by simp)
    ·rw [if_neg c11] at H
     exact absurd H (by simp)
   ·rw [if_neg c10] at H
    have c10b0 := decide_eq_false c10
    clear c10
    obtain rfl := Option.some.inj H
    obtain ⟨Ao19, co19, eo19⟩ := Kd.R_slice HO_8.out
    subst eo19
    go_wp2
    go_ret
    exact ⟨_, qE, by (with_reducible repeat (first | apply Kd.R_alloc | apply Kd.R_drewN | apply Kd.R_drew)); exact Kd.R_mono HO_7.out (fun _ hk => trivial), qB⟩

end Go.Proofs.YtebnnknijbgekaaDoor.Q
namespace Go.Proofs.YtebnnknijbgekaaDoor.Q
open Go.RowKit Go.Proofs.YtebnnknijbgekaaDoorW.PrintWords Go.Proofs.YtebnnknijbgekaaDoorW.PrintLast Go.Proofs.YtebnnknijbgekaaDoorW.PrintMore
attribute [local go_sem] max2_int min2_int max_two min_two max_three min_three max_four min_four   -- for this text's walks alone
set_option linter.unusedVariables false
set_option linter.unusedSimpArgs false

/-! ### cubbyref11_through: function 77 -/
def cubbyref11_through.l0 : Nat → List Int → Int → List Int → Int → Int → Int → Int → Int → ByteArray → List Int → Option (List Int)
 | 0, _, _, _, _, _, _, _, _, _, _ => none
 | k + 1, x1, x2, x7, x8, x328000, x328001, x328002, x328003, x328004, x328005 => if x8 < (x1.length : Int) then (if 0 ≤ x8 then ((cubbyref07_Def.f x328000 x328001 x328002 x328003 x328004 x328005).bind fun t332 => (if (rd x1 x8) = t332 then (cubbyref11_through.l0 k x1 x2 x7 (wrap64 (x8 + 1)) x328000 x328001 x328002 x328003 x328004 x328005) else (if x7.length < 17592186044416 then (cubbyref11_through.l0 k x1 x2 (x7 ++ [rd x1 x8]) (wrap64 (x8 + 1)) x328000 x328001 x328002 x328003 x328004 x328005) else (none)))) else (none)) else ((cubbyref07_Uses.f k x328000 x328001 x328002 x328003 x328004 x328005).bind fun t337 => ((cubbyref11_union.f k x7 t337 x2).bind fun t340 => (some t340)))
def cubbyref11_through.f (k : Nat) (a0_0 : Int) (a0_1 : Int) (a0_2 : Int) (a0_3 : Int) (a0_4 : ByteArray) (l0_5 : List Int) (l1 : List Int) (a2 : Int) : Option (List Int) := cubbyref11_through.l0 k l1 a2 (([] : List Int)) 0 a0_0 a0_1 a0_2 a0_3 a0_4 l0_5
theorem cubbyref11_through.mono_l : ∀ k, (∀ y0 y1 y2 y3 y4 y5 y6 y7 y8 y9, LeO (cubbyref11_through.l0 k y0 y1 y2 y3 y4 y5 y6 y7 y8 y9) (cubbyref11_through.l0 (k + 1) y0 y1 y2 y3 y4 y5 y6 y7 y8 y9))
 | 0 => fun _ _ _ _ _ _ _ _ _ _ r h => by simp [cubbyref11_through.l0] at h
 | k + 1 => by
  have ih0 := cubbyref11_through.mono_l k
  ·intro y0 y1 y2 y3 y4 y5 y6 y7 y8 y9
   unfold cubbyref11_through.l0
   repeat' first | (with_reducible exact ih0 _ _ _ _ _ _ _ _ _ _) | (with_reducible exact cubbyref07_Uses.mono _ _ _ _ _ _ _) | (with_reducible exact cubbyref11_union.mono _ _ _ _) | (with_reducible exact LeO.refl _) | (with_reducible exact LeO.none _) | (with_reducible refine LeO.ite ?_ ?_) | (with_reducible refine LeO.bind ?_ (fun _ => ?_)) | exact LeO.none _ | refine LeO.ite ?_ ?_ | refine LeO.bind ?_ (fun _ => ?_)
theorem cubbyref11_through.mono : ∀ a0 a1 a2 a3 a4 a5 a6 a7 k, LeO (cubbyref11_through.f k a0 a1 a2 a3 a4 a5 a6 a7) (cubbyref11_through.f (k + 1) a0 a1 a2 a3 a4 a5 a6 a7) := by
 intro a0 a1 a2 a3 a4 a5 a6 a7 k
 have ih0 := cubbyref11_through.mono_l k
 unfold cubbyref11_through.f
 repeat' first | (with_reducible exact ih0 _ _ _ _ _ _ _ _ _ _) | (with_reducible exact cubbyref07_Uses.mono _ _ _ _ _ _ _) | (with_reducible exact cubbyref11_union.mono _ _ _ _) | (with_reducible exact LeO.refl _) | (with_reducible exact LeO.none _) | (with_reducible refine LeO.ite ?_ ?_) | (with_reducible refine LeO.bind ?_ (fun _ => ?_)) | exact LeO.none _ | refine LeO.ite ?_ ?_ | refine LeO.bind ?_ (fun _ => ?_)
set_option maxHeartbeats 8000000 in
set_option maxRecDepth 100000 in
theorem cubbyref11_through.calls (k : Nat) (a0_0 : Int) (a0_1 : Int) (a0_2 : Int) (a0_3 : Int) (a0_4 : ByteArray) (A0_5 : Option Addr) (c0_5 : Nat) (l0_5 : List Int) (A1 : Option Addr) (c1 : Nat) (l1 : List Int) (a2 : Int) (r : List Int) (w : World) (hr0_5 : Kd.C (Kd.int .i64) w A0_5 l0_5.length l0_5) (hc0_5 : l0_5.length ≤ c0_5) (hr1 : Kd.C (Kd.int .i64) w A1 l1.length l1) (hc1 : l1.length ≤ c1) (h : cubbyref11_through.f k a0_0 a0_1 a0_2 a0_3 a0_4 l0_5 l1 a2 = some r) :
  Calls Tryd.prog 77 #[.agg #[.int .i64 a0_0, .int .i64 a0_1, .int .i64 a0_2, .int .i64 a0_3, .string a0_4, .slice A0_5 l0_5.length c0_5], .slice A1 l1.length c1, .int .i64 a2] w fun e w' => ∃ v0_ : Value, e = .returned (v0_) ∧ Kd.R (Kd.int .i64) 3 w' w.heap.size (fun _ => True) v0_ r ∧ Below w.heap.size w w' := by
 have hu31 := Tryd.underlying31
 have HR0_5 := Aside0.mk hr0_5
 have HC0_5 := Aside0.mk hc0_5
 clear hr0_5 hc0_5
 have HR1 := Aside0.mk hr1
 have HC1 := Aside0.mk hc1
 clear hr1 hc1
 have HB := Aside0.mk (Below.refl w.heap.size w)
 have H := h; clear h; unfold cubbyref11_through.f at H
 obtain ⟨y328, hy328⟩ : ∃ y_ : List Int, y_ = (([] : List Int)) := ⟨_, rfl⟩
 replace H : (cubbyref11_through.l0 k l1 a2 y328 0 a0_0 a0_1 a0_2 a0_3 a0_4 l0_5) = some r := by first | (rw [hy328]; with_reducible exact H) | (have H2_ := (Option.bind_some _ _).symm.trans H; rw [hy328]; with_reducible exact H2_) | (have H2_ := (Option.bind_some _ _).symm.trans H; with_reducible exact H2_) | with_reducible exact H | (rw [hy328]; exact H) | exact H
 have Ny328 := Aside0.mk hy328
 clear hy328
 have H' := Aside0.mk H
 clear H
 go_enter Tryd.func77, Tryd.ntmps77
 go_wp2_with (first | ((with_reducible refine gate_dst (N := 3) rfl ?_); refine box_event (by rfl) (N := 3) (by rfl) (cs := #[.int .i64 a0_0, .int .i64 a0_1, .int .i64 a0_2, .int .i64 a0_3, .string a0_4, .slice A0_5 l0_5.length c0_5]) (t := 31) ?hr ?_; (case hr => first | (go_simp; done) | (go_simp; rfl)); intro gb327 hg w4 hbox hb; have BK327 := Aside0.mk (hbox); have GW327 := qG hg; have GE327 := GW327; replace HB := qH hb; clear hb hbox hg) | ((with_reducible refine gate_dst (N := 9) rfl ?_); refine Kd.R_lit (Kd.int .i64) _ 3 (by rfl) (N := 9) (by rfl) (xs := ([] : List Int)) (inner := []) (ok := fun _ => True) (okp := fun _ => True) ?hr ?hp (fun _ hk => hk) trivial (Below.refl _ _) (Nat.le_refl _) (by simp) ?_; (case hr => first | (go_simp; done) | (go_simp; rfl)); (case hp => exact (Reps.none _ _)); intro v329 w5 ho6 hb hg_ hnew_; clear hg_ hnew_; (first | rw [← Ny328.out] at ho6 | (simp only [Int.reduceToNat] at ho6; rw [← Ny328.out] at ho6)); have HO330 := Aside0.mk (Kd.R_lower ho6 (below_size qB)); replace BK327 := qW BK327 hb; replace HB := qH hb; clear hb ho6))
 go_loopg [7, 8] k (fun kq v7 v8 w' => ∃ (x7_1 : List Int) (x8_1 : Int), v8 = .int .i64 x8_1 ∧ Aside0 (cubbyref11_through.l0 kq l1 a2 x7_1 x8_1 a0_0 a0_1 a0_2 a0_3 a0_4 l0_5 = some r) ∧ Aside0 (kq ≤ k) ∧ Aside0 (Kd.R (Kd.int .i64) 3 w' w.heap.size (fun _ => True) v7 x7_1) ∧ Aside0 (w'.heap[gb327]? = some (.cells #[.int .i64 a0_0, .int .i64 a0_1, .int .i64 a0_2, .int .i64 a0_3, .string a0_4, (.slice A0_5 l0_5.length c0_5)] 31 (0, 0))) ∧ Aside0 (Below w.heap.size w w'))
 case atStart => exact ⟨(y328), (0), qT, H', ⟨Nat.le_refl _⟩, ⟨qR HO330.out⟩, ⟨qK BK327.out⟩, ⟨qB⟩⟩
 case round =>
  clear H'
  try clear c1; try clear p2
  obtain ⟨x7_1, x8_1, rfl, HA, HK1, HO_7, BK327, HB⟩ := hrel
  cases gk with
  | zero => exact absurd HA.out (by simp [cubbyref11_through.l0])
  | succ k1 =>
   have H := HA.out
   clear HA
   simp only [cubbyref11_through.l0] at H
   by_cases c7 : x8_1 < (l1.length : Int)
   ·rw [if_pos c7] at H
    have c7b0 := decide_eq_true c7
    clear c7
    by_cases c8 : 0 ≤ x8_1
    ·rw [if_pos c8] at H
     have c8b0 := decide_eq_true c8
     clear c8
     replace H := qb H; obtain ⟨t332, A9, H⟩ := H
     by_cases c10 : (rd l1 x8_1) = t332
     ·rw [if_pos c10] at H
      obtain ⟨c10b0, c10b1⟩ := qe c10; clear c10
      have H' := Aside0.mk H
      clear H
      try go_wp2
      have n0_ := Aside0.mk (Kd.R_drew HO_7.out)
      have n1_ := Aside0.mk (blk_drew BK327.out)
      have n2_ := Aside0.mk (below_drew1 HB.out)
      clear HO_7
      clear BK327
      clear HB
      have HO_7 := n0_
      have BK327 := n1_
      have HB := n2_
      clear n0_ n1_ n2_
      have p331 : 0 ≤ (x8_1 : Int) := of_decide_eq_true qA
      have q331 : x8_1 < (l1.length : Int) := of_decide_eq_true qA
      obtain ⟨ad331, e331, hx331_0⟩ := Kd.at_int HR1.out x8_1 p331 q331
      have hw331_0 := hx331_0
      cases e331
      replace hx331_0 := (HB.out.cell (World.block_lt_of_cell? w _ hx331_0)).trans hx331_0
      replace p331 := eq_true p331
      replace q331 := eq_true q331
      refine start_ (n := 7) (S := fun w' => w'.cell? ⟨gb327, 0, none⟩ = some (.int .i64 a0_0) ∧ w'.cell? ⟨gb327, 1, none⟩ = some (.int .i64 a0_1) ∧ w'.cell? ⟨gb327, 2, none⟩ = some (.int .i64 a0_2) ∧ w'.cell? ⟨gb327, 3, none⟩ = some (.int .i64 a0_3) ∧ w'.cell? ⟨gb327, 4, none⟩ = some (.string a0_4) ∧ w'.cell? ⟨gb327, 5, none⟩ = some (.slice A0_5 l0_5.length c0_5) ∧ w'.cell? (ad331.add (x8_1).toNat) = some (.int .i64 (rd l1 x8_1))) (ds := []) #[false, false, false, false, false, false, false] (by kernel_rfl) rfl rfl ⟨(blk_cell BK327.out 0).trans rfl, (blk_cell BK327.out 1).trans rfl, (blk_cell BK327.out 2).trans rfl, (blk_cell BK327.out 3).trans rfl, (blk_cell BK327.out 4).trans rfl, (blk_cell BK327.out 5).trans rfl, ((HB.out.cell (World.block_lt_of_cell? w _ hw331_0)).trans hw331_0)⟩ (fun hHeld => ?_)
      generalize wr.drew = w11 at HO_7 BK327 HB hx331_0 hHeld ⊢
      refine pure_ (i := 0) (N := some 16) (v := ?_) (a' := ?_) #[true, false, false, false, false, false, false] rfl rfl (by kernel_rfl) (fun _ _ _ h => h) (Or.inl ⟨by rfl, ?_⟩) ?_ ?_
      rotate_left
      ·intro w'
       go_simp
       with_reducible rfl
      rotate_left
      ·simp only [Act.put, List.setIfInBounds_toArray, List.set_cons_zero, List.set_cons_succ, i64_w, i32_w]
       rfl
      refine pure_ (i := 1) (N := some 17) (v := ?_) (a' := ?_) #[true, true, false, false, false, false, false] rfl rfl (by kernel_rfl) (fun _ _ _ h => h) (Or.inl ⟨by rfl, ?_⟩) ?_ ?_
      rotate_left
      ·intro w'
       go_simp
       with_reducible rfl
      rotate_left
      ·simp only [Act.put, List.setIfInBounds_toArray, List.set_cons_zero, List.set_cons_succ, i64_w, i32_w]
       rfl
      refine pure_ (i := 2) (N := some 18) (v := ?_) (a' := ?_) #[true, true, true, false, false, false, false] rfl rfl (by kernel_rfl) (fun _ _ _ h => h) (Or.inl ⟨by rfl, ?_⟩) ?_ ?_
      rotate_left
      ·intro w'
       go_simp
       with_reducible rfl
      rotate_left
      ·simp only [Act.put, List.setIfInBounds_toArray, List.set_cons_zero, List.set_cons_succ, i64_w, i32_w]
       rfl
      refine take_ (i := 3) (N := some 19) (v := ?_) (a' := ?_) #[true, true, true, true, false, false, false] rfl rfl (by kernel_rfl) (fun _ _ _ h => h) (Or.inl ⟨by rfl, ?_⟩) hHeld ?_ ?_
      rotate_left
      ·rintro w' ⟨s0, s1, s2, s3, s4, s5, s6⟩
       go_simp
       with_reducible rfl
      rotate_left
      ·simp only [Act.put, List.setIfInBounds_toArray, List.set_cons_zero, List.set_cons_succ, i64_w, i32_w]
       rfl
      refine take_ (i := 4) (N := some 20) (v := ?_) (a' := ?_) #[true, true, true, true, true, false, false] rfl rfl (by kernel_rfl) (fun _ _ _ h => h) (Or.inl ⟨by rfl, ?_⟩) hHeld ?_ ?_
      rotate_left
      ·rintro w' ⟨s0, s1, s2, s3, s4, s5, s6⟩
       go_simp
       with_reducible rfl
      rotate_left
      ·simp only [Act.put, List.setIfInBounds_toArray, List.set_cons_zero, List.set_cons_succ, i64_w, i32_w]
       rfl
      refine one_ (i := 5) (N := some 21) #[true, true, true, true, true, true, false] rfl rfl (by kernel_rfl) (by decide) (fun K hK => ?_)
      refine goes_ Tryd.func26 (by kernel_rfl) rfl #[.agg #[.int .i64 a0_0, .int .i64 a0_1, .int .i64 a0_2, .int .i64 a0_3, .string a0_4, .slice A0_5 l0_5.length c0_5]] (by rfl) rfl rfl qL ?_
      with_reducible refine (cubbyref07_Def.calls a0_0 a0_1 a0_2 a0_3 a0_4 _ _ l0_5 t332 _ ?side1 ?side2 A9.out).mono ?_
      (case side1 => exact qCB HR0_5.out)
      (case side2 => exact HC0_5.out)
      rintro e w12 ⟨rfl, hb⟩
      refine ⟨_, rfl, ?_⟩
      have n0_ := Aside0.mk (Kd.R_below (qR HO_7.out) hb)
      have n1_ := qW BK327 hb
      have n2_ := qH hb
      clear HO_7
      clear BK327
      clear HB
      have HO_7 := n0_
      have BK327 := n1_
      have HB := n2_
      clear n0_ n1_ n2_
      (try clear hb)
      (try clear hb2)
      (try clear hk)
      (try clear hi)
      refine hK.out _ _ ⟨(blk_cell BK327.out 0).trans rfl, (blk_cell BK327.out 1).trans rfl, (blk_cell BK327.out 2).trans rfl, (blk_cell BK327.out 3).trans rfl, (blk_cell BK327.out 4).trans rfl, (blk_cell BK327.out 5).trans rfl, ((HB.out.cell (World.block_lt_of_cell? w _ hw331_0)).trans hw331_0)⟩ (fun hHeld => ?_)
      clear hK K
      refine norm_ (a' := ?_) ?_ ?_
      rotate_left
      ·show Act.put _ (some 21) _ = _
       simp only [Act.put, List.setIfInBounds_toArray, List.set_cons_zero, List.set_cons_succ, i64_w, i32_w]
       rfl
      refine pure_ (i := 6) (N := some 22) (v := ?_) (a' := ?_) #[true, true, true, true, true, true, true] rfl rfl (by kernel_rfl) (fun _ _ _ h => h) (Or.inl ⟨by rfl, ?_⟩) ?_ ?_
      rotate_left
      ·intro w'
       go_simp
       with_reducible rfl
      rotate_left
      ·simp only [Act.put, List.setIfInBounds_toArray, List.set_cons_zero, List.set_cons_succ, i64_w, i32_w]
       rfl
      refine done_ (by kernel_rfl) ?_
      try go_wp2
      go_roundg k1
      case measure => have := HK1.out; omega
      case rel => exact ⟨(x7_1), (wrap64 (x8_1 + 1)), qT, H', ⟨by have := HK1.out; omega⟩, ⟨qR HO_7.out⟩, ⟨qK BK327.out⟩, ⟨qB⟩⟩
     ·rw [if_neg c10] at H
      obtain ⟨c10b0, c10b1⟩ := qn c10
      by_cases c13 : x7_1.length < 17592186044416
      ·rw [if_pos c13] at H
       have LMc13 := Aside0.mk c13
       clear c13
       obtain ⟨y334, hy334⟩ : ∃ y_ : List Int, y_ = (x7_1 ++ [rd l1 x8_1]) := ⟨_, rfl⟩
       replace H : (cubbyref11_through.l0 k1 l1 a2 y334 (wrap64 (x8_1 + 1)) a0_0 a0_1 a0_2 a0_3 a0_4 l0_5) = some r := by first | (rw [hy334]; with_reducible exact H) | (have H2_ := (Option.bind_some _ _).symm.trans H; rw [hy334]; with_reducible exact H2_) | (have H2_ := (Option.bind_some _ _).symm.trans H; with_reducible exact H2_) | with_reducible exact H | (rw [hy334]; exact H) | exact H
       have Ny334 := Aside0.mk hy334
       clear hy334
       have H' := Aside0.mk H
       clear H
       try go_wp2
       have n0_ := Aside0.mk (Kd.R_drew HO_7.out)
       have n1_ := Aside0.mk (blk_drew BK327.out)
       have n2_ := Aside0.mk (below_drew1 HB.out)
       clear HO_7
       clear BK327
       clear HB
       have HO_7 := n0_
       have BK327 := n1_
       have HB := n2_
       clear n0_ n1_ n2_
       have p331 : 0 ≤ (x8_1 : Int) := of_decide_eq_true qA
       have q331 : x8_1 < (l1.length : Int) := of_decide_eq_true qA
       obtain ⟨ad331, e331, hx331_0⟩ := Kd.at_int HR1.out x8_1 p331 q331
       have hw331_0 := hx331_0
       cases e331
       replace hx331_0 := (HB.out.cell (World.block_lt_of_cell? w _ hx331_0)).trans hx331_0
       replace p331 := eq_true p331
       replace q331 := eq_true q331
       refine start_ (n := 7) (S := fun w' => w'.cell? ⟨gb327, 0, none⟩ = some (.int .i64 a0_0) ∧ w'.cell? ⟨gb327, 1, none⟩ = some (.int .i64 a0_1) ∧ w'.cell? ⟨gb327, 2, none⟩ = some (.int .i64 a0_2) ∧ w'.cell? ⟨gb327, 3, none⟩ = some (.int .i64 a0_3) ∧ w'.cell? ⟨gb327, 4, none⟩ = some (.string a0_4) ∧ w'.cell? ⟨gb327, 5, none⟩ = some (.slice A0_5 l0_5.length c0_5) ∧ w'.cell? (ad331.add (x8_1).toNat) = some (.int .i64 (rd l1 x8_1))) (ds := []) #[false, false, false, false, false, false, false] (by kernel_rfl) rfl rfl ⟨(blk_cell BK327.out 0).trans rfl, (blk_cell BK327.out 1).trans rfl, (blk_cell BK327.out 2).trans rfl, (blk_cell BK327.out 3).trans rfl, (blk_cell BK327.out 4).trans rfl, (blk_cell BK327.out 5).trans rfl, ((HB.out.cell (World.block_lt_of_cell? w _ hw331_0)).trans hw331_0)⟩ (fun hHeld => ?_)
       generalize wr.drew = w14 at HO_7 BK327 HB hx331_0 hHeld ⊢
       refine pure_ (i := 0) (N := some 16) (v := ?_) (a' := ?_) #[true, false, false, false, false, false, false] rfl rfl (by kernel_rfl) (fun _ _ _ h => h) (Or.inl ⟨by rfl, ?_⟩) ?_ ?_
       rotate_left
       ·intro w'
        go_simp
        with_reducible rfl
       rotate_left
       ·simp only [Act.put, List.setIfInBounds_toArray, List.set_cons_zero, List.set_cons_succ, i64_w, i32_w]
        rfl
       refine pure_ (i := 1) (N := some 17) (v := ?_) (a' := ?_) #[true, true, false, false, false, false, false] rfl rfl (by kernel_rfl) (fun _ _ _ h => h) (Or.inl ⟨by rfl, ?_⟩) ?_ ?_
       rotate_left
       ·intro w'
        go_simp
        with_reducible rfl
       rotate_left
       ·simp only [Act.put, List.setIfInBounds_toArray, List.set_cons_zero, List.set_cons_succ, i64_w, i32_w]
        rfl
       refine pure_ (i := 2) (N := some 18) (v := ?_) (a' := ?_) #[true, true, true, false, false, false, false] rfl rfl (by kernel_rfl) (fun _ _ _ h => h) (Or.inl ⟨by rfl, ?_⟩) ?_ ?_
       rotate_left
       ·intro w'
        go_simp
        with_reducible rfl
       rotate_left
       ·simp only [Act.put, List.setIfInBounds_toArray, List.set_cons_zero, List.set_cons_succ, i64_w, i32_w]
        rfl
       refine take_ (i := 3) (N := some 19) (v := ?_) (a' := ?_) #[true, true, true, true, false, false, false] rfl rfl (by kernel_rfl) (fun _ _ _ h => h) (Or.inl ⟨by rfl, ?_⟩) hHeld ?_ ?_
       rotate_left
       ·rintro w' ⟨s0, s1, s2, s3, s4, s5, s6⟩
        go_simp
        with_reducible rfl
       rotate_left
       ·simp only [Act.put, List.setIfInBounds_toArray, List.set_cons_zero, List.set_cons_succ, i64_w, i32_w]
        rfl
       refine take_ (i := 4) (N := some 20) (v := ?_) (a' := ?_) #[true, true, true, true, true, false, false] rfl rfl (by kernel_rfl) (fun _ _ _ h => h) (Or.inl ⟨by rfl, ?_⟩) hHeld ?_ ?_
       rotate_left
       ·rintro w' ⟨s0, s1, s2, s3, s4, s5, s6⟩
        go_simp
        with_reducible rfl
       rotate_left
       ·simp only [Act.put, List.setIfInBounds_toArray, List.set_cons_zero, List.set_cons_succ, i64_w, i32_w]
        rfl
       refine one_ (i := 5) (N := some 21) #[true, true, true, true, true, true, false] rfl rfl (by kernel_rfl) (by decide) (fun K hK => ?_)
       refine goes_ Tryd.func26 (by kernel_rfl) rfl #[.agg #[.int .i64 a0_0, .int .i64 a0_1, .int .i64 a0_2, .int .i64 a0_3, .string a0_4, .slice A0_5 l0_5.length c0_5]] (by rfl) rfl rfl qL ?_
       with_reducible refine (cubbyref07_Def.calls a0_0 a0_1 a0_2 a0_3 a0_4 _ _ l0_5 t332 _ ?side1 ?side2 A9.out).mono ?_
       (case side1 => exact qCB HR0_5.out)
       (case side2 => exact HC0_5.out)
       rintro e w15 ⟨rfl, hb⟩
       refine ⟨_, rfl, ?_⟩
       have n0_ := Aside0.mk (Kd.R_below (qR HO_7.out) hb)
       have n1_ := qW BK327 hb
       have n2_ := qH hb
       clear HO_7
       clear BK327
       clear HB
       have HO_7 := n0_
       have BK327 := n1_
       have HB := n2_
       clear n0_ n1_ n2_
       (try clear hb)
       (try clear hb2)
       (try clear hk)
       (try clear hi)
       refine hK.out _ _ ⟨(blk_cell BK327.out 0).trans rfl, (blk_cell BK327.out 1).trans rfl, (blk_cell BK327.out 2).trans rfl, (blk_cell BK327.out 3).trans rfl, (blk_cell BK327.out 4).trans rfl, (blk_cell BK327.out 5).trans rfl, ((HB.out.cell (World.block_lt_of_cell? w _ hw331_0)).trans hw331_0)⟩ (fun hHeld => ?_)
       clear hK K
       refine norm_ (a' := ?_) ?_ ?_
       rotate_left
       ·show Act.put _ (some 21) _ = _
        simp only [Act.put, List.setIfInBounds_toArray, List.set_cons_zero, List.set_cons_succ, i64_w, i32_w]
        rfl
       refine pure_ (i := 6) (N := some 22) (v := ?_) (a' := ?_) #[true, true, true, true, true, true, true] rfl rfl (by kernel_rfl) (fun _ _ _ h => h) (Or.inl ⟨by rfl, ?_⟩) ?_ ?_
       rotate_left
       ·intro w'
        go_simp
        with_reducible rfl
       rotate_left
       ·simp only [Act.put, List.setIfInBounds_toArray, List.set_cons_zero, List.set_cons_succ, i64_w, i32_w]
        rfl
       refine done_ (by kernel_rfl) ?_
       have p333 : 0 ≤ (x8_1 : Int) := of_decide_eq_true qA
       have q333 : x8_1 < (l1.length : Int) := of_decide_eq_true qA
       obtain ⟨ad333, e333, hx333_0⟩ := Kd.at_int HR1.out x8_1 p333 q333
       obtain rfl : ad331 = ad333 := (by injection e333)
       replace hx333_0 := (HB.out.cell (World.block_lt_of_cell? w _ hx333_0)).trans hx333_0
       replace p333 := eq_true p333
       replace q333 := eq_true q333
       try go_wp2_with (first | ((with_reducible refine gate_builtin (b := .append) (xs := #[.tmp 23, .tmp 28]) rfl ?_); at_builtin; refine Kd.R_append (Kd.int .i64) (w0 := w) w.heap.size rfl (.tmp 23) (.tmp 28) 29 3 (.int .i64 0) 8 rfl Tryd.underlying29 info3 rfl (by decide) (by omega) u7 x7_1 (rd l1 x8_1) [.int .i64 (rd l1 x8_1)] (fun _ => True) (fun _ => False) rfl rfl ?aP (fun _ hk => hk.elim) ?aF ?aO ?aB ?aS ?aL ?_; (case aP => exact rfl); (case aB => exact qB); (case aF => exact (fun _ _ => trivial)); (case aO => exact (qR HO_7.out)); (case aS => exact (below_size qB)); (case aL => have := LMc13.out; omega); intro v335 w16 ho hb hg hat; rw [← Ny334.out] at ho; replace BK327 := Aside0.mk (blk_grown (qK BK327.out) hg (Kd.R_ne HO_7.out BK327.out (by decide))); replace HB := Aside0.mk (hb); have HO336 := Aside0.mk (ho); clear HO_7; clear ho hb hg hat))
       go_roundg k1
       case measure => have := HK1.out; omega
       case rel => exact ⟨(y334), (wrap64 (x8_1 + 1)), qT, H', ⟨by have := HK1.out; omega⟩, ⟨qR HO336.out⟩, ⟨qK BK327.out⟩, ⟨qB⟩⟩
      ·rw [if_neg c13] at H
       exact absurd H (by simp)
    ·rw [if_neg c8] at H
     exact absurd H (by simp)
   ·rw [if_neg c7] at H
    have c7b0 := decide_eq_false c7
    clear c7
    replace H := qb H; obtain ⟨t337, A17, H⟩ := H
    replace H := qb H; obtain ⟨t340, A18, H⟩ := H
    obtain rfl := Option.some.inj H
    obtain ⟨hcz19_0, hcz19_1, hcz19_2, hcz19_3, hcz19_4, hcz19_5, hfz19_0, hfz19_1, hfz19_2, hfz19_3, hfz19_4, hfz19_5⟩ := bk6 BK327.out
    go_wp2_with (first | ((with_reducible refine gate_callee (f := 25) rfl ?_); refine goesL_ (some 32) rfl rfl Tryd.func25 (by kernel_rfl) rfl #[.agg #[.int .i64 a0_0, .int .i64 a0_1, .int .i64 a0_2, .int .i64 a0_3, .string a0_4, .slice A0_5 l0_5.length c0_5]] rfl qL ?_; (with_reducible refine (cubbyref07_Uses.calls k1 a0_0 a0_1 a0_2 a0_3 a0_4 _ _ l0_5 t337 _ ?side1 ?side2 A17.out).mono ?_); (case side1 => exact qCB HR0_5.out); (case side2 => exact HC0_5.out); rintro e w20 ⟨v338, rfl, ho0, hb⟩; refine ⟨_, rfl, ?_⟩; have HO339 := Aside0.mk (Kd.R_lower (Kd.R_new' ho0 (Kd.R_lt (qR HO_7.out))) (below_size qB)); replace HO_7 := Aside0.mk (Kd.R_elder' (qR HO_7.out) (Kd.R_base ho0) hb); replace BK327 := qW BK327 hb; replace HB := qH hb; (try clear hb); (try clear ho0); obtain ⟨Ao21, co21, eo21⟩ := Kd.R_slice HO_7.out; subst eo21; obtain ⟨Ao22, co22, eo22⟩ := Kd.R_slice HO339.out; subst eo22) | ((with_reducible refine gate_callee (f := 97) rfl ?_); refine goesL_ (some 34) rfl rfl Tryd.func97 (by kernel_rfl) rfl #[.slice Ao21 x7_1.length co21, .slice Ao22 t337.length co22, .int .i64 a2] rfl qL ?_; (with_reducible refine (cubbyref11_union.calls k1 _ _ x7_1 _ _ t337 a2 t340 _ ?side1 ?side2 ?side3 ?side4 A18.out).mono ?_); (case side1 => repeat (first | exact (Kd.R_reads' HO_7.out).2.2 | (with_reducible refine Kd.C_alloc ?_ _) | (with_reducible refine Kd.C_drewN ?_ _) | (with_reducible refine Kd.C_drew ?_))); (case side2 => exact (Kd.R_reads' HO_7.out).2.1); (case side3 => repeat (first | exact (Kd.R_reads' HO339.out).2.2 | (with_reducible refine Kd.C_alloc ?_ _) | (with_reducible refine Kd.C_drewN ?_ _) | (with_reducible refine Kd.C_drew ?_))); (case side4 => exact (Kd.R_reads' HO339.out).2.1); rintro e w23 ⟨v341, rfl, ho0, hb⟩; refine ⟨_, rfl, ?_⟩; have HO342 := Aside0.mk (Kd.R_lower (Kd.R_new' (Kd.R_new' ho0 (Kd.R_lt (qR HO_7.out))) (Kd.R_lt (qR HO339.out))) (below_size qB)); replace HO_7 := Aside0.mk (Kd.R_elder' (qR HO_7.out) (Kd.R_base ho0) hb); replace HO339 := Aside0.mk (Kd.R_elder' (qR HO339.out) (Kd.R_base ho0) hb); replace BK327 := qW BK327 hb; replace HB := qH hb; (try clear hb); (try clear ho0)))
    go_ret
    exact ⟨_, qE, by (with_reducible repeat (first | apply Kd.R_alloc | apply Kd.R_drewN | apply Kd.R_drew)); exact Kd.R_mono HO342.out (fun _ hk => trivial), qB⟩

end Go.Proofs.YtebnnknijbgekaaDoor.Q
namespace Go.Proofs.YtebnnknijbgekaaDoor.Q
open Go.RowKit Go.Proofs.YtebnnknijbgekaaDoorW.PrintWords Go.Proofs.YtebnnknijbgekaaDoorW.PrintLast Go.Proofs.YtebnnknijbgekaaDoorW.PrintMore
attribute [local go_sem] max2_int min2_int max_two min_two max_three min_three max_four min_four   -- for this text's walks alone
set_option linter.unusedVariables false
set_option linter.unusedSimpArgs false

/-! ### cubbyref11_ahead: function 53 -/
def cubbyref11_ahead.l0 : Nat → Int → Int → List Int → Int → ByteArray → Int → Int → List (List (SIns)) → Option (List Int)
 | 0, _, _, _, _, _, _, _, _ => none
 | k + 1, x2, x3, x9, x10, x344000, x344001, x344002, x344003 => if x10 ≥ x3 then (if 0 ≤ x2 then (if x2 < (x344003.length : Int) then (if 0 ≤ x10 then (if x10 < ((rd_LIns x344003 x2).length : Int) then ((cubbyref11_through.f k ((rd_TIns (rd_LIns x344003 x2) x10).f0) ((rd_TIns (rd_LIns x344003 x2) x10).f1) ((rd_TIns (rd_LIns x344003 x2) x10).f2) ((rd_TIns (rd_LIns x344003 x2) x10).f3) ((rd_TIns (rd_LIns x344003 x2) x10).f4) ((rd_TIns (rd_LIns x344003 x2) x10).f5) x9 x344002).bind fun t350 => (cubbyref11_ahead.l0 k x2 x3 t350 (wrap64 (x10 - 1)) x344000 x344001 x344002 x344003)) else (none)) else (none)) else (none)) else (none)) else (some x9)
def cubbyref11_ahead.f (k : Nat) (a0_0 : ByteArray) (a0_1 : Int) (a0_2 : Int) (l0_3 : List (List (SIns))) (l1 : List (List Int)) (a2 : Int) (a3 : Int) : Option (List Int) := (cubbyref11_behind.f k a0_0 a0_1 a0_2 l0_3 l1 a2).bind fun t344 => (if 0 ≤ a2 then (if a2 < (l0_3.length : Int) then (cubbyref11_ahead.l0 k a2 a3 t344 (wrap64 (((rd_LIns l0_3 a2).length : Int) - 1)) a0_0 a0_1 a0_2 l0_3) else (none)) else (none))
theorem cubbyref11_ahead.mono_l : ∀ k, (∀ y0 y1 y2 y3 y4 y5 y6 y7, LeO (cubbyref11_ahead.l0 k y0 y1 y2 y3 y4 y5 y6 y7) (cubbyref11_ahead.l0 (k + 1) y0 y1 y2 y3 y4 y5 y6 y7))
 | 0 => fun _ _ _ _ _ _ _ _ r h => by simp [cubbyref11_ahead.l0] at h
 | k + 1 => by
  have ih0 := cubbyref11_ahead.mono_l k
  ·intro y0 y1 y2 y3 y4 y5 y6 y7
   unfold cubbyref11_ahead.l0
   repeat' first | (with_reducible exact ih0 _ _ _ _ _ _ _ _) | (with_reducible exact cubbyref11_behind.mono _ _ _ _ _ _ _) | (with_reducible exact cubbyref11_through.mono _ _ _ _ _ _ _ _ _) | (with_reducible exact LeO.refl _) | (with_reducible exact LeO.none _) | (with_reducible refine LeO.ite ?_ ?_) | (with_reducible refine LeO.bind ?_ (fun _ => ?_)) | exact LeO.none _ | refine LeO.ite ?_ ?_ | refine LeO.bind ?_ (fun _ => ?_)
theorem cubbyref11_ahead.mono : ∀ a0 a1 a2 a3 a4 a5 a6 k, LeO (cubbyref11_ahead.f k a0 a1 a2 a3 a4 a5 a6) (cubbyref11_ahead.f (k + 1) a0 a1 a2 a3 a4 a5 a6) := by
 intro a0 a1 a2 a3 a4 a5 a6 k
 have ih0 := cubbyref11_ahead.mono_l k
 unfold cubbyref11_ahead.f
 repeat' first | (with_reducible exact ih0 _ _ _ _ _ _ _ _) | (with_reducible exact cubbyref11_behind.mono _ _ _ _ _ _ _) | (with_reducible exact cubbyref11_through.mono _ _ _ _ _ _ _ _ _) | (with_reducible exact LeO.refl _) | (with_reducible exact LeO.none _) | (with_reducible refine LeO.ite ?_ ?_) | (with_reducible refine LeO.bind ?_ (fun _ => ?_)) | exact LeO.none _ | refine LeO.ite ?_ ?_ | refine LeO.bind ?_ (fun _ => ?_)
def cubbyref11_ahead.T5 : Bool × List (List Nat × List Nat) := (true, [([], []), ([0], [0]), ([], []), ([1, 2], [1, 2]), ([3], [3]), ([], []), ([4, 5], [4, 5]), ([6], [6]), ([], []), ([], []), ([9], [9]), ([7, 8, 10], [7, 8, 10]), ([11, 11, 0, 1, 2, 3, 4, 5, 6, 7, 8, 9, 10, 11], [8, 11])])
def cubbyref11_ahead.B5 : List Nat := [0, 1, 0, 7, 15, 0, 63, 127, 0, 0, 512, 2047, 4095]
theorem cubbyref11_ahead.tab5 : rtab .any (opsOf Tryd.f53 5) = cubbyref11_ahead.T5 := by kernel_rfl
theorem cubbyref11_ahead.bits5 : waitsOk cubbyref11_ahead.T5.2 cubbyref11_ahead.B5 = true := by kernel_rfl
set_option maxHeartbeats 8000000 in
set_option maxRecDepth 100000 in
theorem cubbyref11_ahead.calls (k : Nat) (a0_0 : ByteArray) (a0_1 : Int) (a0_2 : Int) (A0_3 : Option Addr) (c0_3 : Nat) (l0_3 : List (List (SIns))) (A1 : Option Addr) (c1 : Nat) (l1 : List (List Int)) (a2 : Int) (a3 : Int) (r : List Int) (w : World) (hr0_3 : Kd.C (Kd.slice 31 kIns) w A0_3 l0_3.length l0_3) (hc0_3 : l0_3.length ≤ c0_3) (hr1 : Kd.C (Kd.slice 3 (Kd.int .i64)) w A1 l1.length l1) (hc1 : l1.length ≤ c1) (h : cubbyref11_ahead.f k a0_0 a0_1 a0_2 l0_3 l1 a2 a3 = some r) :
  Calls Tryd.prog 53 #[.agg #[.string a0_0, .int .i64 a0_1, .int .i64 a0_2, .slice A0_3 l0_3.length c0_3], .slice A1 l1.length c1, .int .i64 a2, .int .i64 a3] w fun e w' => ∃ v0_ : Value, e = .returned (v0_) ∧ Kd.R (Kd.int .i64) 3 w' w.heap.size (fun _ => True) v0_ r ∧ Below w.heap.size w w' := by
 have hu34 := Tryd.underlying34
 have hu31 := Tryd.underlying31
 have HR0_3 := Aside0.mk hr0_3
 have HC0_3 := Aside0.mk hc0_3
 clear hr0_3 hc0_3
 have HR1 := Aside0.mk hr1
 have HC1 := Aside0.mk hc1
 clear hr1 hc1
 have HB := Aside0.mk (Below.refl w.heap.size w)
 have H := h; clear h; unfold cubbyref11_ahead.f at H
 replace H := qb H; obtain ⟨t344, A5, H⟩ := H
 by_cases c6 : 0 ≤ a2
 ·rw [if_pos c6] at H
  have c6b0 := decide_eq_true c6
  clear c6
  by_cases c7 : a2 < (l0_3.length : Int)
  ·rw [if_pos c7] at H
   have c7b0 := decide_eq_true c7
   clear c7
   have H' := Aside0.mk H
   clear H
   go_enter Tryd.func53, Tryd.ntmps53
   go_wp2_with (first | ((with_reducible refine gate_dst (N := 4) rfl ?_); refine box_event (by rfl) (N := 4) (by rfl) (cs := #[.string a0_0, .int .i64 a0_1, .int .i64 a0_2, .slice A0_3 l0_3.length c0_3]) (t := 34) ?hr ?_; (case hr => first | (go_simp; done) | (go_simp; rfl)); intro gb343 hg w8 hbox hb; have BK343 := Aside0.mk (hbox); have GW343 := qG hg; have GE343 := GW343; replace HB := qH hb; clear hb hbox hg; obtain ⟨hcz9_0, hcz9_1, hcz9_2, hcz9_3, hfz9_0, hfz9_1, hfz9_2, hfz9_3⟩ := bk4 BK343.out) | ((with_reducible refine gate_callee (f := 76) rfl ?_); refine goesL_ (some 14) rfl rfl Tryd.func76 (by kernel_rfl) rfl #[.agg #[.string a0_0, .int .i64 a0_1, .int .i64 a0_2, .slice A0_3 l0_3.length c0_3], .slice A1 l1.length c1, .int .i64 a2] rfl qL ?_; (with_reducible refine (cubbyref11_behind.calls k a0_0 a0_1 a0_2 _ _ l0_3 _ _ l1 a2 t344 _ ?side1 ?side2 ?side3 ?side4 A5.out).mono ?_); (case side1 => exact qCB HR0_3.out); (case side2 => exact HC0_3.out); (case side3 => exact qCB HR1.out); (case side4 => exact HC1.out); rintro e w10 ⟨v345, rfl, ho0, hb⟩; refine ⟨_, rfl, ?_⟩; have HO346 := Aside0.mk (Kd.R_lower ho0 (below_size qB)); replace BK343 := qW BK343 hb; replace HB := qH hb; (try clear hb); (try clear ho0); obtain ⟨hcz11_0, hcz11_1, hcz11_2, hcz11_3, hfz11_0, hfz11_1, hfz11_2, hfz11_3⟩ := bk4 BK343.out; have p347 : 0 ≤ (a2 : Int) := of_decide_eq_true qA; have q347 : a2 < (l0_3.length : Int) := of_decide_eq_true qA; obtain ⟨ad347, A347_0, c347_0, e347, hx347_0, hl347_0, hi347_0⟩ := at_LIns HR0_3.out a2 p347 q347; cases e347; replace hx347_0 := (HB.out.cell (World.block_lt_of_cell? w _ hx347_0)).trans hx347_0; have HR347_0 := Aside0.mk hi347_0; have HC347_0 := Aside0.mk hl347_0; clear hi347_0 hl347_0; replace p347 := eq_true p347; replace q347 := eq_true q347))
   go_loopg [9, 10] k (fun kq v9 v10 w' => ∃ (x9_1 : List Int) (x10_1 : Int), v10 = .int .i64 x10_1 ∧ Aside0 (cubbyref11_ahead.l0 kq a2 a3 x9_1 x10_1 a0_0 a0_1 a0_2 l0_3 = some r) ∧ Aside0 (kq ≤ k) ∧ Aside0 (Kd.R (Kd.int .i64) 3 w' w.heap.size (fun _ => True) v9 x9_1) ∧ Aside0 (w'.heap[gb343]? = some (.cells #[.string a0_0, .int .i64 a0_1, .int .i64 a0_2, (.slice (some ad347) l0_3.length c0_3)] 34 (0, 0))) ∧ Aside0 (Below w.heap.size w w'))
   case atStart => exact ⟨(t344), (wrap64 (((rd_LIns l0_3 a2).length : Int) - 1)), qT, H', ⟨Nat.le_refl _⟩, ⟨qR HO346.out⟩, ⟨qK BK343.out⟩, ⟨qB⟩⟩
   case round =>
    clear H'
    try clear c1; try clear p2; try clear c3; try clear p3; try clear q3; try clear hx3; try clear c5; try clear c6; try clear c6b0; try clear p6; try clear c7; try clear c7b0; try clear hcz11_0 hcz11_1 hcz11_2 hcz11_3 hfz11_0 hfz11_1 hfz11_2 hfz11_3; try clear hcz9_0 hcz9_1 hcz9_2 hcz9_3 hfz9_0 hfz9_1 hfz9_2 hfz9_3; try clear hx347_0; try clear p347; try clear q347
    obtain ⟨x9_1, x10_1, rfl, HA, HK1, HO_9, BK343, HB⟩ := hrel
    cases gk with
    | zero => exact absurd HA.out (by simp [cubbyref11_ahead.l0])
    | succ k1 =>
     have H := HA.out
     clear HA
     simp only [cubbyref11_ahead.l0] at H
     by_cases c12 : x10_1 ≥ a3
     ·rw [if_pos c12] at H
      have c12b0 : decide (a3 ≤ x10_1) = true := decide_eq_true c12
      clear c12
      by_cases c13 : 0 ≤ a2
      ·rw [if_pos c13] at H
       have c13b0 := decide_eq_true c13
       clear c13
       by_cases c14 : a2 < (l0_3.length : Int)
       ·rw [if_pos c14] at H
        have c14b0 := decide_eq_true c14
        clear c14
        by_cases c15 : 0 ≤ x10_1
        ·rw [if_pos c15] at H
         have c15b0 := decide_eq_true c15
         clear c15
         by_cases c16 : x10_1 < ((rd_LIns l0_3 a2).length : Int)
         ·rw [if_pos c16] at H
          have c16b0 := decide_eq_true c16
          clear c16
          replace H := qb H; obtain ⟨t350, A17, H⟩ := H
          have H' := Aside0.mk H
          clear H
          try go_wp2
          have n0_ := Aside0.mk (Kd.R_drew HO_9.out)
          have n1_ := Aside0.mk (blk_drew BK343.out)
          have n2_ := Aside0.mk (below_drew1 HB.out)
          clear HO_9
          clear BK343
          clear HB
          have HO_9 := n0_
          have BK343 := n1_
          have HB := n2_
          clear n0_ n1_ n2_
          have p348 : 0 ≤ (a2 : Int) := of_decide_eq_true qA
          have q348 : a2 < (l0_3.length : Int) := of_decide_eq_true qA
          obtain ⟨ad348, A348_0, c348_0, e348, hx348_0, hl348_0, hi348_0⟩ := at_LIns HR0_3.out a2 p348 q348
          have hw348_0 := hx348_0
          obtain rfl : ad347 = ad348 := (by injection e348)
          replace hx348_0 := (HB.out.cell (World.block_lt_of_cell? w _ hx348_0)).trans hx348_0
          have HR348_0 := Aside0.mk hi348_0
          have HC348_0 := Aside0.mk hl348_0
          clear hi348_0 hl348_0
          replace p348 := eq_true p348
          replace q348 := eq_true q348
          have p349 : 0 ≤ (x10_1 : Int) := of_decide_eq_true qA
          have q349 : x10_1 < ((rd_LIns l0_3 a2).length : Int) := of_decide_eq_true qA
          obtain ⟨ad349, A349_5, c349_5, e349, hx349_0, hx349_1, hx349_2, hx349_3, hx349_4, hx349_5, hl349_5, hi349_5⟩ := at_TIns HR348_0.out x10_1 p349 q349
          have hw349_5 := hx349_5
          have hw349_4 := hx349_4
          have hw349_3 := hx349_3
          have hw349_2 := hx349_2
          have hw349_1 := hx349_1
          have hw349_0 := hx349_0
          cases e349
          replace hx349_0 := (HB.out.cell (World.block_lt_of_cell? w _ hx349_0)).trans hx349_0
          replace hx349_1 := (HB.out.cell (World.block_lt_of_cell? w _ hx349_1)).trans hx349_1
          replace hx349_2 := (HB.out.cell (World.block_lt_of_cell? w _ hx349_2)).trans hx349_2
          replace hx349_3 := (HB.out.cell (World.block_lt_of_cell? w _ hx349_3)).trans hx349_3
          replace hx349_4 := (HB.out.cell (World.block_lt_of_cell? w _ hx349_4)).trans hx349_4
          replace hx349_5 := (HB.out.cell (World.block_lt_of_cell? w _ hx349_5)).trans hx349_5
          have HR349_5 := Aside0.mk hi349_5
          have HC349_5 := Aside0.mk hl349_5
          clear hi349_5 hl349_5
          replace p349 := eq_true p349
          replace q349 := eq_true q349
          obtain ⟨Ao19, co19, eo19⟩ := Kd.R_slice HO_9.out
          (first | subst eo19 | (injection eo19 with f1_ f2_ f3_; have f4_ := f1_.symm; have f5_ := f3_.symm; clear f1_ f2_ f3_; subst f4_; subst f5_))
          refine start_ (n := 13) (S := fun w' => w'.cell? ⟨gb343, 0, none⟩ = some (.string a0_0) ∧ w'.cell? ⟨gb343, 1, none⟩ = some (.int .i64 a0_1) ∧ w'.cell? ⟨gb343, 2, none⟩ = some (.int .i64 a0_2) ∧ w'.cell? ⟨gb343, 3, none⟩ = some (.slice (some ad347) l0_3.length c0_3) ∧ w'.cell? (ad347.add (a2).toNat) = some (.slice (some ad349) (rd_LIns l0_3 a2).length c348_0) ∧ w'.cell? (ad349.add ((x10_1).toNat * 6)) = some (.int .i64 ((rd_TIns (rd_LIns l0_3 a2) x10_1).f0)) ∧ w'.cell? ⟨(ad349.add ((x10_1).toNat * 6)).block, (ad349.add ((x10_1).toNat * 6)).off + 1, none⟩ = some (.int .i64 ((rd_TIns (rd_LIns l0_3 a2) x10_1).f1)) ∧ w'.cell? ⟨(ad349.add ((x10_1).toNat * 6)).block, (ad349.add ((x10_1).toNat * 6)).off + 2, none⟩ = some (.int .i64 ((rd_TIns (rd_LIns l0_3 a2) x10_1).f2)) ∧ w'.cell? ⟨(ad349.add ((x10_1).toNat * 6)).block, (ad349.add ((x10_1).toNat * 6)).off + 3, none⟩ = some (.int .i64 ((rd_TIns (rd_LIns l0_3 a2) x10_1).f3)) ∧ w'.cell? ⟨(ad349.add ((x10_1).toNat * 6)).block, (ad349.add ((x10_1).toNat * 6)).off + 4, none⟩ = some (.string ((rd_TIns (rd_LIns l0_3 a2) x10_1).f4)) ∧ w'.cell? ⟨(ad349.add ((x10_1).toNat * 6)).block, (ad349.add ((x10_1).toNat * 6)).off + 5, none⟩ = some (.slice A349_5 ((rd_TIns (rd_LIns l0_3 a2) x10_1).f5).length c349_5)) (ds := []) #[false, false, false, false, false, false, false, false, false, false, false, false, false] (by kernel_rfl) rfl rfl ⟨(blk_cell BK343.out 0).trans rfl, (blk_cell BK343.out 1).trans rfl, (blk_cell BK343.out 2).trans rfl, (blk_cell BK343.out 3).trans rfl, ((HB.out.cell (World.block_lt_of_cell? w _ hw348_0)).trans hw348_0), ((HB.out.cell (World.block_lt_of_cell? w _ hw349_0)).trans hw349_0), ((HB.out.cell (World.block_lt_of_cell? w _ hw349_1)).trans hw349_1), ((HB.out.cell (World.block_lt_of_cell? w _ hw349_2)).trans hw349_2), ((HB.out.cell (World.block_lt_of_cell? w _ hw349_3)).trans hw349_3), ((HB.out.cell (World.block_lt_of_cell? w _ hw349_4)).trans hw349_4), ((HB.out.cell (World.block_lt_of_cell? w _ hw349_5)).trans hw349_5)⟩ (fun hHeld => ?_); refine with_tabW cubbyref11_ahead.tab5 cubbyref11_ahead.bits5 (fun HT_ HW_ => ?_)
          generalize wr.drew = w18 at HO_9 BK343 HB HR348_0 HR349_5 hx348_0 hx349_0 hx349_1 hx349_2 hx349_3 hx349_4 hx349_5 hHeld ⊢
          refine pure_ (i := 0) (N := some 27) (v := ?_) (a' := ?_) #[true, false, false, false, false, false, false, false, false, false, false, false, false] rfl rfl (any_of HT_.out (by kernel_rfl)) (fun _ _ _ h => h) (Or.inl ⟨by rfl, ?_⟩) ?_ ?_
          rotate_left
          ·intro w'
           go_simp
           with_reducible rfl
          rotate_left
          ·simp only [Act.put, List.setIfInBounds_toArray, List.set_cons_zero, List.set_cons_succ, i64_w, i32_w]
           rfl
          refine pure_ (i := 2) (N := some 29) (v := ?_) (a' := ?_) #[true, false, true, false, false, false, false, false, false, false, false, false, false] rfl rfl (any_of HT_.out (by kernel_rfl)) (fun _ _ _ h => h) (Or.inl ⟨by rfl, ?_⟩) ?_ ?_
          rotate_left
          ·intro w'
           go_simp
           with_reducible rfl
          rotate_left
          ·simp only [Act.put, List.setIfInBounds_toArray, List.set_cons_zero, List.set_cons_succ, i64_w, i32_w]
           rfl
          refine pure_ (i := 5) (N := some 32) (v := ?_) (a' := ?_) #[true, false, true, false, false, true, false, false, false, false, false, false, false] rfl rfl (any_of HT_.out (by kernel_rfl)) (fun _ _ _ h => h) (Or.inl ⟨by rfl, ?_⟩) ?_ ?_
          rotate_left
          ·intro w'
           go_simp
           with_reducible rfl
          rotate_left
          ·simp only [Act.put, List.setIfInBounds_toArray, List.set_cons_zero, List.set_cons_succ, i64_w, i32_w]
           rfl
          refine pure_ (i := 8) (N := some 35) (v := ?_) (a' := ?_) #[true, false, true, false, false, true, false, false, true, false, false, false, false] rfl rfl (any_of HT_.out (by kernel_rfl)) (fun _ _ _ h => h) (Or.inl ⟨by rfl, ?_⟩) ?_ ?_
          rotate_left
          ·intro w'
           go_simp
           with_reducible rfl
          rotate_left
          ·simp only [Act.put, List.setIfInBounds_toArray, List.set_cons_zero, List.set_cons_succ, i64_w, i32_w]
           rfl
          refine pure_ (i := 9) (N := some 36) (v := ?_) (a' := ?_) #[true, false, true, false, false, true, false, false, true, true, false, false, false] rfl rfl (any_of HT_.out (by kernel_rfl)) (fun _ _ _ h => h) (Or.inl ⟨by rfl, ?_⟩) ?_ ?_
          rotate_left
          ·intro w'
           go_simp
           with_reducible rfl
          rotate_left
          ·simp only [Act.put, List.setIfInBounds_toArray, List.set_cons_zero, List.set_cons_succ, i64_w, i32_w]
           rfl
          refine take_ (i := 1) (N := some 28) (v := ?_) (a' := ?_) #[true, true, true, false, false, true, false, false, true, true, false, false, false] rfl rfl (take_ofW HT_.out HW_.out (by kernel_rfl)) (fun _ _ _ h => h) (Or.inl ⟨by rfl, ?_⟩) hHeld ?_ ?_
          rotate_left
          ·rintro w' ⟨s0, s1, s2, s3, s4, s5, s6, s7, s8, s9, s10⟩
           go_simp
           with_reducible rfl
          rotate_left
          ·simp only [Act.put, List.setIfInBounds_toArray, List.set_cons_zero, List.set_cons_succ, i64_w, i32_w]
           rfl
          refine pure_ (i := 3) (N := some 30) (v := ?_) (a' := ?_) #[true, true, true, true, false, true, false, false, true, true, false, false, false] rfl rfl (any_of HT_.out (by kernel_rfl)) (fun _ _ _ h => h) (Or.inl ⟨by rfl, ?_⟩) ?_ ?_
          rotate_left
          ·intro w'
           go_simp
           with_reducible rfl
          rotate_left
          ·simp only [Act.put, List.setIfInBounds_toArray, List.set_cons_zero, List.set_cons_succ, i64_w, i32_w]
           rfl
          refine take_ (i := 4) (N := some 31) (v := ?_) (a' := ?_) #[true, true, true, true, true, true, false, false, true, true, false, false, false] rfl rfl (take_ofW HT_.out HW_.out (by kernel_rfl)) (fun _ _ _ h => h) (Or.inl ⟨by rfl, ?_⟩) hHeld ?_ ?_
          rotate_left
          ·rintro w' ⟨s0, s1, s2, s3, s4, s5, s6, s7, s8, s9, s10⟩
           go_simp
           with_reducible rfl
          rotate_left
          ·simp only [Act.put, List.setIfInBounds_toArray, List.set_cons_zero, List.set_cons_succ, i64_w, i32_w]
           rfl
          refine pure_ (i := 6) (N := some 33) (v := ?_) (a' := ?_) #[true, true, true, true, true, true, true, false, true, true, false, false, false] rfl rfl (any_of HT_.out (by kernel_rfl)) (fun _ _ _ h => h) (Or.inl ⟨by rfl, ?_⟩) ?_ ?_
          rotate_left
          ·intro w'
           go_simp
           with_reducible rfl
          rotate_left
          ·simp only [Act.put, List.setIfInBounds_toArray, List.set_cons_zero, List.set_cons_succ, i64_w, i32_w]
           rfl
          refine take_ (i := 7) (N := some 34) (v := ?_) (a' := ?_) #[true, true, true, true, true, true, true, true, true, true, false, false, false] rfl rfl (take_ofW HT_.out HW_.out (by kernel_rfl)) (fun _ _ _ h => h) (Or.inl ⟨by rfl, ?_⟩) hHeld ?_ ?_
          rotate_left
          ·rintro w' ⟨s0, s1, s2, s3, s4, s5, s6, s7, s8, s9, s10⟩
           go_simp
           with_reducible rfl
          rotate_left
          ·simp only [Act.put, List.setIfInBounds_toArray, List.set_cons_zero, List.set_cons_succ, i64_w, i32_w]
           rfl
          refine take_ (i := 10) (N := some 37) (v := ?_) (a' := ?_) #[true, true, true, true, true, true, true, true, true, true, true, false, false] rfl rfl (take_ofW HT_.out HW_.out (by kernel_rfl)) (fun _ _ _ h => h) (Or.inl ⟨by rfl, ?_⟩) hHeld ?_ ?_
          rotate_left
          ·rintro w' ⟨s0, s1, s2, s3, s4, s5, s6, s7, s8, s9, s10⟩
           go_simp
           with_reducible rfl
          rotate_left
          ·simp only [Act.put, List.setIfInBounds_toArray, List.set_cons_zero, List.set_cons_succ, i64_w, i32_w]
           rfl
          refine one_ (i := 11) (N := some 38) #[true, true, true, true, true, true, true, true, true, true, true, true, false] rfl rfl (one_of HT_.out (by kernel_rfl)) (by decide) (fun K hK => ?_)
          refine goes_ Tryd.func77 (by kernel_rfl) rfl #[.agg #[.int .i64 ((rd_TIns (rd_LIns l0_3 a2) x10_1).f0), .int .i64 ((rd_TIns (rd_LIns l0_3 a2) x10_1).f1), .int .i64 ((rd_TIns (rd_LIns l0_3 a2) x10_1).f2), .int .i64 ((rd_TIns (rd_LIns l0_3 a2) x10_1).f3), .string ((rd_TIns (rd_LIns l0_3 a2) x10_1).f4), .slice A349_5 ((rd_TIns (rd_LIns l0_3 a2) x10_1).f5).length c349_5], .slice Ao19 x9_1.length co19, .int .i64 a0_2] (by rfl) rfl rfl qL ?_
          with_reducible refine (cubbyref11_through.calls k1 ((rd_TIns (rd_LIns l0_3 a2) x10_1).f0) ((rd_TIns (rd_LIns l0_3 a2) x10_1).f1) ((rd_TIns (rd_LIns l0_3 a2) x10_1).f2) ((rd_TIns (rd_LIns l0_3 a2) x10_1).f3) ((rd_TIns (rd_LIns l0_3 a2) x10_1).f4) _ _ ((rd_TIns (rd_LIns l0_3 a2) x10_1).f5) _ _ x9_1 a0_2 t350 _ ?side1 ?side2 ?side3 ?side4 A17.out).mono ?_
          (case side1 => exact qCB HR349_5.out)
          (case side2 => exact HC349_5.out)
          (case side3 => repeat (first | exact (Kd.R_reads' HO_9.out).2.2 | (with_reducible refine Kd.C_alloc ?_ _) | (with_reducible refine Kd.C_drewN ?_ _) | (with_reducible refine Kd.C_drew ?_)))
          (case side4 => exact (Kd.R_reads' HO_9.out).2.1)
          rintro e w20 ⟨v351, rfl, ho0, hb⟩
          refine ⟨_, rfl, ?_⟩
          have n0_ := Aside0.mk (Kd.R_elder' (qR HO_9.out) (Kd.R_base ho0) hb)
          have n1_ := Aside0.mk (Kd.R_lower (Kd.R_new' ho0 (Kd.R_lt (qR HO_9.out))) (below_size qB))
          have n2_ := qW BK343 hb
          have n3_ := qH hb
          clear HO_9
          clear BK343
          clear HB
          have HO_9 := n0_
          have HO352 := n1_
          have BK343 := n2_
          have HB := n3_
          clear n0_ n1_ n2_ n3_
          (try clear hb)
          (try clear hb2)
          (try clear hk)
          (try clear hi)
          (try clear ho0)
          refine hK.out _ _ ⟨(blk_cell BK343.out 0).trans rfl, (blk_cell BK343.out 1).trans rfl, (blk_cell BK343.out 2).trans rfl, (blk_cell BK343.out 3).trans rfl, ((HB.out.cell (World.block_lt_of_cell? w _ hw348_0)).trans hw348_0), ((HB.out.cell (World.block_lt_of_cell? w _ hw349_0)).trans hw349_0), ((HB.out.cell (World.block_lt_of_cell? w _ hw349_1)).trans hw349_1), ((HB.out.cell (World.block_lt_of_cell? w _ hw349_2)).trans hw349_2), ((HB.out.cell (World.block_lt_of_cell? w _ hw349_3)).trans hw349_3), ((HB.out.cell (World.block_lt_of_cell? w _ hw349_4)).trans hw349_4), ((HB.out.cell (World.block_lt_of_cell? w _ hw349_5)).trans hw349_5)⟩ (fun hHeld => ?_)
          clear hK K
          refine norm_ (a' := ?_) ?_ ?_
          rotate_left
          ·show Act.put _ (some 38) _ = _
           simp only [Act.put, List.setIfInBounds_toArray, List.set_cons_zero, List.set_cons_succ, i64_w, i32_w]
           rfl
          refine pure_ (i := 12) (N := some 9) (v := ?_) (a' := ?_) #[true, true, true, true, true, true, true, true, true, true, true, true, true] rfl rfl (any_of HT_.out (by kernel_rfl)) (fun _ _ _ h => h) (Or.inl ⟨by rfl, ?_⟩) ?_ ?_
          rotate_left
          ·intro w'
           go_simp
           with_reducible rfl
          rotate_left
          ·simp only [Act.put, List.setIfInBounds_toArray, List.set_cons_zero, List.set_cons_succ, i64_w, i32_w]
           rfl
          refine done_ (done_of HT_.out (by kernel_rfl)) ?_
          try go_wp2
          go_roundg k1
          case measure => have := HK1.out; omega
          case rel => exact ⟨(t350), (wrap64 (x10_1 - 1)), qT, H', ⟨by have := HK1.out; omega⟩, ⟨by (with_reducible repeat (first | apply Kd.R_alloc | apply Kd.R_drewN | apply Kd.R_drew)); exact Kd.R_mono HO352.out (fun _ hk => trivial)⟩, ⟨qK BK343.out⟩, ⟨qB⟩⟩
         ·rw [if_neg c16] at H
          exact absurd H (by simp)
        ·rw [if_neg c15] at H
         exact absurd H (by simp)
       ·rw [if_neg c14] at H
        exact absurd H (by simp)
      ·rw [if_neg c13] at H
       exact absurd H (by simp)
     ·rw [if_neg c12] at H
      have c12b0 : decide (a3 ≤ x10_1) = false := decide_eq_false c12
      clear c12
      obtain rfl := Option.some.inj H
      go_wp2
      go_ret
      exact ⟨_, qE, qR HO_9.out, qB⟩
  ·rw [if_neg c7] at H
   exact absurd H (by simp)
 ·rw [if_neg c6] at H
  exact absurd H (by simp)

end Go.Proofs.YtebnnknijbgekaaDoor.Q
namespace Go.Proofs.YtebnnknijbgekaaDoor.Q
open Go.RowKit Go.Proofs.YtebnnknijbgekaaDoorW.PrintWords Go.Proofs.YtebnnknijbgekaaDoorW.PrintLast Go.Proofs.YtebnnknijbgekaaDoorW.PrintMore
attribute [local go_sem] max2_int min2_int max_two min_two max_three min_three max_four min_four   -- for this text's walks alone
set_option linter.unusedVariables false
set_option linter.unusedSimpArgs false

/-! ### cubbyref11_In: function 28 -/
mutual
def cubbyref11_In.l0 : Nat → List (List Int) → Int → ByteArray → Int → Int → List (List (SIns)) → Option ((List (List Int)))
 | 0, _, _, _, _, _, _ => none
 | k + 1, x3, x4, x354000, x354001, x354002, x354003 => if x4 ≤ (wrap64 ((wrap64 ((x354003.length : Int) * x354002)) + 1)) then (cubbyref11_In.l1 k x3 x4 (([] : List (List Int))) true 0 x354000 x354001 x354002 x354003) else (some x3)
def cubbyref11_In.l1 : Nat → List (List Int) → Int → List (List Int) → Bool → Int → ByteArray → Int → Int → List (List (SIns)) → Option ((List (List Int)))
 | 0, _, _, _, _, _, _, _, _, _ => none
 | k + 1, x3, x4, x5, x6, x7, x354000, x354001, x354002, x354003 => if x7 < (x354003.length : Int) then ((cubbyref11_ahead.f k x354000 x354001 x354002 x354003 x3 x7 0).bind fun t361 => (if x6 = true then (if 0 ≤ x7 then (if x7 < (x3.length : Int) then (if x5.length < 5864062014805 then (cubbyref11_In.l1 k x3 x4 (x5 ++ [t361]) ((t361.length : Int) == ((rd_LInt x3 x7).length : Int)) (wrap64 (x7 + 1)) x354000 x354001 x354002 x354003) else (none)) else (none)) else (none)) else (if x5.length < 5864062014805 then (cubbyref11_In.l1 k x3 x4 (x5 ++ [t361]) false (wrap64 (x7 + 1)) x354000 x354001 x354002 x354003) else (none)))) else (if x6 = true then (some x5) else (cubbyref11_In.l0 k x5 (wrap64 (x4 + 1)) x354000 x354001 x354002 x354003))
end
def cubbyref11_In.f (k : Nat) (a0_0 : ByteArray) (a0_1 : Int) (a0_2 : Int) (l0_3 : List (List (SIns))) : Option ((List (List Int))) := (cubbyref07_Check.f k a0_0 a0_1 a0_2 l0_3).bind fun t354 => (if t354 = 0 then (if 0 ≤ (l0_3.length : Int) then (if ((l0_3.length : Int) : Int).toNat ≤ 11728124029610 then (cubbyref11_In.l0 k (List.replicate ((l0_3.length : Int) : Int).toNat []) 0 a0_0 a0_1 a0_2 l0_3) else (none)) else (none)) else (some ([] : List (List Int))))
theorem cubbyref11_In.mono_l : ∀ k, (∀ y0 y1 y2 y3 y4 y5, LeO (cubbyref11_In.l0 k y0 y1 y2 y3 y4 y5) (cubbyref11_In.l0 (k + 1) y0 y1 y2 y3 y4 y5)) ∧ (∀ y0 y1 y2 y3 y4 y5 y6 y7 y8, LeO (cubbyref11_In.l1 k y0 y1 y2 y3 y4 y5 y6 y7 y8) (cubbyref11_In.l1 (k + 1) y0 y1 y2 y3 y4 y5 y6 y7 y8))
 | 0 => ⟨fun _ _ _ _ _ _ r h => by simp [cubbyref11_In.l0] at h, fun _ _ _ _ _ _ _ _ _ r h => by simp [cubbyref11_In.l1] at h⟩
 | k + 1 => by
  obtain ⟨ih0, ih1⟩ := cubbyref11_In.mono_l k
  refine ⟨?_, ?_⟩ <;> intros <;> (first | unfold cubbyref11_In.l0 | unfold cubbyref11_In.l1) <;> repeat' first | (with_reducible exact ih0 _ _ _ _ _ _) | (with_reducible exact ih1 _ _ _ _ _ _ _ _ _) | (with_reducible exact cubbyref07_Check.mono _ _ _ _ _) | (with_reducible exact cubbyref11_ahead.mono _ _ _ _ _ _ _ _) | (with_reducible exact LeO.refl _) | (with_reducible exact LeO.none _) | (with_reducible refine LeO.ite ?_ ?_) | (with_reducible refine LeO.bind ?_ (fun _ => ?_)) | exact LeO.none _ | refine LeO.ite ?_ ?_ | refine LeO.bind ?_ (fun _ => ?_)
theorem cubbyref11_In.mono : ∀ a0 a1 a2 a3 k, LeO (cubbyref11_In.f k a0 a1 a2 a3) (cubbyref11_In.f (k + 1) a0 a1 a2 a3) := by
 intro a0 a1 a2 a3 k
 obtain ⟨ih0, ih1⟩ := cubbyref11_In.mono_l k
 unfold cubbyref11_In.f
 repeat' first | (with_reducible exact ih0 _ _ _ _ _ _) | (with_reducible exact ih1 _ _ _ _ _ _ _ _ _) | (with_reducible exact cubbyref07_Check.mono _ _ _ _ _) | (with_reducible exact cubbyref11_ahead.mono _ _ _ _ _ _ _ _) | (with_reducible exact LeO.refl _) | (with_reducible exact LeO.none _) | (with_reducible refine LeO.ite ?_ ?_) | (with_reducible refine LeO.bind ?_ (fun _ => ?_)) | exact LeO.none _ | refine LeO.ite ?_ ?_ | refine LeO.bind ?_ (fun _ => ?_)
set_option maxHeartbeats 8000000 in
set_option maxRecDepth 100000 in
theorem cubbyref11_In.calls (k : Nat) (a0_0 : ByteArray) (a0_1 : Int) (a0_2 : Int) (A0_3 : Option Addr) (c0_3 : Nat) (l0_3 : List (List (SIns))) (r : List (List Int)) (w : World) (hr0_3 : Kd.C (Kd.slice 31 kIns) w A0_3 l0_3.length l0_3) (hc0_3 : l0_3.length ≤ c0_3) (h : cubbyref11_In.f k a0_0 a0_1 a0_2 l0_3 = some r) :
  Calls Tryd.prog 28 #[.agg #[.string a0_0, .int .i64 a0_1, .int .i64 a0_2, .slice A0_3 l0_3.length c0_3]] w fun e w' => ∃ v0_ : Value, e = .returned (v0_) ∧ Kd.S (Kd.slice 3 (Kd.int .i64)) 29 w' w.heap.size (fun _ => True) v0_ r ∧ Below w.heap.size w w' := by
 have hu34 := Tryd.underlying34
 have HR0_3 := Aside0.mk hr0_3
 have HC0_3 := Aside0.mk hc0_3
 clear hr0_3 hc0_3
 have HB := Aside0.mk (Below.refl w.heap.size w)
 have H := h; clear h; unfold cubbyref11_In.f at H
 replace H := qb H; obtain ⟨t354, A2, H⟩ := H
 by_cases c3 : t354 = 0
 ·rw [if_pos c3] at H
  obtain ⟨c3b0, c3b1⟩ := qe c3; clear c3
  by_cases c4 : 0 ≤ (l0_3.length : Int)
  ·rw [if_pos c4] at H
   have c4b0 := eq_true c4
   have c4b1 := decide_eq_true c4
   clear c4
   by_cases c5 : ((l0_3.length : Int) : Int).toNat ≤ 11728124029610
   ·rw [if_pos c5] at H
    have c5b0 := eq_true c5
    have c5b1 := decide_eq_true c5
    clear c5
    obtain ⟨y355, hy355⟩ : ∃ y_ : List (List Int), y_ = (List.replicate ((l0_3.length : Int) : Int).toNat []) := ⟨_, rfl⟩
    replace H : (cubbyref11_In.l0 k y355 0 a0_0 a0_1 a0_2 l0_3) = some r := by first | (rw [hy355]; with_reducible exact H) | (have H2_ := (Option.bind_some _ _).symm.trans H; rw [hy355]; with_reducible exact H2_) | (have H2_ := (Option.bind_some _ _).symm.trans H; with_reducible exact H2_) | with_reducible exact H | (rw [hy355]; exact H) | exact H
    have Ny355 := Aside0.mk hy355
    clear hy355
    have H' := Aside0.mk H
    clear H
    go_enter Tryd.func28, Tryd.ntmps28
    go_wp2_with (first | ((with_reducible refine gate_dst (N := 1) rfl ?_); (try (refine gate_guard (by rfl) ?_; dsimp only)); refine box_event (by rfl) (N := 1) (by rfl) (cs := #[.string a0_0, .int .i64 a0_1, .int .i64 a0_2, .slice A0_3 l0_3.length c0_3]) (t := 34) ?hr ?_; (case hr => first | (go_simp; done) | (go_simp; rfl)); intro gb353 hg w6 hbox hb; have BK353 := Aside0.mk (hbox); have GW353 := qG hg; have GE353 := GW353; replace HB := qH hb; clear hb hbox hg; obtain ⟨hcz7_0, hcz7_1, hcz7_2, hcz7_3, hfz7_0, hfz7_1, hfz7_2, hfz7_3⟩ := bk4 BK353.out) | ((with_reducible refine gate_callee (f := 17) rfl ?_); refine goesL_ (some 10) rfl rfl Tryd.func17 (by kernel_rfl) rfl #[.agg #[.string a0_0, .int .i64 a0_1, .int .i64 a0_2, .slice A0_3 l0_3.length c0_3]] rfl qL ?_; (with_reducible refine (cubbyref07_Check.calls k a0_0 a0_1 a0_2 _ _ l0_3 t354 _ ?side1 ?side2 A2.out).mono ?_); (case side1 => exact qCB HR0_3.out); (case side2 => exact HC0_3.out); rintro e w8 ⟨rfl, hb⟩; refine ⟨_, rfl, ?_⟩; replace BK353 := qW BK353 hb; replace HB := qH hb; (try clear hb); obtain ⟨hcz9_0, hcz9_1, hcz9_2, hcz9_3, hfz9_0, hfz9_1, hfz9_2, hfz9_3⟩ := bk4 BK353.out) | ((with_reducible refine gate_dst (N := 15) rfl ?_); (try (refine gate_guard (by rfl) ?_; dsimp only)); refine Kd.S_make (Kd.slice 3 (Kd.int .i64)) _ 29 rfl (N := 15) rfl 44 _ _ rfl (l0_3.length : Int) rfl rfl Tryd.underlying44 (.slice none 0 0) 24 info29 rfl (by decide) (by omega) [] (ok := fun _ => True) (okp := fun _ => True) ⟨_, rfl, Kd.R_nil _ _ _ _ _⟩ (fun _ hk => hk) trivial (of_decide_eq_true qA) (Nat.le_trans (Nat.mul_le_mul_right _ (of_decide_eq_true qA : (l0_3.length : Int).toNat ≤ 11728124029610)) (by omega)) (Below.refl _ _) (Nat.le_refl _) ?_; intro v356 w10 ho11 hb hg_ hnew_; clear hg_ hnew_; (first | rw [← Ny355.out] at ho11 | (simp only [Int.reduceToNat] at ho11; rw [← Ny355.out] at ho11)); have HO357 := Aside0.mk (Kd.S_lower ho11 (below_size qB)); replace BK353 := qW BK353 hb; replace HB := qH hb; clear hb ho11))
    go_loopg [3, 4] k (fun kq v3 v4 w' => ∃ (x3_1 : List (List Int)) (x4_1 : Int), v4 = .int .i64 x4_1 ∧ Aside0 (cubbyref11_In.l0 kq x3_1 x4_1 a0_0 a0_1 a0_2 l0_3 = some r) ∧ Aside0 (kq ≤ k) ∧ Aside0 (Kd.S (Kd.slice 3 (Kd.int .i64)) 29 w' w.heap.size (fun _ => True) v3 x3_1) ∧ Aside0 (w'.heap[gb353]? = some (.cells #[.string a0_0, .int .i64 a0_1, .int .i64 a0_2, (.slice A0_3 l0_3.length c0_3)] 34 (0, 0))) ∧ Aside0 (Below w.heap.size w w'))
    case atStart => exact ⟨(y355), (0), qT, H', ⟨Nat.le_refl _⟩, ⟨qS HO357.out⟩, ⟨qK BK353.out⟩, ⟨qB⟩⟩
    case round =>
     clear H'
     try clear c1; try clear c2; try clear p2; try clear c3; try clear c3b0 c3b1; try clear c4; try clear c4b0 c4b1; try clear c5; try clear c5b0 c5b1; try clear hcz7_0 hcz7_1 hcz7_2 hcz7_3 hfz7_0 hfz7_1 hfz7_2 hfz7_3; try clear hcz9_0 hcz9_1 hcz9_2 hcz9_3 hfz9_0 hfz9_1 hfz9_2 hfz9_3
     obtain ⟨x3_1, x4_1, rfl, HA, HK1, HO_3, BK353, HB⟩ := hrel
     cases gk with
     | zero => exact absurd HA.out (by simp [cubbyref11_In.l0])
     | succ k1 =>
      have H := HA.out
      clear HA
      simp only [cubbyref11_In.l0] at H
      by_cases c12 : x4_1 ≤ (wrap64 ((wrap64 ((l0_3.length : Int) * a0_2)) + 1))
      ·rw [if_pos c12] at H
       have c12b0 := decide_eq_true c12
       clear c12
       obtain ⟨y358, hy358⟩ : ∃ y_ : List (List Int), y_ = (([] : List (List Int))) := ⟨_, rfl⟩
       replace H : (cubbyref11_In.l1 k1 x3_1 x4_1 y358 true 0 a0_0 a0_1 a0_2 l0_3) = some r := by first | (rw [hy358]; with_reducible exact H) | (have H2_ := (Option.bind_some _ _).symm.trans H; rw [hy358]; with_reducible exact H2_) | (have H2_ := (Option.bind_some _ _).symm.trans H; with_reducible exact H2_) | with_reducible exact H | (rw [hy358]; exact H) | exact H
       have Ny358 := Aside0.mk hy358
       clear hy358
       have H' := Aside0.mk H
       clear H
       obtain ⟨hcz13_0, hcz13_1, hcz13_2, hcz13_3, hfz13_0, hfz13_1, hfz13_2, hfz13_3⟩ := bk4 BK353.out
       go_wp2_with (first | ((with_reducible refine gate_dst (N := 27) rfl ?_); (try (refine gate_guard (by rfl) ?_; dsimp only)); refine Kd.S_lit (Kd.slice 3 (Kd.int .i64)) _ 29 (by rfl) (N := 27) (by rfl) (xs := ([] : List (List Int))) (inner := []) (ok := fun _ => True) (okp := fun _ => True) ?hr ?hp (fun _ hk => hk) trivial (Below.refl _ _) (Nat.le_refl _) (by simp) ?_; (case hr => first | (go_simp; done) | (go_simp; rfl)); (case hp => exact (Reps.none _ _)); intro v359 w14 ho15 hb hg_ hnew_; clear hg_ hnew_; (first | rw [← Ny358.out] at ho15 | (simp only [Int.reduceToNat] at ho15; rw [← Ny358.out] at ho15)); have HO360 := Aside0.mk (Kd.S_lower (Kd.S_new' ho15 (Kd.S_lt (qS HO_3.out))) (below_size qB)); replace HO_3 := Aside0.mk (Kd.S_elder' (qS HO_3.out) (Kd.S_base ho15) hb); replace BK353 := qW BK353 hb; replace HB := qH hb; clear hb ho15))
       go_loopg [5, 6, 7] k1 (fun kq v5 v6 v7 w' => ∃ (x5_2 : List (List Int)) (x6_2 : Bool) (x7_2 : Int), v6 = .bool x6_2 ∧ v7 = .int .i64 x7_2 ∧ Aside0 (cubbyref11_In.l1 kq x3_1 x4_1 x5_2 x6_2 x7_2 a0_0 a0_1 a0_2 l0_3 = some r) ∧ Aside0 (kq ≤ k1) ∧ Aside0 (Kd.S (Kd.slice 3 (Kd.int .i64)) 29 w' w.heap.size (fun k_ => some k_ ≠ (v5 : Value).ownBlock) u3 x3_1) ∧ Aside0 (Kd.S (Kd.slice 3 (Kd.int .i64)) 29 w' w.heap.size (fun k_ => some k_ ≠ (u3 : Value).ownBlock) v5 x5_2) ∧ Aside0 (w'.heap[gb353]? = some (.cells #[.string a0_0, .int .i64 a0_1, .int .i64 a0_2, (.slice A0_3 l0_3.length c0_3)] 34 (0, 0))) ∧ Aside0 (Below w.heap.size w w'))
       case atStart => exact ⟨(y358), (true), (0), qT, qT, H', ⟨Nat.le_refl _⟩, ⟨by (with_reducible repeat (first | apply Kd.S_alloc | apply Kd.S_drewN | apply Kd.S_drew)); exact Kd.S_mono HO_3.out (fun _ hk => hk.2)⟩, ⟨by (with_reducible repeat (first | apply Kd.S_alloc | apply Kd.S_drewN | apply Kd.S_drew)); exact Kd.S_mono HO360.out (fun _ hk => hk.2)⟩, ⟨qK BK353.out⟩, ⟨qB⟩⟩
       case round =>
        clear H'
        try clear c1; try clear c2; try clear p2; try clear c3; try clear c3b0 c3b1; try clear c4; try clear c4b0 c4b1; try clear c5; try clear c5b0 c5b1; try clear p6; try clear c12; try clear c12b0; try clear hcz13_0 hcz13_1 hcz13_2 hcz13_3 hfz13_0 hfz13_1 hfz13_2 hfz13_3; try clear hcz7_0 hcz7_1 hcz7_2 hcz7_3 hfz7_0 hfz7_1 hfz7_2 hfz7_3; try clear hcz9_0 hcz9_1 hcz9_2 hcz9_3 hfz9_0 hfz9_1 hfz9_2 hfz9_3
        obtain ⟨x5_2, x6_2, x7_2, rfl, rfl, HA, HK2, HO_3, HO_5, BK353, HB⟩ := hrel
        cases gk with
        | zero => exact absurd HA.out (by simp [cubbyref11_In.l1])
        | succ k2 =>
         have H := HA.out
         clear HA
         simp only [cubbyref11_In.l1] at H
         by_cases c16 : x7_2 < (l0_3.length : Int)
         ·rw [if_pos c16] at H
          have c16b0 := decide_eq_true c16
          clear c16
          replace H := qb H; obtain ⟨t361, A17, H⟩ := H
          by_cases c18 : x6_2 = true
          ·subst c18
           have H1 : (if 0 ≤ x7_2 then (if x7_2 < (x3_1.length : Int) then (if x5_2.length < 5864062014805 then (cubbyref11_In.l1 k2 x3_1 x4_1 (x5_2 ++ [t361]) ((t361.length : Int) == ((rd_LInt x3_1 x7_2).length : Int)) (wrap64 (x7_2 + 1)) a0_0 a0_1 a0_2 l0_3) else (none)) else (none)) else (none)) = some r := by rw [if_pos rfl] at H; exact H
           clear H
           have H := H1
           clear H1
           by_cases c19 : 0 ≤ x7_2
           ·rw [if_pos c19] at H
            have c19b0 := decide_eq_true c19
            clear c19
            by_cases c20 : x7_2 < (x3_1.length : Int)
            ·rw [if_pos c20] at H
             have c20b0 := decide_eq_true c20
             clear c20
             by_cases c21 : x5_2.length < 5864062014805
             ·rw [if_pos c21] at H
              have LMc21 := Aside0.mk c21
              clear c21
              obtain ⟨y365, hy365⟩ : ∃ y_ : List (List Int), y_ = (x5_2 ++ [t361]) := ⟨_, rfl⟩
              replace H : (cubbyref11_In.l1 k2 x3_1 x4_1 y365 ((t361.length : Int) == ((rd_LInt x3_1 x7_2).length : Int)) (wrap64 (x7_2 + 1)) a0_0 a0_1 a0_2 l0_3) = some r := by first | (rw [hy365]; with_reducible exact H) | (have H2_ := (Option.bind_some _ _).symm.trans H; rw [hy365]; with_reducible exact H2_) | (have H2_ := (Option.bind_some _ _).symm.trans H; with_reducible exact H2_) | with_reducible exact H | (rw [hy365]; exact H) | exact H
              have Ny365 := Aside0.mk hy365
              clear hy365
              have H' := Aside0.mk H
              clear H
              obtain ⟨hcz22_0, hcz22_1, hcz22_2, hcz22_3, hfz22_0, hfz22_1, hfz22_2, hfz22_3⟩ := bk4 BK353.out
              obtain ⟨Ao23, co23, eo23⟩ := Kd.S_slice HO_3.out
              subst eo23
              go_wp2_with (first | ((with_reducible refine gate_callee (f := 53) rfl ?_); refine goesL_ (some 38) rfl rfl Tryd.func53 (by kernel_rfl) rfl #[.agg #[.string a0_0, .int .i64 a0_1, .int .i64 a0_2, .slice A0_3 l0_3.length c0_3], .slice Ao23 x3_1.length co23, .int .i64 x7_2, .int .i64 0] rfl qL ?_; (with_reducible refine (cubbyref11_ahead.calls k2 a0_0 a0_1 a0_2 _ _ l0_3 _ _ x3_1 x7_2 0 t361 _ ?side1 ?side2 ?side3 ?side4 A17.out).mono ?_); (case side1 => exact qCB HR0_3.out); (case side2 => exact HC0_3.out); (case side3 => repeat (first | exact (Kd.S_reads' HO_3.out).2.2 | (with_reducible refine Kd.C_alloc ?_ _) | (with_reducible refine Kd.C_drewN ?_ _) | (with_reducible refine Kd.C_drew ?_))); (case side4 => exact (Kd.S_reads' HO_3.out).2.1); rintro e w24 ⟨v362, rfl, ho0, hb⟩; refine ⟨_, rfl, ?_⟩; replace HO_3 := Aside0.mk (Kd.S_elder' (qS HO_3.out) (Kd.R_base ho0) hb); replace HO_5 := Aside0.mk (Kd.S_elder' (qS HO_5.out) (Kd.R_base ho0) hb); have HO363 := Aside0.mk (Kd.R_lower ho0 (below_size qB)); replace BK353 := qW BK353 hb; replace HB := qH hb; (try clear hb); (try clear ho0); obtain ⟨Ao25, co25, eo25⟩ := Kd.R_slice HO363.out; subst eo25; have p364 : 0 ≤ (x7_2 : Int) := of_decide_eq_true qA; have q364 : x7_2 < (x3_1.length : Int) := of_decide_eq_true qA; obtain ⟨ad364, A364_0, c364_0, e364, hx364_0, hl364_0, hi364_0⟩ := at_LInt (Kd.S_reads' HO_3.out).2.2 x7_2 p364 q364; cases e364; obtain ⟨ce364, hce364, hMe364, hcc364⟩ := Kd.S_get HO_3.out [] x7_2 p364 (by first | exact q364 | exact of_decide_eq_true qA | (have e_ := (Kd.S_reads' HO_3.out).1; omega)); obtain ⟨ve364_0, rfl, ge364_0⟩ := hMe364; have hv364_0 := hcc364 0 _ rfl; rw [Nat.add_zero, show ((Kd.slice 3 (Kd.int .i64))).sz = 1 from rfl, Nat.mul_one] at hv364_0; replace hv364_0 := Option.some.inj (hv364_0.symm.trans hx364_0); rw [hv364_0] at ge364_0; have HL364_0 := Aside0.mk (show Kd.R (Kd.int .i64) 3 _ _ _ _ (rd_LInt x3_1 x7_2) from ge364_0); clear hv364_0 ge364_0; clear hcc364 hce364; have HR364_0 := Aside0.mk hi364_0; have HC364_0 := Aside0.mk hl364_0; clear hi364_0 hl364_0; replace p364 := eq_true p364; replace q364 := eq_true q364) | ((with_reducible refine gate_builtin (b := .append) (xs := #[.tmp 50, .tmp 52]) rfl ?_); (try (refine gate_guard (by rfl) ?_; dsimp only)); at_builtin; refine Kd.S_append (Kd.slice 3 (Kd.int .i64)) (w0 := w) w.heap.size rfl (.tmp 50) (.tmp 52) 44 29 (.slice none 0 0) 24 rfl Tryd.underlying44 info29 rfl (by decide) (by omega) u5 x5_2 t361 [.slice Ao25 t361.length co25] (fun k_ => some k_ ≠ (.slice (some ad364) x3_1.length co23 : Value).ownBlock) (fun k_ => some k_ = (.slice Ao25 t361.length co25 : Value).ownBlock) rfl rfl ?aP (fun k_ hk_ => ((Kd.R_mono (ok' := fun k_ => ((fun k_ => some k_ ≠ (.slice (some ad364) x3_1.length co23 : Value).ownBlock)) k_ ∧ some k_ ≠ (u5 : Value).ownBlock) (Kd.R_apart' (Kd.R_apart' (HO363.out) (Kd.S_typed HO_3.out) (by decide)) (Kd.S_typed HO_5.out) (by decide)) (fun k_ hk => ⟨hk.1.2, hk.2⟩))).1 k_ hk_.symm) ?aF ?aO ?aB ?aS ?aL ?_; (case aP => exact Kd.M_row (Kd.R_mono (Kd.R_tight rfl (Kd.R_mono (ok' := fun k_ => ((fun k_ => some k_ ≠ (.slice (some ad364) x3_1.length co23 : Value).ownBlock)) k_ ∧ some k_ ≠ (u5 : Value).ownBlock) (Kd.R_apart' (Kd.R_apart' (HO363.out) (Kd.S_typed HO_3.out) (by decide)) (Kd.S_typed HO_5.out) (by decide)) (fun k_ hk => ⟨hk.1.2, hk.2⟩))) (fun _ h_ => h_))); (case aB => exact qB); (case aF => exact (fun k_ hk => Kd.fresh' (Kd.S_lt (qS HO_3.out)) k_ hk)); (case aO => exact (by (with_reducible repeat (first | apply Kd.S_alloc | apply Kd.S_drewN | apply Kd.S_drew)); exact Kd.S_mono HO_5.out (fun k_ hk => ⟨hk.1, fun e_ => hk.2 e_⟩))); (case aS => exact (below_size qB)); (case aL => have := LMc21.out; omega); intro v366 w26 ho hb hg hat; rw [← Ny365.out] at ho; replace HO_3 := Aside0.mk (Kd.S_after (ok := (fun k_ => some k_ ≠ (.slice Ao25 t361.length co25 : Value).ownBlock)) (by (with_reducible repeat (first | apply Kd.S_alloc | apply Kd.S_drewN | apply Kd.S_drew)); exact Kd.S_mono HO_3.out (fun _ hk => ⟨hk.2, hk.1⟩)) hg hat); replace BK353 := Aside0.mk (blk_grown (qK BK353.out) hg (Kd.S_ne HO_5.out BK353.out (by decide))); replace HL364_0 := Aside0.mk (Kd.R_after (ok := (fun k_ => some k_ ≠ (.slice (some ad364) x3_1.length co23 : Value).ownBlock ∧ some k_ ≠ (.slice Ao25 t361.length co25 : Value).ownBlock)) (by (with_reducible repeat (first | apply Kd.R_alloc | apply Kd.R_drewN | apply Kd.R_drew)); exact Kd.R_mono HL364_0.out (fun _ hk => ⟨⟨hk.2, hk.1.2⟩, hk.1.1⟩)) hg hat); replace HB := Aside0.mk (hb); have HO367 := Aside0.mk (ho); clear HO_5 HO363; clear ho hb hg hat))
              go_roundg k2
              case measure => have := HK1.out; have := HK2.out; omega
              case rel => exact ⟨(y365), (((t361.length : Int) == ((rd_LInt x3_1 x7_2).length : Int))), (wrap64 (x7_2 + 1)), qT, qT, H', ⟨by have := HK1.out; have := HK2.out; omega⟩, ⟨by (with_reducible repeat (first | apply Kd.S_alloc | apply Kd.S_drewN | apply Kd.S_drew)); exact Kd.S_mono HO_3.out (fun _ hk => hk.2)⟩, ⟨qS HO367.out⟩, ⟨qK BK353.out⟩, ⟨qB⟩⟩
             ·rw [if_neg c21] at H
              exact absurd H (by simp)
            ·rw [if_neg c20] at H
             exact absurd H (by simp)
           ·rw [if_neg c19] at H
            exact absurd H (by simp)
          ·replace c18 := Bool.eq_false_iff.mpr c18
           subst c18
           have H1 : (if x5_2.length < 5864062014805 then (cubbyref11_In.l1 k2 x3_1 x4_1 (x5_2 ++ [t361]) false (wrap64 (x7_2 + 1)) a0_0 a0_1 a0_2 l0_3) else (none)) = some r := by rw [if_neg (show ¬ (false = true) by decide)] at H; exact H
           clear H
           have H := H1
           clear H1
           by_cases c27 : x5_2.length < 5864062014805
           ·rw [if_pos c27] at H
            have LMc27 := Aside0.mk c27
            clear c27
            obtain ⟨y368, hy368⟩ : ∃ y_ : List (List Int), y_ = (x5_2 ++ [t361]) := ⟨_, rfl⟩
            replace H : (cubbyref11_In.l1 k2 x3_1 x4_1 y368 false (wrap64 (x7_2 + 1)) a0_0 a0_1 a0_2 l0_3) = some r := by first | (rw [hy368]; with_reducible exact H) | (have H2_ := (Option.bind_some _ _).symm.trans H; rw [hy368]; with_reducible exact H2_) | (have H2_ := (Option.bind_some _ _).symm.trans H; with_reducible exact H2_) | with_reducible exact H | (rw [hy368]; exact H) | exact H
            have Ny368 := Aside0.mk hy368
            clear hy368
            have H' := Aside0.mk H
            clear H
            obtain ⟨hcz28_0, hcz28_1, hcz28_2, hcz28_3, hfz28_0, hfz28_1, hfz28_2, hfz28_3⟩ := bk4 BK353.out
            obtain ⟨Ao29, co29, eo29⟩ := Kd.S_slice HO_3.out
            subst eo29
            go_wp2_with (first | ((with_reducible refine gate_callee (f := 53) rfl ?_); refine goesL_ (some 38) rfl rfl Tryd.func53 (by kernel_rfl) rfl #[.agg #[.string a0_0, .int .i64 a0_1, .int .i64 a0_2, .slice A0_3 l0_3.length c0_3], .slice Ao29 x3_1.length co29, .int .i64 x7_2, .int .i64 0] rfl qL ?_; (with_reducible refine (cubbyref11_ahead.calls k2 a0_0 a0_1 a0_2 _ _ l0_3 _ _ x3_1 x7_2 0 t361 _ ?side1 ?side2 ?side3 ?side4 A17.out).mono ?_); (case side1 => exact qCB HR0_3.out); (case side2 => exact HC0_3.out); (case side3 => repeat (first | exact (Kd.S_reads' HO_3.out).2.2 | (with_reducible refine Kd.C_alloc ?_ _) | (with_reducible refine Kd.C_drewN ?_ _) | (with_reducible refine Kd.C_drew ?_))); (case side4 => exact (Kd.S_reads' HO_3.out).2.1); rintro e w30 ⟨v362, rfl, ho0, hb⟩; refine ⟨_, rfl, ?_⟩; replace HO_3 := Aside0.mk (Kd.S_elder' (qS HO_3.out) (Kd.R_base ho0) hb); replace HO_5 := Aside0.mk (Kd.S_elder' (qS HO_5.out) (Kd.R_base ho0) hb); have HO363 := Aside0.mk (Kd.R_lower ho0 (below_size qB)); replace BK353 := qW BK353 hb; replace HB := qH hb; (try clear hb); (try clear ho0); obtain ⟨Ao32, co32, eo32⟩ := Kd.R_slice HO363.out; subst eo32) | ((with_reducible refine gate_builtin (b := .append) (xs := #[.tmp 50, .tmp 52]) rfl ?_); (try (refine gate_guard (by rfl) ?_; dsimp only)); at_builtin; refine Kd.S_append (Kd.slice 3 (Kd.int .i64)) (w0 := w) w.heap.size rfl (.tmp 50) (.tmp 52) 44 29 (.slice none 0 0) 24 rfl Tryd.underlying44 info29 rfl (by decide) (by omega) u5 x5_2 t361 [.slice Ao32 t361.length co32] (fun k_ => some k_ ≠ (.slice Ao29 x3_1.length co29 : Value).ownBlock) (fun k_ => some k_ = (.slice Ao32 t361.length co32 : Value).ownBlock) rfl rfl ?aP (fun k_ hk_ => ((Kd.R_mono (ok' := fun k_ => ((fun k_ => some k_ ≠ (.slice Ao29 x3_1.length co29 : Value).ownBlock)) k_ ∧ some k_ ≠ (u5 : Value).ownBlock) (Kd.R_apart' (Kd.R_apart' (HO363.out) (Kd.S_typed HO_3.out) (by decide)) (Kd.S_typed HO_5.out) (by decide)) (fun k_ hk => ⟨hk.1.2, hk.2⟩))).1 k_ hk_.symm) ?aF ?aO ?aB ?aS ?aL ?_; (case aP => exact Kd.M_row (Kd.R_mono (Kd.R_tight rfl (Kd.R_mono (ok' := fun k_ => ((fun k_ => some k_ ≠ (.slice Ao29 x3_1.length co29 : Value).ownBlock)) k_ ∧ some k_ ≠ (u5 : Value).ownBlock) (Kd.R_apart' (Kd.R_apart' (HO363.out) (Kd.S_typed HO_3.out) (by decide)) (Kd.S_typed HO_5.out) (by decide)) (fun k_ hk => ⟨hk.1.2, hk.2⟩))) (fun _ h_ => h_))); (case aB => exact qB); (case aF => exact (fun k_ hk => Kd.fresh' (Kd.S_lt (qS HO_3.out)) k_ hk)); (case aO => exact (by (with_reducible repeat (first | apply Kd.S_alloc | apply Kd.S_drewN | apply Kd.S_drew)); exact Kd.S_mono HO_5.out (fun k_ hk => ⟨hk.1, fun e_ => hk.2 e_⟩))); (case aS => exact (below_size qB)); (case aL => have := LMc27.out; omega); intro v369 w31 ho hb hg hat; rw [← Ny368.out] at ho; replace HO_3 := Aside0.mk (Kd.S_after (ok := (fun k_ => some k_ ≠ (.slice Ao32 t361.length co32 : Value).ownBlock)) (by (with_reducible repeat (first | apply Kd.S_alloc | apply Kd.S_drewN | apply Kd.S_drew)); exact Kd.S_mono HO_3.out (fun _ hk => ⟨hk.2, hk.1⟩)) hg hat); replace BK353 := Aside0.mk (blk_grown (qK BK353.out) hg (Kd.S_ne HO_5.out BK353.out (by decide))); replace HB := Aside0.mk (hb); have HO370 := Aside0.mk (ho); clear HO_5 HO363; clear ho hb hg hat))
            go_roundg k2
            case measure => have := HK1.out; have := HK2.out; omega
            case rel => exact ⟨(y368), (false), (wrap64 (x7_2 + 1)), qT, qT, H', ⟨by have := HK1.out; have := HK2.out; omega⟩, ⟨by (with_reducible repeat (first | apply Kd.S_alloc | apply Kd.S_drewN | apply Kd.S_drew)); exact Kd.S_mono HO_3.out (fun _ hk => hk.2)⟩, ⟨qS HO370.out⟩, ⟨qK BK353.out⟩, ⟨qB⟩⟩
           ·rw [if_neg c27] at H
            exact absurd H (by simp)
         ·rw [if_neg c16] at H
          have c16b0 := decide_eq_false c16
          clear c16
          by_cases c33 : x6_2 = true
          ·subst c33
           have H1 : (some x5_2) = some r := by rw [if_pos rfl] at H; exact H
           clear H
           have H := H1
           clear H1
           obtain rfl := Option.some.inj H
           obtain ⟨hcz34_0, hcz34_1, hcz34_2, hcz34_3, hfz34_0, hfz34_1, hfz34_2, hfz34_3⟩ := bk4 BK353.out
           go_wp2
           go_ret
           exact ⟨_, qE, by (with_reducible repeat (first | apply Kd.S_alloc | apply Kd.S_drewN | apply Kd.S_drew)); exact Kd.S_mono HO_5.out (fun _ hk => trivial), qB⟩
          ·replace c33 := Bool.eq_false_iff.mpr c33
           subst c33
           have H1 : (cubbyref11_In.l0 k2 x5_2 (wrap64 (x4_1 + 1)) a0_0 a0_1 a0_2 l0_3) = some r := by rw [if_neg (show ¬ (false = true) by decide)] at H; exact H
           clear H
           have H := H1
           clear H1
           have H' := Aside0.mk H
           clear H
           obtain ⟨hcz35_0, hcz35_1, hcz35_2, hcz35_3, hfz35_0, hfz35_1, hfz35_2, hfz35_3⟩ := bk4 BK353.out
           go_wp2
           go_roundg k2
           case measure => have := HK1.out; have := HK2.out; omega
           case rel => exact ⟨(x5_2), (wrap64 (x4_1 + 1)), qT, H', ⟨by have := HK1.out; have := HK2.out; omega⟩, ⟨by (with_reducible repeat (first | apply Kd.S_alloc | apply Kd.S_drewN | apply Kd.S_drew)); exact Kd.S_mono HO_5.out (fun _ hk => trivial)⟩, ⟨qK BK353.out⟩, ⟨qB⟩⟩
      ·rw [if_neg c12] at H
       have c12b0 := decide_eq_false c12
       clear c12
       obtain rfl := Option.some.inj H
       obtain ⟨hcz36_0, hcz36_1, hcz36_2, hcz36_3, hfz36_0, hfz36_1, hfz36_2, hfz36_3⟩ := bk4 BK353.out
       go_wp2
       go_ret
       exact ⟨_, qE, qS HO_3.out, qB⟩
   ·rw [if_neg c5] at H
    exact absurd H (by simp)
  ·rw [if_neg c4] at H
   exact absurd H (by simp)
 ·rw [if_neg c3] at H
  obtain ⟨c3b0, c3b1⟩ := qn c3
  obtain rfl := Option.some.inj H
  go_enter Tryd.func28, Tryd.ntmps28
  go_wp2_with (first | ((with_reducible refine gate_dst (N := 1) rfl ?_); (try (refine gate_guard (by rfl) ?_; dsimp only)); refine box_event (by rfl) (N := 1) (by rfl) (cs := #[.string a0_0, .int .i64 a0_1, .int .i64 a0_2, .slice A0_3 l0_3.length c0_3]) (t := 34) ?hr ?_; (case hr => first | (go_simp; done) | (go_simp; rfl)); intro gb353 hg w37 hbox hb; have BK353 := Aside0.mk (hbox); have GW353 := qG hg; have GE353 := GW353; replace HB := qH hb; clear hb hbox hg; obtain ⟨hcz38_0, hcz38_1, hcz38_2, hcz38_3, hfz38_0, hfz38_1, hfz38_2, hfz38_3⟩ := bk4 BK353.out) | ((with_reducible refine gate_callee (f := 17) rfl ?_); refine goesL_ (some 10) rfl rfl Tryd.func17 (by kernel_rfl) rfl #[.agg #[.string a0_0, .int .i64 a0_1, .int .i64 a0_2, .slice A0_3 l0_3.length c0_3]] rfl qL ?_; (with_reducible refine (cubbyref07_Check.calls k a0_0 a0_1 a0_2 _ _ l0_3 t354 _ ?side1 ?side2 A2.out).mono ?_); (case side1 => exact qCB HR0_3.out); (case side2 => exact HC0_3.out); rintro e w39 ⟨rfl, hb⟩; refine ⟨_, rfl, ?_⟩; replace BK353 := qW BK353 hb; replace HB := qH hb; (try clear hb)))
  go_ret
  exact ⟨_, qE, by first | exact Kd.S_nil _ _ _ _ _ | exact Kd.N_nil _ _ _ _ _ | exact Kd.V_nil _ _ _ _ _ | exact Kd.Q_nil _ _ _ _ _ | exact Kd.R_nil _ _ _ _ _, qB⟩

end Go.Proofs.YtebnnknijbgekaaDoor.Q
namespace Go.Proofs.YtebnnknijbgekaaDoor.Q
open Go.RowKit Go.Proofs.YtebnnknijbgekaaDoorW.PrintWords Go.Proofs.YtebnnknijbgekaaDoorW.PrintLast Go.Proofs.YtebnnknijbgekaaDoorW.PrintMore
attribute [local go_sem] max2_int min2_int max_two min_two max_three min_three max_four min_four   -- for this text's walks alone
set_option linter.unusedVariables false
set_option linter.unusedSimpArgs false

/-! ### cubbyref11_Check: function 29 -/
def cubbyref11_Check.l0 : Nat → List Int → Int → ByteArray → Int → Int → List (List (SIns)) → Option (Int)
 | 0, _, _, _, _, _, _ => none
 | k + 1, x4, x5, x438000, x438001, x438002, x438003 => if x5 < (x4.length : Int) then (if 0 ≤ x5 then (if (rd x4 x5) ≥ x438001 then (some 110) else (cubbyref11_Check.l0 k x4 (wrap64 (x5 + 1)) x438000 x438001 x438002 x438003)) else (none)) else (some 0)
def cubbyref11_Check.f (k : Nat) (a0_0 : ByteArray) (a0_1 : Int) (a0_2 : Int) (l0_3 : List (List (SIns))) : Option (Int) := (cubbyref07_Check.f k a0_0 a0_1 a0_2 l0_3).bind fun t438 => (if t438 = 0 then ((cubbyref11_In.f k a0_0 a0_1 a0_2 l0_3).bind fun t439 => (if 0 < (t439.length : Int) then (cubbyref11_Check.l0 k (rd_LInt t439 0) 0 a0_0 a0_1 a0_2 l0_3) else (none))) else (some t438))
theorem cubbyref11_Check.mono_l : ∀ k, (∀ y0 y1 y2 y3 y4 y5, LeO (cubbyref11_Check.l0 k y0 y1 y2 y3 y4 y5) (cubbyref11_Check.l0 (k + 1) y0 y1 y2 y3 y4 y5))
 | 0 => fun _ _ _ _ _ _ r h => by simp [cubbyref11_Check.l0] at h
 | k + 1 => by
  have ih0 := cubbyref11_Check.mono_l k
  ·intro y0 y1 y2 y3 y4 y5
   unfold cubbyref11_Check.l0
   repeat' first | (with_reducible exact ih0 _ _ _ _ _ _) | (with_reducible exact cubbyref07_Check.mono _ _ _ _ _) | (with_reducible exact cubbyref11_In.mono _ _ _ _ _) | (with_reducible exact LeO.refl _) | (with_reducible exact LeO.none _) | (with_reducible refine LeO.ite ?_ ?_) | (with_reducible refine LeO.bind ?_ (fun _ => ?_)) | exact LeO.none _ | refine LeO.ite ?_ ?_ | refine LeO.bind ?_ (fun _ => ?_)
theorem cubbyref11_Check.mono : ∀ a0 a1 a2 a3 k, LeO (cubbyref11_Check.f k a0 a1 a2 a3) (cubbyref11_Check.f (k + 1) a0 a1 a2 a3) := by
 intro a0 a1 a2 a3 k
 have ih0 := cubbyref11_Check.mono_l k
 unfold cubbyref11_Check.f
 repeat' first | (with_reducible exact ih0 _ _ _ _ _ _) | (with_reducible exact cubbyref07_Check.mono _ _ _ _ _) | (with_reducible exact cubbyref11_In.mono _ _ _ _ _) | (with_reducible exact LeO.refl _) | (with_reducible exact LeO.none _) | (with_reducible refine LeO.ite ?_ ?_) | (with_reducible refine LeO.bind ?_ (fun _ => ?_)) | exact LeO.none _ | refine LeO.ite ?_ ?_ | refine LeO.bind ?_ (fun _ => ?_)
set_option maxHeartbeats 8000000 in
set_option maxRecDepth 100000 in
theorem cubbyref11_Check.calls (k : Nat) (a0_0 : ByteArray) (a0_1 : Int) (a0_2 : Int) (A0_3 : Option Addr) (c0_3 : Nat) (l0_3 : List (List (SIns))) (r : Int) (w : World) (hr0_3 : Kd.C (Kd.slice 31 kIns) w A0_3 l0_3.length l0_3) (hc0_3 : l0_3.length ≤ c0_3) (h : cubbyref11_Check.f k a0_0 a0_1 a0_2 l0_3 = some r) :
  Calls Tryd.prog 29 #[.agg #[.string a0_0, .int .i64 a0_1, .int .i64 a0_2, .slice A0_3 l0_3.length c0_3]] w fun e w' => e = .returned (.int .i64 r) ∧ Below w.heap.size w w' := by
 have hu34 := Tryd.underlying34
 have HR0_3 := Aside0.mk hr0_3
 have HC0_3 := Aside0.mk hc0_3
 clear hr0_3 hc0_3
 have HB := Aside0.mk (Below.refl w.heap.size w)
 have H := h; clear h; unfold cubbyref11_Check.f at H
 replace H := qb H; obtain ⟨t438, A2, H⟩ := H
 by_cases c3 : t438 = 0
 ·rw [if_pos c3] at H
  obtain ⟨c3b0, c3b1⟩ := qe c3; clear c3
  replace H := qb H; obtain ⟨t439, A4, H⟩ := H
  by_cases c5 : 0 < (t439.length : Int)
  ·rw [if_pos c5] at H
   have c5b0 := decide_eq_true c5
   have c5b1 : decide (0 < t439.length) = true := decide_eq_true (by omega)
   clear c5
   have H' := Aside0.mk H
   clear H
   go_enter Tryd.func29, Tryd.ntmps29
   go_wp2_with (first | ((with_reducible refine gate_dst (N := 1) rfl ?_); refine box_event (by rfl) (N := 1) (by rfl) (cs := #[.string a0_0, .int .i64 a0_1, .int .i64 a0_2, .slice A0_3 l0_3.length c0_3]) (t := 34) ?hr ?_; (case hr => first | (go_simp; done) | (go_simp; rfl)); intro gb437 hg w6 hbox hb; have BK437 := Aside0.mk (hbox); have GW437 := qG hg; have GE437 := GW437; replace HB := qH hb; clear hb hbox hg; obtain ⟨hcz7_0, hcz7_1, hcz7_2, hcz7_3, hfz7_0, hfz7_1, hfz7_2, hfz7_3⟩ := bk4 BK437.out) | (go_at_call 17; (with_reducible refine (cubbyref07_Check.calls k a0_0 a0_1 a0_2 _ _ l0_3 t438 _ ?side1 ?side2 A2.out).mono ?_); (case side1 => exact qCB HR0_3.out); (case side2 => exact HC0_3.out); rintro e w8 ⟨rfl, hb⟩; replace BK437 := qW BK437 hb; replace HB := qH hb; (try clear hb); obtain ⟨hcz9_0, hcz9_1, hcz9_2, hcz9_3, hfz9_0, hfz9_1, hfz9_2, hfz9_3⟩ := bk4 BK437.out) | (go_at_call 28; (with_reducible refine (cubbyref11_In.calls k a0_0 a0_1 a0_2 _ _ l0_3 t439 _ ?side1 ?side2 A4.out).mono ?_); (case side1 => exact qCB HR0_3.out); (case side2 => exact HC0_3.out); rintro e w10 ⟨v440, rfl, ho0, hb⟩; have HO441 := Aside0.mk (Kd.S_lower ho0 (below_size qB)); replace BK437 := qW BK437 hb; replace HB := qH hb; (try clear hb); (try clear ho0); obtain ⟨Ao11, co11, eo11⟩ := Kd.S_slice HO441.out; subst eo11; have p442 : 0 ≤ (0 : Int) := (by omega); have q442 : 0 < (t439.length : Int) := of_decide_eq_true qA; obtain ⟨ad442, A442_0, c442_0, e442, hx442_0, hl442_0, hi442_0⟩ := at_LInt (Kd.S_reads' HO441.out).2.2 0 p442 q442; cases e442; obtain ⟨ce442, hce442, hMe442, hcc442⟩ := Kd.S_get HO441.out [] 0 p442 (by first | exact q442 | exact of_decide_eq_true qA | (have e_ := (Kd.S_reads' HO441.out).1; omega)); obtain ⟨ve442_0, rfl, ge442_0⟩ := hMe442; have hv442_0 := hcc442 0 _ rfl; rw [Nat.add_zero, show ((Kd.slice 3 (Kd.int .i64))).sz = 1 from rfl, Nat.mul_one] at hv442_0; replace hv442_0 := Option.some.inj (hv442_0.symm.trans hx442_0); rw [hv442_0] at ge442_0; have HL442_0 := Aside0.mk (show Kd.R (Kd.int .i64) 3 _ _ _ _ (rd_LInt t439 0) from ge442_0); clear hv442_0 ge442_0; clear hcc442 hce442; have qi442 : (0 < t439.length) = True := eq_true (by omega); (try rw [show ((0 : Int)).toNat = 0 from rfl] at hx442_0); (try rw [Addr.add_zero'] at hx442_0); have HR442_0 := Aside0.mk hi442_0; have HC442_0 := Aside0.mk hl442_0; clear hi442_0 hl442_0; replace p442 := eq_true p442; replace q442 := eq_true q442))
   repeat (go_quiet (first | ((with_reducible refine gate_dst (N := 1) rfl ?_); refine box_event (by rfl) (N := 1) (by rfl) (cs := #[.string a0_0, .int .i64 a0_1, .int .i64 a0_2, .slice A0_3 l0_3.length c0_3]) (t := 34) ?hr ?_; (case hr => first | (go_simp; done) | (go_simp; rfl)); intro gb437 hg w6 hbox hb; have BK437 := Aside0.mk (hbox); have GW437 := qG hg; have GE437 := GW437; replace HB := qH hb; clear hb hbox hg; obtain ⟨hcz7_0, hcz7_1, hcz7_2, hcz7_3, hfz7_0, hfz7_1, hfz7_2, hfz7_3⟩ := bk4 BK437.out) | (go_at_call 17; (with_reducible refine (cubbyref07_Check.calls k a0_0 a0_1 a0_2 _ _ l0_3 t438 _ ?side1 ?side2 A2.out).mono ?_); (case side1 => exact qCB HR0_3.out); (case side2 => exact HC0_3.out); rintro e w8 ⟨rfl, hb⟩; replace BK437 := qW BK437 hb; replace HB := qH hb; (try clear hb); obtain ⟨hcz9_0, hcz9_1, hcz9_2, hcz9_3, hfz9_0, hfz9_1, hfz9_2, hfz9_3⟩ := bk4 BK437.out) | (go_at_call 28; (with_reducible refine (cubbyref11_In.calls k a0_0 a0_1 a0_2 _ _ l0_3 t439 _ ?side1 ?side2 A4.out).mono ?_); (case side1 => exact qCB HR0_3.out); (case side2 => exact HC0_3.out); rintro e w10 ⟨v440, rfl, ho0, hb⟩; have HO441 := Aside0.mk (Kd.S_lower ho0 (below_size qB)); replace BK437 := qW BK437 hb; replace HB := qH hb; (try clear hb); (try clear ho0); obtain ⟨Ao11, co11, eo11⟩ := Kd.S_slice HO441.out; subst eo11; have p442 : 0 ≤ (0 : Int) := (by omega); have q442 : 0 < (t439.length : Int) := of_decide_eq_true qA; obtain ⟨ad442, A442_0, c442_0, e442, hx442_0, hl442_0, hi442_0⟩ := at_LInt (Kd.S_reads' HO441.out).2.2 0 p442 q442; cases e442; obtain ⟨ce442, hce442, hMe442, hcc442⟩ := Kd.S_get HO441.out [] 0 p442 (by first | exact q442 | exact of_decide_eq_true qA | (have e_ := (Kd.S_reads' HO441.out).1; omega)); obtain ⟨ve442_0, rfl, ge442_0⟩ := hMe442; have hv442_0 := hcc442 0 _ rfl; rw [Nat.add_zero, show ((Kd.slice 3 (Kd.int .i64))).sz = 1 from rfl, Nat.mul_one] at hv442_0; replace hv442_0 := Option.some.inj (hv442_0.symm.trans hx442_0); rw [hv442_0] at ge442_0; have HL442_0 := Aside0.mk (show Kd.R (Kd.int .i64) 3 _ _ _ _ (rd_LInt t439 0) from ge442_0); clear hv442_0 ge442_0; clear hcc442 hce442; have qi442 : (0 < t439.length) = True := eq_true (by omega); (try rw [show ((0 : Int)).toNat = 0 from rfl] at hx442_0); (try rw [Addr.add_zero'] at hx442_0); have HR442_0 := Aside0.mk hi442_0; have HC442_0 := Aside0.mk hl442_0; clear hi442_0 hl442_0; replace p442 := eq_true p442; replace q442 := eq_true q442)); try go_wp2_with (first | ((with_reducible refine gate_dst (N := 1) rfl ?_); refine box_event (by rfl) (N := 1) (by rfl) (cs := #[.string a0_0, .int .i64 a0_1, .int .i64 a0_2, .slice A0_3 l0_3.length c0_3]) (t := 34) ?hr ?_; (case hr => first | (go_simp; done) | (go_simp; rfl)); intro gb437 hg w6 hbox hb; have BK437 := Aside0.mk (hbox); have GW437 := qG hg; have GE437 := GW437; replace HB := qH hb; clear hb hbox hg; obtain ⟨hcz7_0, hcz7_1, hcz7_2, hcz7_3, hfz7_0, hfz7_1, hfz7_2, hfz7_3⟩ := bk4 BK437.out) | (go_at_call 17; (with_reducible refine (cubbyref07_Check.calls k a0_0 a0_1 a0_2 _ _ l0_3 t438 _ ?side1 ?side2 A2.out).mono ?_); (case side1 => exact qCB HR0_3.out); (case side2 => exact HC0_3.out); rintro e w8 ⟨rfl, hb⟩; replace BK437 := qW BK437 hb; replace HB := qH hb; (try clear hb); obtain ⟨hcz9_0, hcz9_1, hcz9_2, hcz9_3, hfz9_0, hfz9_1, hfz9_2, hfz9_3⟩ := bk4 BK437.out) | (go_at_call 28; (with_reducible refine (cubbyref11_In.calls k a0_0 a0_1 a0_2 _ _ l0_3 t439 _ ?side1 ?side2 A4.out).mono ?_); (case side1 => exact qCB HR0_3.out); (case side2 => exact HC0_3.out); rintro e w10 ⟨v440, rfl, ho0, hb⟩; have HO441 := Aside0.mk (Kd.S_lower ho0 (below_size qB)); replace BK437 := qW BK437 hb; replace HB := qH hb; (try clear hb); (try clear ho0); obtain ⟨Ao11, co11, eo11⟩ := Kd.S_slice HO441.out; subst eo11; have p442 : 0 ≤ (0 : Int) := (by omega); have q442 : 0 < (t439.length : Int) := of_decide_eq_true qA; obtain ⟨ad442, A442_0, c442_0, e442, hx442_0, hl442_0, hi442_0⟩ := at_LInt (Kd.S_reads' HO441.out).2.2 0 p442 q442; cases e442; obtain ⟨ce442, hce442, hMe442, hcc442⟩ := Kd.S_get HO441.out [] 0 p442 (by first | exact q442 | exact of_decide_eq_true qA | (have e_ := (Kd.S_reads' HO441.out).1; omega)); obtain ⟨ve442_0, rfl, ge442_0⟩ := hMe442; have hv442_0 := hcc442 0 _ rfl; rw [Nat.add_zero, show ((Kd.slice 3 (Kd.int .i64))).sz = 1 from rfl, Nat.mul_one] at hv442_0; replace hv442_0 := Option.some.inj (hv442_0.symm.trans hx442_0); rw [hv442_0] at ge442_0; have HL442_0 := Aside0.mk (show Kd.R (Kd.int .i64) 3 _ _ _ _ (rd_LInt t439 0) from ge442_0); clear hv442_0 ge442_0; clear hcc442 hce442; have qi442 : (0 < t439.length) = True := eq_true (by omega); (try rw [show ((0 : Int)).toNat = 0 from rfl] at hx442_0); (try rw [Addr.add_zero'] at hx442_0); have HR442_0 := Aside0.mk hi442_0; have HC442_0 := Aside0.mk hl442_0; clear hi442_0 hl442_0; replace p442 := eq_true p442; replace q442 := eq_true q442)))
   go_loopg [5] k (fun kq v5 w' => ∃ (x5_1 : Int), v5 = .int .i64 x5_1 ∧ Aside0 (cubbyref11_Check.l0 kq (rd_LInt t439 0) x5_1 a0_0 a0_1 a0_2 l0_3 = some r) ∧ Aside0 (kq ≤ k) ∧ Aside0 (w'.heap[gb437]? = some (.cells #[.string a0_0, .int .i64 a0_1, .int .i64 a0_2, (.slice A0_3 l0_3.length c0_3)] 34 (0, 0))) ∧ Aside0 (Kd.C (Kd.int .i64) w' A442_0 (rd_LInt t439 0).length (rd_LInt t439 0)) ∧ Aside0 (Below w.heap.size w w'))
   case atStart => exact ⟨(0), qT, H', ⟨Nat.le_refl _⟩, ⟨qK BK437.out⟩, ⟨by repeat (first | (with_reducible exact HR442_0.out) | (with_reducible refine Kd.C_alloc ?_ _) | (with_reducible refine Kd.C_drewN ?_ _) | (with_reducible refine Kd.C_drew ?_) | exact HR442_0.out)⟩, ⟨qB⟩⟩
   case round =>
    clear H'
    try clear c2; try clear p2; try clear c3; try clear c3b0 c3b1; try clear c4; try clear p4; try clear q4; try clear hx4; try clear qi4; try clear c5; try clear c5b0 c5b1; try clear hcz7_0 hcz7_1 hcz7_2 hcz7_3 hfz7_0 hfz7_1 hfz7_2 hfz7_3; try clear hcz9_0 hcz9_1 hcz9_2 hcz9_3 hfz9_0 hfz9_1 hfz9_2 hfz9_3; try clear hx442_0; try clear p442; try clear q442
    obtain ⟨x5_1, rfl, HA, HK1, BK437, HR442_0, HB⟩ := hrel
    cases gk with
    | zero => exact absurd HA.out (by simp [cubbyref11_Check.l0])
    | succ k1 =>
     have H := HA.out
     clear HA
     simp only [cubbyref11_Check.l0] at H
     by_cases c12 : x5_1 < ((rd_LInt t439 0).length : Int)
     ·rw [if_pos c12] at H
      have c12b0 := decide_eq_true c12
      clear c12
      by_cases c13 : 0 ≤ x5_1
      ·rw [if_pos c13] at H
       have c13b0 := decide_eq_true c13
       clear c13
       by_cases c14 : (rd (rd_LInt t439 0) x5_1) ≥ a0_1
       ·rw [if_pos c14] at H
        have c14b0 : decide (a0_1 ≤ (rd (rd_LInt t439 0) x5_1)) = true := decide_eq_true c14
        clear c14
        obtain rfl := Option.some.inj H
        have p443 : 0 ≤ (x5_1 : Int) := of_decide_eq_true qA
        have q443 : x5_1 < ((rd_LInt t439 0).length : Int) := of_decide_eq_true qA
        obtain ⟨ad443, e443, hx443_0⟩ := Kd.at_int HR442_0.out x5_1 p443 q443
        cases e443
        (try replace hx443_0 := (HB.out.cell (World.block_lt_of_cell? w _ hx443_0)).trans hx443_0)
        replace p443 := eq_true p443
        replace q443 := eq_true q443
        obtain ⟨hcz15_0, hcz15_1, hcz15_2, hcz15_3, hfz15_0, hfz15_1, hfz15_2, hfz15_3⟩ := bk4 BK437.out
        go_wp2
        repeat (go_quiet (fail); try go_wp2)
        go_ret
        exact ⟨qE, qB⟩
       ·rw [if_neg c14] at H
        have c14b0 : decide (a0_1 ≤ (rd (rd_LInt t439 0) x5_1)) = false := decide_eq_false c14
        clear c14
        have H' := Aside0.mk H
        clear H
        have p443 : 0 ≤ (x5_1 : Int) := of_decide_eq_true qA
        have q443 : x5_1 < ((rd_LInt t439 0).length : Int) := of_decide_eq_true qA
        obtain ⟨ad443, e443, hx443_0⟩ := Kd.at_int HR442_0.out x5_1 p443 q443
        cases e443
        (try replace hx443_0 := (HB.out.cell (World.block_lt_of_cell? w _ hx443_0)).trans hx443_0)
        replace p443 := eq_true p443
        replace q443 := eq_true q443
        obtain ⟨hcz16_0, hcz16_1, hcz16_2, hcz16_3, hfz16_0, hfz16_1, hfz16_2, hfz16_3⟩ := bk4 BK437.out
        go_wp2
        repeat (go_quiet (fail); try go_wp2)
        go_roundg k1
        case measure => have := HK1.out; omega
        case rel => exact ⟨(wrap64 (x5_1 + 1)), qT, H', ⟨by have := HK1.out; omega⟩, ⟨qK BK437.out⟩, ⟨by repeat (first | (with_reducible exact HR442_0.out) | (with_reducible refine Kd.C_alloc ?_ _) | (with_reducible refine Kd.C_drewN ?_ _) | (with_reducible refine Kd.C_drew ?_) | exact HR442_0.out)⟩, ⟨qB⟩⟩
      ·rw [if_neg c13] at H
       exact absurd H (by simp)
     ·rw [if_neg c12] at H
      have c12b0 := decide_eq_false c12
      clear c12
      obtain rfl := Option.some.inj H
      go_wp2
      repeat (go_quiet (fail); try go_wp2)
      go_ret
      exact ⟨qE, qB⟩
  ·rw [if_neg c5] at H
   exact absurd H (by simp)
 ·rw [if_neg c3] at H
  obtain ⟨c3b0, c3b1⟩ := qn c3
  obtain rfl := Option.some.inj H
  go_enter Tryd.func29, Tryd.ntmps29
  go_wp2_with (first | ((with_reducible refine gate_dst (N := 1) rfl ?_); refine box_event (by rfl) (N := 1) (by rfl) (cs := #[.string a0_0, .int .i64 a0_1, .int .i64 a0_2, .slice A0_3 l0_3.length c0_3]) (t := 34) ?hr ?_; (case hr => first | (go_simp; done) | (go_simp; rfl)); intro gb437 hg w17 hbox hb; have BK437 := Aside0.mk (hbox); have GW437 := qG hg; have GE437 := GW437; replace HB := qH hb; clear hb hbox hg; obtain ⟨hcz18_0, hcz18_1, hcz18_2, hcz18_3, hfz18_0, hfz18_1, hfz18_2, hfz18_3⟩ := bk4 BK437.out) | (go_at_call 17; (with_reducible refine (cubbyref07_Check.calls k a0_0 a0_1 a0_2 _ _ l0_3 t438 _ ?side1 ?side2 A2.out).mono ?_); (case side1 => exact qCB HR0_3.out); (case side2 => exact HC0_3.out); rintro e w19 ⟨rfl, hb⟩; replace BK437 := qW BK437 hb; replace HB := qH hb; (try clear hb)))
  repeat (go_quiet (first | ((with_reducible refine gate_dst (N := 1) rfl ?_); refine box_event (by rfl) (N := 1) (by rfl) (cs := #[.string a0_0, .int .i64 a0_1, .int .i64 a0_2, .slice A0_3 l0_3.length c0_3]) (t := 34) ?hr ?_; (case hr => first | (go_simp; done) | (go_simp; rfl)); intro gb437 hg w17 hbox hb; have BK437 := Aside0.mk (hbox); have GW437 := qG hg; have GE437 := GW437; replace HB := qH hb; clear hb hbox hg; obtain ⟨hcz18_0, hcz18_1, hcz18_2, hcz18_3, hfz18_0, hfz18_1, hfz18_2, hfz18_3⟩ := bk4 BK437.out) | (go_at_call 17; (with_reducible refine (cubbyref07_Check.calls k a0_0 a0_1 a0_2 _ _ l0_3 t438 _ ?side1 ?side2 A2.out).mono ?_); (case side1 => exact qCB HR0_3.out); (case side2 => exact HC0_3.out); rintro e w19 ⟨rfl, hb⟩; replace BK437 := qW BK437 hb; replace HB := qH hb; (try clear hb))); try go_wp2_with (first | ((with_reducible refine gate_dst (N := 1) rfl ?_); refine box_event (by rfl) (N := 1) (by rfl) (cs := #[.string a0_0, .int .i64 a0_1, .int .i64 a0_2, .slice A0_3 l0_3.length c0_3]) (t := 34) ?hr ?_; (case hr => first | (go_simp; done) | (go_simp; rfl)); intro gb437 hg w17 hbox hb; have BK437 := Aside0.mk (hbox); have GW437 := qG hg; have GE437 := GW437; replace HB := qH hb; clear hb hbox hg; obtain ⟨hcz18_0, hcz18_1, hcz18_2, hcz18_3, hfz18_0, hfz18_1, hfz18_2, hfz18_3⟩ := bk4 BK437.out) | (go_at_call 17; (with_reducible refine (cubbyref07_Check.calls k a0_0 a0_1 a0_2 _ _ l0_3 t438 _ ?side1 ?side2 A2.out).mono ?_); (case side1 => exact qCB HR0_3.out); (case side2 => exact HC0_3.out); rintro e w19 ⟨rfl, hb⟩; replace BK437 := qW BK437 hb; replace HB := qH hb; (try clear hb))))
  go_ret
  exact ⟨qE, qB⟩

end Go.Proofs.YtebnnknijbgekaaDoor.Q
namespace Go.Proofs.YtebnnknijbgekaaDoor.Q
open Go.RowKit Go.Proofs.YtebnnknijbgekaaDoorW.PrintWords Go.Proofs.YtebnnknijbgekaaDoorW.PrintLast Go.Proofs.YtebnnknijbgekaaDoorW.PrintMore
attribute [local go_sem] max2_int min2_int max_two min_two max_three min_three max_four min_four   -- for this text's walks alone
set_option linter.unusedVariables false
set_option linter.unusedSimpArgs false

/-! ### cubbylaw12_heavy: function 30 -/
mutual
def cubbylaw12_heavy.j0 : Nat → Bool → ByteArray → Int → Int → List (List (SIns)) → Option (Bool)
 | 0, _, _, _, _, _ => none
 | k + 1, x24, x486000, x486001, x486002, x486003 => if x24 = true then (some true) else (cubbylaw12_heavy.l0 k 0 0 x486000 x486001 x486002 x486003)
def cubbylaw12_heavy.l0 : Nat → Int → Int → ByteArray → Int → Int → List (List (SIns)) → Option (Bool)
 | 0, _, _, _, _, _, _ => none
 | k + 1, x3, x4, x486000, x486001, x486002, x486003 => if x4 < (x486003.length : Int) then (if 0 ≤ x4 then (cubbylaw12_heavy.l0 k (wrap64 (x3 + ((rd_LIns x486003 x4).length : Int))) (wrap64 (x4 + 1)) x486000 x486001 x486002 x486003) else (none)) else (some (decide (x3 > 60)))
end
def cubbylaw12_heavy.f (k : Nat) (a0_0 : ByteArray) (a0_1 : Int) (a0_2 : Int) (l0_3 : List (List (SIns))) : Option (Bool) := if (a0_0.size : Int) > 100 then (cubbylaw12_heavy.j0 k true a0_0 a0_1 a0_2 l0_3) else (if (l0_3.length : Int) > 8 then (cubbylaw12_heavy.j0 k true a0_0 a0_1 a0_2 l0_3) else (if a0_2 > 24 then (cubbylaw12_heavy.j0 k true a0_0 a0_1 a0_2 l0_3) else ((cubbyref11_Check.f k a0_0 a0_1 a0_2 l0_3).bind fun t486 => (cubbylaw12_heavy.j0 k (t486 != 0) a0_0 a0_1 a0_2 l0_3))))
theorem cubbylaw12_heavy.mono_l : ∀ k, (∀ y0 y1 y2 y3 y4, LeO (cubbylaw12_heavy.j0 k y0 y1 y2 y3 y4) (cubbylaw12_heavy.j0 (k + 1) y0 y1 y2 y3 y4)) ∧ (∀ y0 y1 y2 y3 y4 y5, LeO (cubbylaw12_heavy.l0 k y0 y1 y2 y3 y4 y5) (cubbylaw12_heavy.l0 (k + 1) y0 y1 y2 y3 y4 y5))
 | 0 => ⟨fun _ _ _ _ _ r h => by simp [cubbylaw12_heavy.j0] at h, fun _ _ _ _ _ _ r h => by simp [cubbylaw12_heavy.l0] at h⟩
 | k + 1 => by
  obtain ⟨ih0, ih1⟩ := cubbylaw12_heavy.mono_l k
  refine ⟨?_, ?_⟩ <;> intros <;> (first | unfold cubbylaw12_heavy.j0 | unfold cubbylaw12_heavy.l0) <;> repeat' first | (with_reducible exact ih0 _ _ _ _ _) | (with_reducible exact ih1 _ _ _ _ _ _) | (with_reducible exact cubbyref11_Check.mono _ _ _ _ _) | (with_reducible exact LeO.refl _) | (with_reducible exact LeO.none _) | (with_reducible refine LeO.ite ?_ ?_) | (with_reducible refine LeO.bind ?_ (fun _ => ?_)) | exact LeO.none _ | refine LeO.ite ?_ ?_ | refine LeO.bind ?_ (fun _ => ?_)
theorem cubbylaw12_heavy.mono : ∀ a0 a1 a2 a3 k, LeO (cubbylaw12_heavy.f k a0 a1 a2 a3) (cubbylaw12_heavy.f (k + 1) a0 a1 a2 a3) := by
 intro a0 a1 a2 a3 k
 obtain ⟨ih0, ih1⟩ := cubbylaw12_heavy.mono_l k
 unfold cubbylaw12_heavy.f
 repeat' first | (with_reducible exact ih0 _ _ _ _ _) | (with_reducible exact ih1 _ _ _ _ _ _) | (with_reducible exact cubbyref11_Check.mono _ _ _ _ _) | (with_reducible exact LeO.refl _) | (with_reducible exact LeO.none _) | (with_reducible refine LeO.ite ?_ ?_) | (with_reducible refine LeO.bind ?_ (fun _ => ?_)) | exact LeO.none _ | refine LeO.ite ?_ ?_ | refine LeO.bind ?_ (fun _ => ?_)
set_option maxHeartbeats 8000000 in
set_option maxRecDepth 100000 in
theorem cubbylaw12_heavy.calls (k : Nat) (a0_0 : ByteArray) (a0_1 : Int) (a0_2 : Int) (A0_3 : Option Addr) (c0_3 : Nat) (l0_3 : List (List (SIns))) (r : Bool) (w : World) (hr0_3 : Kd.C (Kd.slice 31 kIns) w A0_3 l0_3.length l0_3) (hc0_3 : l0_3.length ≤ c0_3) (h : cubbylaw12_heavy.f k a0_0 a0_1 a0_2 l0_3 = some r) :
  Calls Tryd.prog 30 #[.agg #[.string a0_0, .int .i64 a0_1, .int .i64 a0_2, .slice A0_3 l0_3.length c0_3]] w fun e w' => e = .returned (.bool r) ∧ Below w.heap.size w w' := by
 have hu34 := Tryd.underlying34
 have HR0_3 := Aside0.mk hr0_3
 have HC0_3 := Aside0.mk hc0_3
 clear hr0_3 hc0_3
 have HB := Aside0.mk (Below.refl w.heap.size w)
 have H := h; clear h; unfold cubbylaw12_heavy.f at H
 have HC2 := Aside0.mk H
 clear H
 go_enter Tryd.func30, Tryd.ntmps30
 go_upto_region 1 with (first | ((with_reducible refine gate_dst (N := 1) rfl ?_); (try (refine gate_guard (by rfl) ?_; dsimp only)); refine box_event (by rfl) (N := 1) (by rfl) (cs := #[.string a0_0, .int .i64 a0_1, .int .i64 a0_2, .slice A0_3 l0_3.length c0_3]) (t := 34) ?hr ?_; (case hr => first | (go_simp; done) | (go_simp; rfl)); intro gb485 hg w3 hbox hb; have BK485 := Aside0.mk (hbox); have GW485 := qG hg; have GE485 := GW485; replace HB := qH hb; clear hb hbox hg))
 (try simp only [Act.put, List.setIfInBounds_toArray, List.set_cons_zero, List.set_cons_succ])
 go_cut [24] (fun v24 wc => ∃ (kq : Nat) (x24_1 : Bool), v24 = .bool x24_1 ∧ Aside0 (cubbylaw12_heavy.j0 kq x24_1 a0_0 a0_1 a0_2 l0_3 = some r) ∧ Aside0 (kq ≤ k) ∧ Aside0 (wc.heap[gb485]? = some (.cells #[.string a0_0, .int .i64 a0_1, .int .i64 a0_2, (.slice A0_3 l0_3.length c0_3)] 34 (0, 0))) ∧ Aside0 (Below w.heap.size w wc))
 case first =>
  have H := HC2.out
  clear HC2
  by_cases c4 : (a0_0.size : Int) > 100
  ·rw [if_pos c4] at H
   have c4b0 : decide (100 < (a0_0.size : Int)) = true := decide_eq_true c4
   have c4b1 : decide (100 < a0_0.size) = true := decide_eq_true (by omega)
   clear c4
   (first | rw [c4b0] | (simp only [i64_w, i32_w]; rw [c4b0]) | skip)
   have H' := Aside0.mk H
   clear H
   obtain ⟨hcz5_0, hcz5_1, hcz5_2, hcz5_3, hfz5_0, hfz5_1, hfz5_2, hfz5_3⟩ := bk4 BK485.out
   go_wp2
   go_meet
   case rel => exact ⟨_, (true), qT, H', ⟨qO⟩, ⟨qK BK485.out⟩, ⟨qB⟩⟩
  ·rw [if_neg c4] at H
   have c4b0 : decide (100 < (a0_0.size : Int)) = false := decide_eq_false c4
   have c4b1 : decide (100 < a0_0.size) = false := decide_eq_false (by omega)
   clear c4
   (first | rw [c4b0] | (simp only [i64_w, i32_w]; rw [c4b0]) | skip)
   by_cases c6 : (l0_3.length : Int) > 8
   ·rw [if_pos c6] at H
    have c6b0 : decide (8 < (l0_3.length : Int)) = true := decide_eq_true c6
    have c6b1 : decide (8 < l0_3.length) = true := decide_eq_true (by omega)
    clear c6
    have H' := Aside0.mk H
    clear H
    obtain ⟨hcz7_0, hcz7_1, hcz7_2, hcz7_3, hfz7_0, hfz7_1, hfz7_2, hfz7_3⟩ := bk4 BK485.out
    go_wp2
    go_meet
    case rel => exact ⟨_, (true), qT, H', ⟨qO⟩, ⟨qK BK485.out⟩, ⟨qB⟩⟩
   ·rw [if_neg c6] at H
    have c6b0 : decide (8 < (l0_3.length : Int)) = false := decide_eq_false c6
    have c6b1 : decide (8 < l0_3.length) = false := decide_eq_false (by omega)
    clear c6
    by_cases c8 : a0_2 > 24
    ·rw [if_pos c8] at H
     have c8b0 : decide (24 < a0_2) = true := decide_eq_true c8
     clear c8
     have H' := Aside0.mk H
     clear H
     obtain ⟨hcz9_0, hcz9_1, hcz9_2, hcz9_3, hfz9_0, hfz9_1, hfz9_2, hfz9_3⟩ := bk4 BK485.out
     go_wp2
     go_meet
     case rel => exact ⟨_, (true), qT, H', ⟨qO⟩, ⟨qK BK485.out⟩, ⟨qB⟩⟩
    ·rw [if_neg c8] at H
     have c8b0 : decide (24 < a0_2) = false := decide_eq_false c8
     clear c8
     replace H := qb H; obtain ⟨t486, A10, H⟩ := H
     have H' := Aside0.mk H
     clear H
     obtain ⟨hcz11_0, hcz11_1, hcz11_2, hcz11_3, hfz11_0, hfz11_1, hfz11_2, hfz11_3⟩ := bk4 BK485.out
     go_wp2_with (first | (go_at_call 29; (with_reducible refine (cubbyref11_Check.calls k a0_0 a0_1 a0_2 _ _ l0_3 t486 _ ?side1 ?side2 A10.out).mono ?_); (case side1 => exact qCB HR0_3.out); (case side2 => exact HC0_3.out); (try clear A10); rintro e w12 ⟨rfl, hb⟩; replace BK485 := qW BK485 hb; replace HB := qH hb; (try clear hb)))
     go_meet
     case rel => exact ⟨_, ((t486 != 0)), qT, H', ⟨qO⟩, ⟨qK BK485.out⟩, ⟨qB⟩⟩
 case rest =>
  clear HC2
  try clear p2; try clear c3; try clear c4; try clear c4b0 c4b1; try clear c6; try clear c6b0 c6b1; try clear c8; try clear c8b0; try clear hcz11_0 hcz11_1 hcz11_2 hcz11_3 hfz11_0 hfz11_1 hfz11_2 hfz11_3; try clear hcz5_0 hcz5_1 hcz5_2 hcz5_3 hfz5_0 hfz5_1 hfz5_2 hfz5_3; try clear hcz7_0 hcz7_1 hcz7_2 hcz7_3 hfz7_0 hfz7_1 hfz7_2 hfz7_3; try clear hcz9_0 hcz9_1 hcz9_2 hcz9_3 hfz9_0 hfz9_1 hfz9_2 hfz9_3
  obtain ⟨kq, x24_1, rfl, HA, HJ1, BK485, HB⟩ := hcut
  cases kq with
  | zero => exact absurd HA.out (by simp [cubbylaw12_heavy.j0])
  | succ kj1 =>
   have H := HA.out
   clear HA
   simp only [cubbylaw12_heavy.j0] at H
   by_cases c13 : x24_1 = true
   ·subst c13
    have H1 : (some true) = some r := by rw [if_pos rfl] at H; exact H
    clear H
    have H := H1
    clear H1
    obtain rfl := Option.some.inj H
    go_wp2
    go_ret
    exact ⟨qE, qB⟩
   ·replace c13 := Bool.eq_false_iff.mpr c13
    subst c13
    have H1 : (cubbylaw12_heavy.l0 kj1 0 0 a0_0 a0_1 a0_2 l0_3) = some r := by rw [if_neg (show ¬ (false = true) by decide)] at H; exact H
    clear H
    have H := H1
    clear H1
    have H' := Aside0.mk H
    clear H
    go_wp2
    go_loopg [3, 4] kj1 (fun kq v3 v4 w' => ∃ (x3_2 : Int) (x4_2 : Int), v3 = .int .i64 x3_2 ∧ v4 = .int .i64 x4_2 ∧ Aside0 (cubbylaw12_heavy.l0 kq x3_2 x4_2 a0_0 a0_1 a0_2 l0_3 = some r) ∧ Aside0 (kq ≤ kj1) ∧ Aside0 (w'.heap[gb485]? = some (.cells #[.string a0_0, .int .i64 a0_1, .int .i64 a0_2, (.slice A0_3 l0_3.length c0_3)] 34 (0, 0))) ∧ Aside0 (Below w.heap.size w w'))
    case atStart => exact ⟨(0), (0), qT, qT, H', ⟨Nat.le_refl _⟩, ⟨qK BK485.out⟩, ⟨qB⟩⟩
    case round =>
     clear H'
     try clear c1; try clear p2; try clear c3; try clear c4; try clear c4b0 c4b1; try clear c6; try clear c6b0 c6b1; try clear c8; try clear c8b0; try clear c13; try clear hcz11_0 hcz11_1 hcz11_2 hcz11_3 hfz11_0 hfz11_1 hfz11_2 hfz11_3; try clear hcz5_0 hcz5_1 hcz5_2 hcz5_3 hfz5_0 hfz5_1 hfz5_2 hfz5_3; try clear hcz7_0 hcz7_1 hcz7_2 hcz7_3 hfz7_0 hfz7_1 hfz7_2 hfz7_3; try clear hcz9_0 hcz9_1 hcz9_2 hcz9_3 hfz9_0 hfz9_1 hfz9_2 hfz9_3
     obtain ⟨x3_2, x4_2, rfl, rfl, HA, HK2, BK485, HB⟩ := hrel
     cases gk with
     | zero => exact absurd HA.out (by simp [cubbylaw12_heavy.l0])
     | succ k2 =>
      have H := HA.out
      clear HA
      simp only [cubbylaw12_heavy.l0] at H
      by_cases c14 : x4_2 < (l0_3.length : Int)
      ·rw [if_pos c14] at H
       have c14b0 := decide_eq_true c14
       clear c14
       by_cases c15 : 0 ≤ x4_2
       ·rw [if_pos c15] at H
        have c15b0 := decide_eq_true c15
        clear c15
        have H' := Aside0.mk H
        clear H
        obtain ⟨hcz16_0, hcz16_1, hcz16_2, hcz16_3, hfz16_0, hfz16_1, hfz16_2, hfz16_3⟩ := bk4 BK485.out
        have p487 : 0 ≤ (x4_2 : Int) := of_decide_eq_true qA
        have q487 : x4_2 < (l0_3.length : Int) := of_decide_eq_true qA
        obtain ⟨ad487, A487_0, c487_0, e487, hx487_0, hl487_0, hi487_0⟩ := at_LIns HR0_3.out x4_2 p487 q487
        cases e487
        replace hx487_0 := (HB.out.cell (World.block_lt_of_cell? w _ hx487_0)).trans hx487_0
        have HR487_0 := Aside0.mk hi487_0
        have HC487_0 := Aside0.mk hl487_0
        clear hi487_0 hl487_0
        replace p487 := eq_true p487
        replace q487 := eq_true q487
        go_wp2
        go_roundg k2
        case measure => have := HJ1.out; have := HK2.out; omega
        case rel => exact ⟨(wrap64 (x3_2 + ((rd_LIns l0_3 x4_2).length : Int))), (wrap64 (x4_2 + 1)), qT, qT, H', ⟨by have := HJ1.out; have := HK2.out; omega⟩, ⟨qK BK485.out⟩, ⟨qB⟩⟩
       ·rw [if_neg c15] at H
        exact absurd H (by simp)
      ·rw [if_neg c14] at H
       have c14b0 := decide_eq_false c14
       clear c14
       obtain rfl := Option.some.inj H
       obtain ⟨hcz17_0, hcz17_1, hcz17_2, hcz17_3, hfz17_0, hfz17_1, hfz17_2, hfz17_3⟩ := bk4 BK485.out
       go_wp2
       go_ret
       exact ⟨qE, qB⟩

end Go.Proofs.YtebnnknijbgekaaDoor.Q
namespace Go.Proofs.YtebnnknijbgekaaDoor.Q
open Go.RowKit Go.Proofs.YtebnnknijbgekaaDoorW.PrintWords Go.Proofs.YtebnnknijbgekaaDoorW.PrintLast Go.Proofs.YtebnnknijbgekaaDoorW.PrintMore
attribute [local go_sem] max2_int min2_int max_two min_two max_three min_three max_four min_four   -- for this text's walks alone
set_option linter.unusedVariables false
set_option linter.unusedSimpArgs false

/-! ### span_Meet: function 31 -/
def span_Meet.f (a0_0 : Int) (a0_1 : Int) (a1_0 : Int) (a1_1 : Int) : Option (Bool) := if a0_0 ≥ 0 then (if a1_0 ≥ 0 then (if a0_0 ≤ a0_1 then (if a1_0 ≤ a1_1 then (some (decide ((mx a0_0 a1_0) ≤ (mn a0_1 a1_1)))) else (some false)) else (some false)) else (some false)) else (some false)
set_option maxHeartbeats 8000000 in
set_option maxRecDepth 100000 in
theorem span_Meet.calls (a0_0 : Int) (a0_1 : Int) (a1_0 : Int) (a1_1 : Int) (r : Bool) (w : World) (h : span_Meet.f a0_0 a0_1 a1_0 a1_1 = some r) :
  Calls Tryd.prog 31 #[.agg #[.int .i64 a0_0, .int .i64 a0_1], .agg #[.int .i64 a1_0, .int .i64 a1_1]] w fun e w' => e = .returned (.bool r) ∧ Below w.heap.size w w' := by
 have hu49 := Tryd.underlying49
 have HB := Aside0.mk (Below.refl w.heap.size w)
 have H := h; clear h; unfold span_Meet.f at H
 by_cases c3 : a0_0 ≥ 0
 ·rw [if_pos c3] at H
  have c3b0 : decide (0 ≤ a0_0) = true := decide_eq_true c3
  clear c3
  by_cases c4 : a1_0 ≥ 0
  ·rw [if_pos c4] at H
   have c4b0 : decide (0 ≤ a1_0) = true := decide_eq_true c4
   clear c4
   by_cases c5 : a0_0 ≤ a0_1
   ·rw [if_pos c5] at H
    have c5b0 := decide_eq_true c5
    clear c5
    by_cases c6 : a1_0 ≤ a1_1
    ·rw [if_pos c6] at H
     have c6b0 := decide_eq_true c6
     clear c6
     obtain ⟨ji7, hji7⟩ : ∃ j_ : Int, (mx a0_0 a1_0) = j_ := ⟨_, rfl⟩
     replace H : (some (decide ((ji7) ≤ (mn a0_1 a1_1)))) = some r := by first | (rw [hji7] at H; exact H) | (simp only [hji7] at H ⊢; exact H)
     have hji7_ : (if a0_0 < a1_0 then a1_0 else a0_0) = ji7 := hji7
     obtain ⟨ji8, hji8⟩ : ∃ j_ : Int, (mn a0_1 a1_1) = j_ := ⟨_, rfl⟩
     replace H : (some (decide ((ji7) ≤ (ji8)))) = some r := by first | (rw [hji8] at H; exact H) | (simp only [hji8] at H ⊢; exact H)
     have hji8_ : (if a1_1 < a0_1 then a1_1 else a0_1) = ji8 := hji8
     obtain rfl := Option.some.inj H
     go_enter Tryd.func31, Tryd.ntmps31
     go_wp2_with (first | ((with_reducible refine gate_dst (N := 2) rfl ?_); (try (refine gate_guard (by rfl) ?_; dsimp only)); refine box_event (by rfl) (N := 2) (by rfl) (cs := #[.int .i64 a0_0, .int .i64 a0_1]) (t := 49) ?hr ?_; (case hr => first | (go_simp; done) | (go_simp; rfl)); intro gb488 hg w9 hbox hb; have BK488 := Aside0.mk (hbox); have GW488 := qG hg; have GE488 := GW488; replace HB := qH hb; clear hb hbox hg) | ((with_reducible refine gate_dst (N := 3) rfl ?_); (try (refine gate_guard (by rfl) ?_; dsimp only)); refine box_event (by rfl) (N := 3) (by rfl) (cs := #[.int .i64 a1_0, .int .i64 a1_1]) (t := 49) ?hr ?_; (case hr => first | (go_simp; done) | (go_simp; rfl)); intro gb489 hg w10 hbox hb; have BK489 := Aside0.mk (hbox); have GW489 := qG hg; have GE489 := GW489; replace HB := qH hb; have NB488_489 := Aside0.mk ((by rw [hg]; exact Nat.ne_of_lt (blk_lt (g := gb488) (o := .cells #[.int .i64 a0_0, .int .i64 a0_1] 49 (0, 0)) (qK BK488.out)) : gb488 ≠ gb489)); have NB489_488 := Aside0.mk ((by rw [hg]; exact Nat.ne_of_gt (blk_lt (g := gb488) (o := .cells #[.int .i64 a0_0, .int .i64 a0_1] 49 (0, 0)) (qK BK488.out)) : gb489 ≠ gb488)); replace BK488 := qW BK488 hb; clear hb hbox hg; have hnb11 := NB488_489.out; have hnc11 := NB489_488.out; obtain ⟨hcz12_0, hcz12_1, hfz12_0, hfz12_1⟩ := bk2 BK488.out; obtain ⟨hcz13_0, hcz13_1, hfz13_0, hfz13_1⟩ := bk2 BK489.out))
     go_ret
     exact ⟨by first | rfl | (simp [errW_none, errW_some] <;> rfl) | (simp only [← hji7, ← hji8]; first | rfl | (simp [errW_none, errW_some] <;> rfl)) | (simp [*, errW_none, errW_some] <;> rfl), qB⟩
    ·rw [if_neg c6] at H
     have c6b0 := decide_eq_false c6
     clear c6
     obtain rfl := Option.some.inj H
     go_enter Tryd.func31, Tryd.ntmps31
     go_wp2_with (first | ((with_reducible refine gate_dst (N := 2) rfl ?_); (try (refine gate_guard (by rfl) ?_; dsimp only)); refine box_event (by rfl) (N := 2) (by rfl) (cs := #[.int .i64 a0_0, .int .i64 a0_1]) (t := 49) ?hr ?_; (case hr => first | (go_simp; done) | (go_simp; rfl)); intro gb488 hg w14 hbox hb; have BK488 := Aside0.mk (hbox); have GW488 := qG hg; have GE488 := GW488; replace HB := qH hb; clear hb hbox hg) | ((with_reducible refine gate_dst (N := 3) rfl ?_); (try (refine gate_guard (by rfl) ?_; dsimp only)); refine box_event (by rfl) (N := 3) (by rfl) (cs := #[.int .i64 a1_0, .int .i64 a1_1]) (t := 49) ?hr ?_; (case hr => first | (go_simp; done) | (go_simp; rfl)); intro gb489 hg w15 hbox hb; have BK489 := Aside0.mk (hbox); have GW489 := qG hg; have GE489 := GW489; replace HB := qH hb; have NB488_489 := Aside0.mk ((by rw [hg]; exact Nat.ne_of_lt (blk_lt (g := gb488) (o := .cells #[.int .i64 a0_0, .int .i64 a0_1] 49 (0, 0)) (qK BK488.out)) : gb488 ≠ gb489)); have NB489_488 := Aside0.mk ((by rw [hg]; exact Nat.ne_of_gt (blk_lt (g := gb488) (o := .cells #[.int .i64 a0_0, .int .i64 a0_1] 49 (0, 0)) (qK BK488.out)) : gb489 ≠ gb488)); replace BK488 := qW BK488 hb; clear hb hbox hg; have hnb16 := NB488_489.out; have hnc16 := NB489_488.out; obtain ⟨hcz17_0, hcz17_1, hfz17_0, hfz17_1⟩ := bk2 BK488.out; obtain ⟨hcz18_0, hcz18_1, hfz18_0, hfz18_1⟩ := bk2 BK489.out))
     go_ret
     exact ⟨qE, qB⟩
   ·rw [if_neg c5] at H
    have c5b0 := decide_eq_false c5
    clear c5
    obtain rfl := Option.some.inj H
    go_enter Tryd.func31, Tryd.ntmps31
    go_wp2_with (first | ((with_reducible refine gate_dst (N := 2) rfl ?_); (try (refine gate_guard (by rfl) ?_; dsimp only)); refine box_event (by rfl) (N := 2) (by rfl) (cs := #[.int .i64 a0_0, .int .i64 a0_1]) (t := 49) ?hr ?_; (case hr => first | (go_simp; done) | (go_simp; rfl)); intro gb488 hg w19 hbox hb; have BK488 := Aside0.mk (hbox); have GW488 := qG hg; have GE488 := GW488; replace HB := qH hb; clear hb hbox hg) | ((with_reducible refine gate_dst (N := 3) rfl ?_); (try (refine gate_guard (by rfl) ?_; dsimp only)); refine box_event (by rfl) (N := 3) (by rfl) (cs := #[.int .i64 a1_0, .int .i64 a1_1]) (t := 49) ?hr ?_; (case hr => first | (go_simp; done) | (go_simp; rfl)); intro gb489 hg w20 hbox hb; have BK489 := Aside0.mk (hbox); have GW489 := qG hg; have GE489 := GW489; replace HB := qH hb; have NB488_489 := Aside0.mk ((by rw [hg]; exact Nat.ne_of_lt (blk_lt (g := gb488) (o := .cells #[.int .i64 a0_0, .int .i64 a0_1] 49 (0, 0)) (qK BK488.out)) : gb488 ≠ gb489)); have NB489_488 := Aside0.mk ((by rw [hg]; exact Nat.ne_of_gt (blk_lt (g := gb488) (o := .cells #[.int .i64 a0_0, .int .i64 a0_1] 49 (0, 0)) (qK BK488.out)) : gb489 ≠ gb488)); replace BK488 := qW BK488 hb; clear hb hbox hg; have hnb21 := NB488_489.out; have hnc21 := NB489_488.out; obtain ⟨hcz22_0, hcz22_1, hfz22_0, hfz22_1⟩ := bk2 BK488.out; obtain ⟨hcz23_0, hcz23_1, hfz23_0, hfz23_1⟩ := bk2 BK489.out))
    go_ret
    exact ⟨qE, qB⟩
  ·rw [if_neg c4] at H
   have c4b0 : decide (0 ≤ a1_0) = false := decide_eq_false c4
   clear c4
   obtain rfl := Option.some.inj H
   go_enter Tryd.func31, Tryd.ntmps31
   go_wp2_with (first | ((with_reducible refine gate_dst (N := 2) rfl ?_); (try (refine gate_guard (by rfl) ?_; dsimp only)); refine box_event (by rfl) (N := 2) (by rfl) (cs := #[.int .i64 a0_0, .int .i64 a0_1]) (t := 49) ?hr ?_; (case hr => first | (go_simp; done) | (go_simp; rfl)); intro gb488 hg w24 hbox hb; have BK488 := Aside0.mk (hbox); have GW488 := qG hg; have GE488 := GW488; replace HB := qH hb; clear hb hbox hg) | ((with_reducible refine gate_dst (N := 3) rfl ?_); (try (refine gate_guard (by rfl) ?_; dsimp only)); refine box_event (by rfl) (N := 3) (by rfl) (cs := #[.int .i64 a1_0, .int .i64 a1_1]) (t := 49) ?hr ?_; (case hr => first | (go_simp; done) | (go_simp; rfl)); intro gb489 hg w25 hbox hb; have BK489 := Aside0.mk (hbox); have GW489 := qG hg; have GE489 := GW489; replace HB := qH hb; have NB488_489 := Aside0.mk ((by rw [hg]; exact Nat.ne_of_lt (blk_lt (g := gb488) (o := .cells #[.int .i64 a0_0, .int .i64 a0_1] 49 (0, 0)) (qK BK488.out)) : gb488 ≠ gb489)); have NB489_488 := Aside0.mk ((by rw [hg]; exact Nat.ne_of_gt (blk_lt (g := gb488) (o := .cells #[.int .i64 a0_0, .int .i64 a0_1] 49 (0, 0)) (qK BK488.out)) : gb489 ≠ gb488)); replace BK488 := qW BK488 hb; clear hb hbox hg; have hnb26 := NB488_489.out; have hnc26 := NB489_488.out; obtain ⟨hcz27_0, hcz27_1, hfz27_0, hfz27_1⟩ := bk2 BK488.out; obtain ⟨hcz28_0, hcz28_1, hfz28_0, hfz28_1⟩ := bk2 BK489.out))
   go_ret
   exact ⟨qE, qB⟩
 ·rw [if_neg c3] at H
  have c3b0 : decide (0 ≤ a0_0) = false := decide_eq_false c3
  clear c3
  obtain rfl := Option.some.inj H
  go_enter Tryd.func31, Tryd.ntmps31
  go_wp2_with (first | ((with_reducible refine gate_dst (N := 2) rfl ?_); (try (refine gate_guard (by rfl) ?_; dsimp only)); refine box_event (by rfl) (N := 2) (by rfl) (cs := #[.int .i64 a0_0, .int .i64 a0_1]) (t := 49) ?hr ?_; (case hr => first | (go_simp; done) | (go_simp; rfl)); intro gb488 hg w29 hbox hb; have BK488 := Aside0.mk (hbox); have GW488 := qG hg; have GE488 := GW488; replace HB := qH hb; clear hb hbox hg) | ((with_reducible refine gate_dst (N := 3) rfl ?_); (try (refine gate_guard (by rfl) ?_; dsimp only)); refine box_event (by rfl) (N := 3) (by rfl) (cs := #[.int .i64 a1_0, .int .i64 a1_1]) (t := 49) ?hr ?_; (case hr => first | (go_simp; done) | (go_simp; rfl)); intro gb489 hg w30 hbox hb; have BK489 := Aside0.mk (hbox); have GW489 := qG hg; have GE489 := GW489; replace HB := qH hb; have NB488_489 := Aside0.mk ((by rw [hg]; exact Nat.ne_of_lt (blk_lt (g := gb488) (o := .cells #[.int .i64 a0_0, .int .i64 a0_1] 49 (0, 0)) (qK BK488.out)) : gb488 ≠ gb489)); have NB489_488 := Aside0.mk ((by rw [hg]; exact Nat.ne_of_gt (blk_lt (g := gb488) (o := .cells #[.int .i64 a0_0, .int .i64 a0_1] 49 (0, 0)) (qK BK488.out)) : gb489 ≠ gb488)); replace BK488 := qW BK488 hb; clear hb hbox hg; have hnb31 := NB488_489.out; have hnc31 := NB489_488.out; obtain ⟨hcz32_0, hcz32_1, hfz32_0, hfz32_1⟩ := bk2 BK488.out))
  go_ret
  exact ⟨qE, qB⟩

end Go.Proofs.YtebnnknijbgekaaDoor.Q
namespace Go.Proofs.YtebnnknijbgekaaDoor.Q
open Go.RowKit Go.Proofs.YtebnnknijbgekaaDoorW.PrintWords Go.Proofs.YtebnnknijbgekaaDoorW.PrintLast Go.Proofs.YtebnnknijbgekaaDoorW.PrintMore
attribute [local go_sem] max2_int min2_int max_two min_two max_three min_three max_four min_four   -- for this text's walks alone
set_option linter.unusedVariables false
set_option linter.unusedSimpArgs false

/-! ### ir_Targets: function 91 -/
def ir_Targets.f (a0_0 : Int) (a0_1 : Int) (a0_2 : Int) (a0_3 : Int) (a0_4 : ByteArray) (l0_5 : List Int) : Option (List Int) := if a0_0 = 12 then (some (([a0_2] : List Int))) else (if a0_0 = 13 then (some (([a0_3, a0_1] : List Int))) else (some ([] : List Int)))
set_option maxHeartbeats 8000000 in
set_option maxRecDepth 100000 in
theorem ir_Targets.calls (a0_0 : Int) (a0_1 : Int) (a0_2 : Int) (a0_3 : Int) (a0_4 : ByteArray) (A0_5 : Option Addr) (c0_5 : Nat) (l0_5 : List Int) (r : List Int) (w : World) (hr0_5 : Kd.C (Kd.int .i64) w A0_5 l0_5.length l0_5) (hc0_5 : l0_5.length ≤ c0_5) (h : ir_Targets.f a0_0 a0_1 a0_2 a0_3 a0_4 l0_5 = some r) :
  Calls Tryd.prog 91 #[.agg #[.int .i64 a0_0, .int .i64 a0_1, .int .i64 a0_2, .int .i64 a0_3, .string a0_4, .slice A0_5 l0_5.length c0_5]] w fun e w' => ∃ v0_ : Value, e = .returned (v0_) ∧ Kd.R (Kd.int .i64) 3 w' w.heap.size (fun _ => True) v0_ r ∧ Below w.heap.size w w' := by
 have hu31 := Tryd.underlying31
 have HR0_5 := Aside0.mk hr0_5
 have HC0_5 := Aside0.mk hc0_5
 clear hr0_5 hc0_5
 have HB := Aside0.mk (Below.refl w.heap.size w)
 have H := h; clear h; unfold ir_Targets.f at H
 by_cases c2 : a0_0 = 12
 ·rw [if_pos c2] at H
  obtain ⟨c2b0, c2b1⟩ := qe c2; clear c2
  obtain ⟨y171, hy171⟩ : ∃ y_ : List Int, y_ = (([a0_2] : List Int)) := ⟨_, rfl⟩
  replace H : (some y171) = some r := by first | (rw [hy171]; with_reducible exact H) | (have H2_ := (Option.bind_some _ _).symm.trans H; rw [hy171]; with_reducible exact H2_) | (have H2_ := (Option.bind_some _ _).symm.trans H; with_reducible exact H2_) | with_reducible exact H | (rw [hy171]; exact H) | exact H
  have Ny171 := Aside0.mk hy171
  clear hy171
  obtain rfl := Option.some.inj H
  go_enter Tryd.func91, Tryd.ntmps91
  go_wp2_with (first | ((with_reducible refine gate_dst (N := 1) rfl ?_); refine box_event (by rfl) (N := 1) (by rfl) (cs := #[.int .i64 a0_0, .int .i64 a0_1, .int .i64 a0_2, .int .i64 a0_3, .string a0_4, .slice A0_5 l0_5.length c0_5]) (t := 31) ?hr ?_; (case hr => first | (go_simp; done) | (go_simp; rfl)); intro gb170 hg w3 hbox hb; have BK170 := Aside0.mk (hbox); have GW170 := qG hg; have GE170 := GW170; replace HB := qH hb; clear hb hbox hg; obtain ⟨hcz4_0, hcz4_1, hcz4_2, hcz4_3, hcz4_4, hcz4_5, hfz4_0, hfz4_1, hfz4_2, hfz4_3, hfz4_4, hfz4_5⟩ := bk6 BK170.out) | ((with_reducible refine gate_dst (N := 9) rfl ?_); refine Kd.R_lit (Kd.int .i64) _ 3 (by rfl) (N := 9) (by rfl) (xs := ([a0_2] : List Int)) (inner := [.int .i64 a0_2]) (ok := fun _ => True) (okp := fun _ => True) ?hr ?hp (fun _ hk => hk) trivial (Below.refl _ _) (Nat.le_refl _) (by simp) ?_; (case hr => first | (go_simp; done) | (go_simp; rfl)); (case hp => exact (Reps.one (show Kd.M (Kd.int .i64) _ _ _ a0_2 [.int .i64 a0_2] from rfl) (Reps.none _ _))); intro v172 w5 ho6 hb hg_ hnew_; clear hg_ hnew_; (first | rw [← Ny171.out] at ho6 | (simp only [Int.reduceToNat] at ho6; rw [← Ny171.out] at ho6)); have HO173 := Aside0.mk (Kd.R_lower ho6 (below_size qB)); replace BK170 := qW BK170 hb; replace HB := qH hb; clear hb ho6))
  go_ret
  exact ⟨_, qE, qR HO173.out, qB⟩
 ·rw [if_neg c2] at H
  obtain ⟨c2b0, c2b1⟩ := qn c2
  by_cases c7 : a0_0 = 13
  ·rw [if_pos c7] at H
   obtain ⟨c7b0, c7b1⟩ := qe c7; clear c7
   obtain ⟨y174, hy174⟩ : ∃ y_ : List Int, y_ = (([a0_3, a0_1] : List Int)) := ⟨_, rfl⟩
   replace H : (some y174) = some r := by first | (rw [hy174]; with_reducible exact H) | (have H2_ := (Option.bind_some _ _).symm.trans H; rw [hy174]; with_reducible exact H2_) | (have H2_ := (Option.bind_some _ _).symm.trans H; with_reducible exact H2_) | with_reducible exact H | (rw [hy174]; exact H) | exact H
   have Ny174 := Aside0.mk hy174
   clear hy174
   obtain rfl := Option.some.inj H
   go_enter Tryd.func91, Tryd.ntmps91
   go_wp2_with (first | ((with_reducible refine gate_dst (N := 1) rfl ?_); refine box_event (by rfl) (N := 1) (by rfl) (cs := #[.int .i64 a0_0, .int .i64 a0_1, .int .i64 a0_2, .int .i64 a0_3, .string a0_4, .slice A0_5 l0_5.length c0_5]) (t := 31) ?hr ?_; (case hr => first | (go_simp; done) | (go_simp; rfl)); intro gb170 hg w8 hbox hb; have BK170 := Aside0.mk (hbox); have GW170 := qG hg; have GE170 := GW170; replace HB := qH hb; clear hb hbox hg; obtain ⟨hcz9_0, hcz9_1, hcz9_2, hcz9_3, hcz9_4, hcz9_5, hfz9_0, hfz9_1, hfz9_2, hfz9_3, hfz9_4, hfz9_5⟩ := bk6 BK170.out) | ((with_reducible refine gate_dst (N := 16) rfl ?_); refine Kd.R_lit (Kd.int .i64) _ 3 (by rfl) (N := 16) (by rfl) (xs := ([a0_3, a0_1] : List Int)) (inner := [.int .i64 a0_3, .int .i64 a0_1]) (ok := fun _ => True) (okp := fun _ => True) ?hr ?hp (fun _ hk => hk) trivial (Below.refl _ _) (Nat.le_refl _) (by simp) ?_; (case hr => first | (go_simp; done) | (go_simp; rfl)); (case hp => exact (Reps.one (show Kd.M (Kd.int .i64) _ _ _ a0_3 [.int .i64 a0_3] from rfl) (Reps.one (show Kd.M (Kd.int .i64) _ _ _ a0_1 [.int .i64 a0_1] from rfl) (Reps.none _ _)))); intro v175 w10 ho11 hb hg_ hnew_; clear hg_ hnew_; (first | rw [← Ny174.out] at ho11 | (simp only [Int.reduceToNat] at ho11; rw [← Ny174.out] at ho11)); have HO176 := Aside0.mk (Kd.R_lower ho11 (below_size qB)); replace BK170 := qW BK170 hb; replace HB := qH hb; clear hb ho11))
   go_ret
   exact ⟨_, qE, qR HO176.out, qB⟩
  ·rw [if_neg c7] at H
   obtain ⟨c7b0, c7b1⟩ := qn c7
   obtain rfl := Option.some.inj H
   go_enter Tryd.func91, Tryd.ntmps91
   go_wp2_with (first | ((with_reducible refine gate_dst (N := 1) rfl ?_); refine box_event (by rfl) (N := 1) (by rfl) (cs := #[.int .i64 a0_0, .int .i64 a0_1, .int .i64 a0_2, .int .i64 a0_3, .string a0_4, .slice A0_5 l0_5.length c0_5]) (t := 31) ?hr ?_; (case hr => first | (go_simp; done) | (go_simp; rfl)); intro gb170 hg w12 hbox hb; have BK170 := Aside0.mk (hbox); have GW170 := qG hg; have GE170 := GW170; replace HB := qH hb; clear hb hbox hg; obtain ⟨hcz13_0, hcz13_1, hcz13_2, hcz13_3, hcz13_4, hcz13_5, hfz13_0, hfz13_1, hfz13_2, hfz13_3, hfz13_4, hfz13_5⟩ := bk6 BK170.out))
   go_ret
   exact ⟨_, qE, by first | exact Kd.R_nil _ _ _ _ _ | exact Kd.N_nil _ _ _ _ _ | exact Kd.V_nil _ _ _ _ _ | exact Kd.Q_nil _ _ _ _ _ | exact Kd.S_nil _ _ _ _ _, qB⟩

end Go.Proofs.YtebnnknijbgekaaDoor.Q
namespace Go.Proofs.YtebnnknijbgekaaDoor.Q
open Go.RowKit Go.Proofs.YtebnnknijbgekaaDoorW.PrintWords Go.Proofs.YtebnnknijbgekaaDoorW.PrintLast Go.Proofs.YtebnnknijbgekaaDoorW.PrintMore
attribute [local go_sem] max2_int min2_int max_two min_two max_three min_three max_four min_four   -- for this text's walks alone
set_option linter.unusedVariables false
set_option linter.unusedSimpArgs false

/-! ### slices_Index_int_int: function 104 -/
def slices_Index_int_int.l0 : Nat → List Int → Int → Int → Int → Option (Int)
 | 0, _, _, _, _ => none
 | k + 1, x0, x1, x7, x8 => if x8 < x7 then (if 0 ≤ x8 then (if x8 < (x0.length : Int) then (if x1 = (rd x0 x8) then (some x8) else (slices_Index_int_int.l0 k x0 x1 x7 (wrap64 (x8 + 1)))) else (none)) else (none)) else (some (-1))
def slices_Index_int_int.f (k : Nat) (l0 : List Int) (a1 : Int) : Option (Int) := slices_Index_int_int.l0 k l0 a1 (l0.length : Int) 0
theorem slices_Index_int_int.mono_l : ∀ k, (∀ y0 y1 y2 y3, LeO (slices_Index_int_int.l0 k y0 y1 y2 y3) (slices_Index_int_int.l0 (k + 1) y0 y1 y2 y3))
 | 0 => fun _ _ _ _ r h => by simp [slices_Index_int_int.l0] at h
 | k + 1 => by
  have ih0 := slices_Index_int_int.mono_l k
  ·intro y0 y1 y2 y3
   unfold slices_Index_int_int.l0
   repeat' first | (with_reducible exact ih0 _ _ _ _) | (with_reducible exact LeO.refl _) | (with_reducible exact LeO.none _) | (with_reducible refine LeO.ite ?_ ?_) | (with_reducible refine LeO.bind ?_ (fun _ => ?_)) | exact LeO.none _ | refine LeO.ite ?_ ?_ | refine LeO.bind ?_ (fun _ => ?_)
theorem slices_Index_int_int.mono : ∀ a0 a1 k, LeO (slices_Index_int_int.f k a0 a1) (slices_Index_int_int.f (k + 1) a0 a1) := by
 intro a0 a1 k
 have ih0 := slices_Index_int_int.mono_l k
 unfold slices_Index_int_int.f
 repeat' first | (with_reducible exact ih0 _ _ _ _) | (with_reducible exact LeO.refl _) | (with_reducible exact LeO.none _) | (with_reducible refine LeO.ite ?_ ?_) | (with_reducible refine LeO.bind ?_ (fun _ => ?_)) | exact LeO.none _ | refine LeO.ite ?_ ?_ | refine LeO.bind ?_ (fun _ => ?_)
set_option maxHeartbeats 8000000 in
set_option maxRecDepth 100000 in
theorem slices_Index_int_int.calls (k : Nat) (A0 : Option Addr) (c0 : Nat) (l0 : List Int) (a1 : Int) (r : Int) (w : World) (hr0 : Kd.C (Kd.int .i64) w A0 l0.length l0) (hc0 : l0.length ≤ c0) (h : slices_Index_int_int.f k l0 a1 = some r) :
  Calls Tryd.prog 104 #[.slice A0 l0.length c0, .int .i64 a1] w fun e w' => e = .returned (.int .i64 r) ∧ Drawn0 w w' := by
 have HR0 := Aside0.mk hr0
 have HC0 := Aside0.mk hc0
 clear hr0 hc0
 have H := h; clear h; unfold slices_Index_int_int.f at H
 have H' := Aside0.mk H
 clear H
 go_enter Tryd.func104, Tryd.ntmps104
 go_wp2
 go_loopg [8] k (fun kq v8 w' => ∃ (x8_1 : Int), v8 = .int .i64 x8_1 ∧ Aside0 (slices_Index_int_int.l0 kq l0 a1 (l0.length : Int) x8_1 = some r) ∧ Aside0 (kq ≤ k) ∧ Drawn0 w w')
 case atStart => exact ⟨(0), qT, H', ⟨Nat.le_refl _⟩, qD⟩
 case round =>
  clear H'
  try clear c1; try clear p2
  obtain ⟨x8_1, rfl, HA, HK1, ⟨m1, rfl⟩⟩ := hrel
  cases gk with
  | zero => exact absurd HA.out (by simp [slices_Index_int_int.l0])
  | succ k1 =>
   have H := HA.out
   clear HA
   simp only [slices_Index_int_int.l0] at H
   by_cases c3 : x8_1 < (l0.length : Int)
   ·rw [if_pos c3] at H
    have c3b0 := decide_eq_true c3
    clear c3
    by_cases c4 : 0 ≤ x8_1
    ·rw [if_pos c4] at H
     have c4b0 := decide_eq_true c4
     clear c4
     by_cases c5 : x8_1 < (l0.length : Int)
     ·rw [if_pos c5] at H
      have c5b0 := decide_eq_true c5
      clear c5
      by_cases c6 : a1 = (rd l0 x8_1)
      ·rw [if_pos c6] at H
       obtain ⟨c6b0, c6b1⟩ := qe c6; clear c6
       obtain rfl := Option.some.inj H
       have p201 : 0 ≤ (x8_1 : Int) := of_decide_eq_true qA
       have q201 : x8_1 < (l0.length : Int) := of_decide_eq_true qA
       obtain ⟨ad201, e201, hx201_0⟩ := Kd.at_int HR0.out x8_1 p201 q201
       cases e201
       replace p201 := eq_true p201
       replace q201 := eq_true q201
       go_wp2
       go_ret
       exact ⟨by first | rfl | (simp; done) | (simp [*]; done), qD⟩
      ·rw [if_neg c6] at H
       obtain ⟨c6b0, c6b1⟩ := qn c6
       have H' := Aside0.mk H
       clear H
       have p201 : 0 ≤ (x8_1 : Int) := of_decide_eq_true qA
       have q201 : x8_1 < (l0.length : Int) := of_decide_eq_true qA
       obtain ⟨ad201, e201, hx201_0⟩ := Kd.at_int HR0.out x8_1 p201 q201
       cases e201
       replace p201 := eq_true p201
       replace q201 := eq_true q201
       go_wp2
       go_roundg k1
       case measure => have := HK1.out; omega
       case rel => exact ⟨(wrap64 (x8_1 + 1)), qT, H', ⟨by have := HK1.out; omega⟩, qD⟩
     ·rw [if_neg c5] at H
      exact absurd H (by simp)
    ·rw [if_neg c4] at H
     exact absurd H (by simp)
   ·rw [if_neg c3] at H
    have c3b0 := decide_eq_false c3
    clear c3
    obtain rfl := Option.some.inj H
    go_wp2
    go_ret
    exact ⟨by first | rfl | (simp; done) | (simp [*]; done), qD⟩

end Go.Proofs.YtebnnknijbgekaaDoor.Q
namespace Go.Proofs.YtebnnknijbgekaaDoor.Q
open Go.RowKit Go.Proofs.YtebnnknijbgekaaDoorW.PrintWords Go.Proofs.YtebnnknijbgekaaDoorW.PrintLast Go.Proofs.YtebnnknijbgekaaDoorW.PrintMore
attribute [local go_sem] max2_int min2_int max_two min_two max_three min_three max_four min_four   -- for this text's walks alone
set_option linter.unusedVariables false
set_option linter.unusedSimpArgs false

/-! ### slices_Contains_int_int: function 92 -/
def slices_Contains_int_int.f (k : Nat) (l0 : List Int) (a1 : Int) : Option (Bool) := (slices_Index_int_int.f k l0 a1).bind fun t202 => (some (decide (t202 ≥ 0)))
theorem slices_Contains_int_int.mono : ∀ a0 a1 k, LeO (slices_Contains_int_int.f k a0 a1) (slices_Contains_int_int.f (k + 1) a0 a1) := by
 intro a0 a1 k
 unfold slices_Contains_int_int.f
 repeat' first | (with_reducible exact slices_Index_int_int.mono _ _ _) | (with_reducible exact LeO.refl _) | (with_reducible exact LeO.none _) | (with_reducible refine LeO.ite ?_ ?_) | (with_reducible refine LeO.bind ?_ (fun _ => ?_)) | exact LeO.none _ | refine LeO.ite ?_ ?_ | refine LeO.bind ?_ (fun _ => ?_)
set_option maxHeartbeats 8000000 in
set_option maxRecDepth 100000 in
theorem slices_Contains_int_int.calls (k : Nat) (A0 : Option Addr) (c0 : Nat) (l0 : List Int) (a1 : Int) (r : Bool) (w : World) (hr0 : Kd.C (Kd.int .i64) w A0 l0.length l0) (hc0 : l0.length ≤ c0) (h : slices_Contains_int_int.f k l0 a1 = some r) :
  Calls Tryd.prog 92 #[.slice A0 l0.length c0, .int .i64 a1] w fun e w' => e = .returned (.bool r) ∧ Drawn0 w w' := by
 have HR0 := Aside0.mk hr0
 have HC0 := Aside0.mk hc0
 clear hr0 hc0
 have H := h; clear h; unfold slices_Contains_int_int.f at H
 replace H := qb H; obtain ⟨t202, A3, H⟩ := H
 obtain rfl := Option.some.inj H
 go_enter Tryd.func92, Tryd.ntmps92
 go_wp2_with (first | ((with_reducible refine gate_callee (f := 104) rfl ?_); refine goesL_ (some 7) rfl rfl Tryd.func104 (by kernel_rfl) rfl #[.slice A0 l0.length c0, .int .i64 a1] rfl qL ?_; (with_reducible refine (slices_Index_int_int.calls k _ _ l0 a1 t202 _ ?side1 ?side2 A3.out).mono ?_); (case side1 => repeat (first | exact HR0.out | (with_reducible refine Kd.C_alloc ?_ _) | (with_reducible refine Kd.C_drewN ?_ _) | (with_reducible refine Kd.C_drew ?_))); (case side2 => exact HC0.out); rintro e w' ⟨rfl, ⟨nd, rfl⟩⟩; refine ⟨_, rfl, ?_⟩))
 go_ret
 exact ⟨by first | rfl | (simp; done) | (simp [*]; done), qD⟩

end Go.Proofs.YtebnnknijbgekaaDoor.Q
namespace Go.Proofs.YtebnnknijbgekaaDoor.Q
open Go.RowKit Go.Proofs.YtebnnknijbgekaaDoorW.PrintWords Go.Proofs.YtebnnknijbgekaaDoorW.PrintLast Go.Proofs.YtebnnknijbgekaaDoorW.PrintMore
attribute [local go_sem] max2_int min2_int max_two min_two max_three min_three max_four min_four   -- for this text's walks alone
set_option linter.unusedVariables false
set_option linter.unusedSimpArgs false

/-! ### flow_Succs: function 73 -/
mutual
def flow_Succs.j0 : Nat → List (List (SIns)) → Int → Bool → Option (List Int)
 | 0, _, _, _ => none
 | k + 1, x0, x1, x24 => if x24 = true then (some ([] : List Int)) else (if 0 ≤ x1 then (if x1 < (x0.length : Int) then (if 0 ≤ (wrap64 (((rd_LIns x0 x1).length : Int) - 1)) then (if (wrap64 (((rd_LIns x0 x1).length : Int) - 1)) < ((rd_LIns x0 x1).length : Int) then ((ir_Targets.f ((rd_TIns (rd_LIns x0 x1) (wrap64 (((rd_LIns x0 x1).length : Int) - 1))).f0) ((rd_TIns (rd_LIns x0 x1) (wrap64 (((rd_LIns x0 x1).length : Int) - 1))).f1) ((rd_TIns (rd_LIns x0 x1) (wrap64 (((rd_LIns x0 x1).length : Int) - 1))).f2) ((rd_TIns (rd_LIns x0 x1) (wrap64 (((rd_LIns x0 x1).length : Int) - 1))).f3) ((rd_TIns (rd_LIns x0 x1) (wrap64 (((rd_LIns x0 x1).length : Int) - 1))).f4) ((rd_TIns (rd_LIns x0 x1) (wrap64 (((rd_LIns x0 x1).length : Int) - 1))).f5)).bind fun t206 => (flow_Succs.l0 k x0 ([] : List Int) t206 (t206.length : Int) 0)) else (none)) else (none)) else (none)) else (none))
def flow_Succs.l0 : Nat → List (List (SIns)) → List Int → List Int → Int → Int → Option (List Int)
 | 0, _, _, _, _, _ => none
 | k + 1, x0, x6, x35, x36, x37 => if x37 < x36 then (if 0 ≤ x37 then (if x37 < (x35.length : Int) then (if (rd x35 x37) ≥ 0 then (if (rd x35 x37) < (x0.length : Int) then ((slices_Contains_int_int.f k x6 (rd x35 x37)).bind fun t210 => (if t210 = true then (flow_Succs.l0 k x0 x6 x35 x36 (wrap64 (x37 + 1))) else (if x6.length < 17592186044416 then (flow_Succs.l0 k x0 (x6 ++ [rd x35 x37]) x35 x36 (wrap64 (x37 + 1))) else (none)))) else (flow_Succs.l0 k x0 x6 x35 x36 (wrap64 (x37 + 1)))) else (flow_Succs.l0 k x0 x6 x35 x36 (wrap64 (x37 + 1)))) else (none)) else (none)) else (some x6)
end
def flow_Succs.f (k : Nat) (l0 : List (List (SIns))) (a1 : Int) : Option (List Int) := if a1 < 0 then (flow_Succs.j0 k l0 a1 true) else (if a1 ≥ (l0.length : Int) then (flow_Succs.j0 k l0 a1 true) else (if 0 ≤ a1 then (if a1 < (l0.length : Int) then (flow_Succs.j0 k l0 a1 (((rd_LIns l0 a1).length : Int) == 0)) else (none)) else (none)))
theorem flow_Succs.mono_l : ∀ k, (∀ y0 y1 y2, LeO (flow_Succs.j0 k y0 y1 y2) (flow_Succs.j0 (k + 1) y0 y1 y2)) ∧ (∀ y0 y1 y2 y3 y4, LeO (flow_Succs.l0 k y0 y1 y2 y3 y4) (flow_Succs.l0 (k + 1) y0 y1 y2 y3 y4))
 | 0 => ⟨fun _ _ _ r h => by simp [flow_Succs.j0] at h, fun _ _ _ _ _ r h => by simp [flow_Succs.l0] at h⟩
 | k + 1 => by
  obtain ⟨ih0, ih1⟩ := flow_Succs.mono_l k
  refine ⟨?_, ?_⟩ <;> intros <;> (first | unfold flow_Succs.j0 | unfold flow_Succs.l0) <;> repeat' first | (with_reducible exact ih0 _ _ _) | (with_reducible exact ih1 _ _ _ _ _) | (with_reducible exact slices_Contains_int_int.mono _ _ _) | (with_reducible exact LeO.refl _) | (with_reducible exact LeO.none _) | (with_reducible refine LeO.ite ?_ ?_) | (with_reducible refine LeO.bind ?_ (fun _ => ?_)) | exact LeO.none _ | refine LeO.ite ?_ ?_ | refine LeO.bind ?_ (fun _ => ?_)
theorem flow_Succs.mono : ∀ a0 a1 k, LeO (flow_Succs.f k a0 a1) (flow_Succs.f (k + 1) a0 a1) := by
 intro a0 a1 k
 obtain ⟨ih0, ih1⟩ := flow_Succs.mono_l k
 unfold flow_Succs.f
 repeat' first | (with_reducible exact ih0 _ _ _) | (with_reducible exact ih1 _ _ _ _ _) | (with_reducible exact slices_Contains_int_int.mono _ _ _) | (with_reducible exact LeO.refl _) | (with_reducible exact LeO.none _) | (with_reducible refine LeO.ite ?_ ?_) | (with_reducible refine LeO.bind ?_ (fun _ => ?_)) | exact LeO.none _ | refine LeO.ite ?_ ?_ | refine LeO.bind ?_ (fun _ => ?_)
set_option maxHeartbeats 8000000 in
set_option maxRecDepth 100000 in
theorem flow_Succs.calls (k : Nat) (A0 : Option Addr) (c0 : Nat) (l0 : List (List (SIns))) (a1 : Int) (r : List Int) (w : World) (hr0 : Kd.C (Kd.slice 31 kIns) w A0 l0.length l0) (hc0 : l0.length ≤ c0) (h : flow_Succs.f k l0 a1 = some r) :
  Calls Tryd.prog 73 #[.slice A0 l0.length c0, .int .i64 a1] w fun e w' => ∃ v0_ : Value, e = .returned (v0_) ∧ Kd.R (Kd.int .i64) 3 w' w.heap.size (fun _ => True) v0_ r ∧ Below w.heap.size w w' := by
 have hu31 := Tryd.underlying31
 have HR0 := Aside0.mk hr0
 have HC0 := Aside0.mk hc0
 clear hr0 hc0
 have HB := Aside0.mk (Below.refl w.heap.size w)
 have H := h; clear h; unfold flow_Succs.f at H
 have HC3 := Aside0.mk H
 clear H
 go_enter Tryd.func73, Tryd.ntmps73
 go_upto_region 1 with (fail)
 go_cut [24] (fun v24 wc => ∃ (kq : Nat) (x24_2 : Bool), v24 = .bool x24_2 ∧ Aside0 (flow_Succs.j0 kq l0 a1 x24_2 = some r) ∧ Aside0 (kq ≤ k) ∧ Aside0 (Below w.heap.size w wc))
 case first =>
  have H := HC3.out
  clear HC3
  by_cases c4 : a1 < 0
  ·rw [if_pos c4] at H
   have c4b0 := decide_eq_true c4
   clear c4
   (first | rw [c4b0] | (simp only [i64_w, i32_w]; rw [c4b0]) | skip)
   have H' := Aside0.mk H
   clear H
   go_wp2
   go_meet
   case rel => exact ⟨_, (true), qT, H', ⟨qO⟩, ⟨qB⟩⟩
  ·rw [if_neg c4] at H
   have c4b0 := decide_eq_false c4
   clear c4
   (first | rw [c4b0] | (simp only [i64_w, i32_w]; rw [c4b0]) | skip)
   by_cases c5 : a1 ≥ (l0.length : Int)
   ·rw [if_pos c5] at H
    have c5b0 : decide ((l0.length : Int) ≤ a1) = true := decide_eq_true c5
    clear c5
    have H' := Aside0.mk H
    clear H
    go_wp2
    go_meet
    case rel => exact ⟨_, (true), qT, H', ⟨qO⟩, ⟨qB⟩⟩
   ·rw [if_neg c5] at H
    have c5b0 : decide ((l0.length : Int) ≤ a1) = false := decide_eq_false c5
    clear c5
    by_cases c6 : 0 ≤ a1
    ·rw [if_pos c6] at H
     have c6b0 := decide_eq_true c6
     clear c6
     by_cases c7 : a1 < (l0.length : Int)
     ·rw [if_pos c7] at H
      have c7b0 := decide_eq_true c7
      clear c7
      have H' := Aside0.mk H
      clear H
      have p203 : 0 ≤ (a1 : Int) := of_decide_eq_true qA
      have q203 : a1 < (l0.length : Int) := of_decide_eq_true qA
      obtain ⟨ad203, A203_0, c203_0, e203, hx203_0, hl203_0, hi203_0⟩ := at_LIns HR0.out a1 p203 q203
      cases e203
      replace hx203_0 := (HB.out.cell (World.block_lt_of_cell? w _ hx203_0)).trans hx203_0
      have HR203_0 := Aside0.mk hi203_0
      have HC203_0 := Aside0.mk hl203_0
      clear hi203_0 hl203_0
      replace p203 := eq_true p203
      replace q203 := eq_true q203
      go_wp2
      go_meet
      case rel => exact ⟨_, ((((rd_LIns l0 a1).length : Int) == 0)), qT, H', ⟨qO⟩, ⟨qB⟩⟩
     ·rw [if_neg c7] at H
      exact absurd H (by simp)
    ·rw [if_neg c6] at H
     exact absurd H (by simp)
 case rest =>
  clear HC3
  try clear c2; try clear p2; try clear q2; try clear hx2; try clear c4; try clear c4b0; try clear c5; try clear c5b0; try clear c6; try clear c6b0; try clear c7; try clear c7b0; try clear hx203_0; try clear p203; try clear q203
  obtain ⟨kq, x24_2, rfl, HA, HJ2, HB⟩ := hcut
  cases kq with
  | zero => exact absurd HA.out (by simp [flow_Succs.j0])
  | succ kj2 =>
   have H := HA.out
   clear HA
   simp only [flow_Succs.j0] at H
   by_cases c8 : x24_2 = true
   ·subst c8
    have H1 : (some ([] : List Int)) = some r := by rw [if_pos rfl] at H; exact H
    clear H
    have H := H1
    clear H1
    obtain rfl := Option.some.inj H
    go_wp2
    go_ret
    exact ⟨_, qE, by first | exact Kd.R_nil _ _ _ _ _ | exact Kd.N_nil _ _ _ _ _ | exact Kd.V_nil _ _ _ _ _ | exact Kd.Q_nil _ _ _ _ _ | exact Kd.S_nil _ _ _ _ _, qB⟩
   ·replace c8 := Bool.eq_false_iff.mpr c8
    subst c8
    have H1 : (if 0 ≤ a1 then (if a1 < (l0.length : Int) then (if 0 ≤ (wrap64 (((rd_LIns l0 a1).length : Int) - 1)) then (if (wrap64 (((rd_LIns l0 a1).length : Int) - 1)) < ((rd_LIns l0 a1).length : Int) then ((ir_Targets.f ((rd_TIns (rd_LIns l0 a1) (wrap64 (((rd_LIns l0 a1).length : Int) - 1))).f0) ((rd_TIns (rd_LIns l0 a1) (wrap64 (((rd_LIns l0 a1).length : Int) - 1))).f1) ((rd_TIns (rd_LIns l0 a1) (wrap64 (((rd_LIns l0 a1).length : Int) - 1))).f2) ((rd_TIns (rd_LIns l0 a1) (wrap64 (((rd_LIns l0 a1).length : Int) - 1))).f3) ((rd_TIns (rd_LIns l0 a1) (wrap64 (((rd_LIns l0 a1).length : Int) - 1))).f4) ((rd_TIns (rd_LIns l0 a1) (wrap64 (((rd_LIns l0 a1).length : Int) - 1))).f5)).bind fun t206 => (flow_Succs.l0 kj2 l0 ([] : List Int) t206 (t206.length : Int) 0)) else (none)) else (none)) else (none)) else (none)) = some r := by rw [if_neg (show ¬ (false = true) by decide)] at H; exact H
    clear H
    have H := H1
    clear H1
    by_cases c9 : 0 ≤ a1
    ·rw [if_pos c9] at H
     have c9b0 := decide_eq_true c9
     clear c9
     by_cases c10 : a1 < (l0.length : Int)
     ·rw [if_pos c10] at H
      have c10b0 := decide_eq_true c10
      clear c10
      obtain ⟨ji11, hji11⟩ : ∃ j_ : Int, (wrap64 (((rd_LIns l0 a1).length : Int) - 1)) = j_ := ⟨_, rfl⟩
      replace H : (if 0 ≤ (ji11) then (if (ji11) < ((rd_LIns l0 a1).length : Int) then ((ir_Targets.f ((rd_TIns (rd_LIns l0 a1) (ji11)).f0) ((rd_TIns (rd_LIns l0 a1) (ji11)).f1) ((rd_TIns (rd_LIns l0 a1) (ji11)).f2) ((rd_TIns (rd_LIns l0 a1) (ji11)).f3) ((rd_TIns (rd_LIns l0 a1) (ji11)).f4) ((rd_TIns (rd_LIns l0 a1) (ji11)).f5)).bind fun t206 => (flow_Succs.l0 kj2 l0 ([] : List Int) t206 (t206.length : Int) 0)) else (none)) else (none)) = some r := by first | (rw [hji11] at H; exact H) | (simp only [hji11] at H ⊢; exact H)
      have hji11w : (IntKind.i64.wrap (((rd_LIns l0 a1).length : Int) - 1)) = ji11 := (i64_w _).trans hji11
      by_cases c12 : 0 ≤ (ji11)
      ·rw [if_pos c12] at H
       have c12b0 := decide_eq_true c12
       clear c12
       by_cases c13 : (ji11) < ((rd_LIns l0 a1).length : Int)
       ·rw [if_pos c13] at H
        have c13b0 := decide_eq_true c13
        clear c13
        replace H := qb H; obtain ⟨t206, A14, H⟩ := H
        have H' := Aside0.mk H
        clear H
        have p204 : 0 ≤ (a1 : Int) := of_decide_eq_true qA
        have q204 : a1 < (l0.length : Int) := of_decide_eq_true qA
        obtain ⟨ad204, A204_0, c204_0, e204, hx204_0, hl204_0, hi204_0⟩ := at_LIns HR0.out a1 p204 q204
        cases e204
        replace hx204_0 := (HB.out.cell (World.block_lt_of_cell? w _ hx204_0)).trans hx204_0
        have HR204_0 := Aside0.mk hi204_0
        have HC204_0 := Aside0.mk hl204_0
        clear hi204_0 hl204_0
        replace p204 := eq_true p204
        replace q204 := eq_true q204
        have p205 : 0 ≤ ((ji11) : Int) := of_decide_eq_true qA
        have q205 : (ji11) < ((rd_LIns l0 a1).length : Int) := of_decide_eq_true qA
        obtain ⟨ad205, A205_5, c205_5, e205, hx205_0, hx205_1, hx205_2, hx205_3, hx205_4, hx205_5, hl205_5, hi205_5⟩ := at_TIns HR204_0.out (ji11) p205 q205
        cases e205
        replace hx205_0 := (HB.out.cell (World.block_lt_of_cell? w _ hx205_0)).trans hx205_0
        replace hx205_1 := (HB.out.cell (World.block_lt_of_cell? w _ hx205_1)).trans hx205_1
        replace hx205_2 := (HB.out.cell (World.block_lt_of_cell? w _ hx205_2)).trans hx205_2
        replace hx205_3 := (HB.out.cell (World.block_lt_of_cell? w _ hx205_3)).trans hx205_3
        replace hx205_4 := (HB.out.cell (World.block_lt_of_cell? w _ hx205_4)).trans hx205_4
        replace hx205_5 := (HB.out.cell (World.block_lt_of_cell? w _ hx205_5)).trans hx205_5
        have HR205_5 := Aside0.mk hi205_5
        have HC205_5 := Aside0.mk hl205_5
        clear hi205_5 hl205_5
        replace p205 := eq_true p205
        replace q205 := eq_true q205
        go_wp2_with (first | ((with_reducible refine gate_callee (f := 91) rfl ?_); refine goesL_ (some 35) rfl rfl Tryd.func91 (by kernel_rfl) rfl #[.agg #[.int .i64 ((rd_TIns (rd_LIns l0 a1) (ji11)).f0), .int .i64 ((rd_TIns (rd_LIns l0 a1) (ji11)).f1), .int .i64 ((rd_TIns (rd_LIns l0 a1) (ji11)).f2), .int .i64 ((rd_TIns (rd_LIns l0 a1) (ji11)).f3), .string ((rd_TIns (rd_LIns l0 a1) (ji11)).f4), .slice A205_5 ((rd_TIns (rd_LIns l0 a1) (ji11)).f5).length c205_5]] rfl (by (try simp only [List.map_toArray, List.map_cons, List.map_nil]); first | done | (simp only [hji11]; rfl) | rfl | (simp only [List.length_drop, List.length_take]; rfl)) ?_; (with_reducible refine (ir_Targets.calls ((rd_TIns (rd_LIns l0 a1) (ji11)).f0) ((rd_TIns (rd_LIns l0 a1) (ji11)).f1) ((rd_TIns (rd_LIns l0 a1) (ji11)).f2) ((rd_TIns (rd_LIns l0 a1) (ji11)).f3) ((rd_TIns (rd_LIns l0 a1) (ji11)).f4) _ _ ((rd_TIns (rd_LIns l0 a1) (ji11)).f5) t206 _ ?side1 ?side2 A14.out).mono ?_); (case side1 => exact qCB HR205_5.out); (case side2 => exact HC205_5.out); rintro e w15 ⟨v207, rfl, ho0, hb⟩; refine ⟨_, rfl, ?_⟩; have HO208 := Aside0.mk (Kd.R_lower ho0 (below_size qB)); replace HB := qH hb; (try clear hb); (try clear ho0); obtain ⟨Ao16, co16, eo16⟩ := Kd.R_slice HO208.out; subst eo16))
        go_loopg [6, 37] kj2 (fun kq v6 v37 w' => ∃ (x6_2 : List Int) (x37_2 : Int), v37 = .int .i64 x37_2 ∧ Aside0 (flow_Succs.l0 kq l0 x6_2 t206 (t206.length : Int) x37_2 = some r) ∧ Aside0 (kq ≤ kj2) ∧ Aside0 (Kd.R (Kd.int .i64) 3 w' w.heap.size (fun k_ => some k_ ≠ ((.slice Ao16 t206.length co16) : Value).ownBlock) v6 x6_2) ∧ Aside0 (Kd.R (Kd.int .i64) 3 w' w.heap.size (fun k_ => some k_ ≠ (v6 : Value).ownBlock) (.slice Ao16 t206.length co16) t206) ∧ Aside0 (Below w.heap.size w w'))
        case atStart => exact ⟨(([] : List Int)), (0), qT, H', ⟨Nat.le_refl _⟩, ⟨by first | exact Kd.R_nil _ _ _ _ _ | exact Kd.N_nil _ _ _ _ _ | exact Kd.V_nil _ _ _ _ _ | exact Kd.Q_nil _ _ _ _ _ | exact Kd.S_nil _ _ _ _ _⟩, ⟨by (with_reducible repeat (first | apply Kd.R_alloc | apply Kd.R_drewN | apply Kd.R_drew)); exact Kd.R_mono HO208.out (fun _ hk => (by simp [Value.ownBlock]))⟩, ⟨qB⟩⟩
        case round =>
         clear H'
         try clear c1; try clear c2; try clear p2; try clear q2; try clear hx2; try clear c4; try clear c4b0; try clear c5; try clear c5b0; try clear c6; try clear c6b0; try clear p6; try clear c7; try clear c7b0; try clear c8; try clear c9; try clear c9b0; try clear c10; try clear c10b0; try clear c12; try clear c12b0; try clear c13; try clear c13b0; try clear hx203_0; try clear hx204_0; try clear hx205_0; try clear hx205_1; try clear hx205_2; try clear hx205_3; try clear hx205_4; try clear hx205_5; try clear p203; try clear p204; try clear p205; try clear q203; try clear q204; try clear q205
         obtain ⟨x6_2, x37_2, rfl, HA, HK2, HO_6, HO_35, HB⟩ := hrel
         cases gk with
         | zero => exact absurd HA.out (by simp [flow_Succs.l0])
         | succ k2 =>
          have H := HA.out
          clear HA
          simp only [flow_Succs.l0] at H
          by_cases c17 : x37_2 < (t206.length : Int)
          ·rw [if_pos c17] at H
           have c17b0 := decide_eq_true c17
           clear c17
           by_cases c18 : 0 ≤ x37_2
           ·rw [if_pos c18] at H
            have c18b0 := decide_eq_true c18
            clear c18
            by_cases c19 : x37_2 < (t206.length : Int)
            ·rw [if_pos c19] at H
             have c19b0 := decide_eq_true c19
             clear c19
             by_cases c20 : (rd t206 x37_2) ≥ 0
             ·rw [if_pos c20] at H
              have c20b0 : decide (0 ≤ (rd t206 x37_2)) = true := decide_eq_true c20
              clear c20
              by_cases c21 : (rd t206 x37_2) < (l0.length : Int)
              ·rw [if_pos c21] at H
               have c21b0 := decide_eq_true c21
               clear c21
               replace H := qb H; obtain ⟨t210, A22, H⟩ := H
               by_cases c23 : t210 = true
               ·subst c23
                have H1 : (flow_Succs.l0 k2 l0 x6_2 t206 (t206.length : Int) (wrap64 (x37_2 + 1))) = some r := by rw [if_pos rfl] at H; exact H
                clear H
                have H := H1
                clear H1
                have H' := Aside0.mk H
                clear H
                have p209 : 0 ≤ (x37_2 : Int) := of_decide_eq_true qA
                have q209 : x37_2 < (t206.length : Int) := of_decide_eq_true qA
                obtain ⟨ad209, e209, hx209_0⟩ := Kd.at_int (Kd.R_reads' HO_35.out).2.2 x37_2 p209 q209
                cases e209
                replace p209 := eq_true p209
                replace q209 := eq_true q209
                obtain ⟨Ao24, co24, eo24⟩ := Kd.R_slice HO_6.out
                subst eo24
                go_wp2_with (first | (go_at_call 92; (with_reducible refine (slices_Contains_int_int.calls k2 _ _ x6_2 (rd t206 x37_2) true _ ?side1 ?side2 A22.out).mono ?_); (case side1 => repeat (first | exact (Kd.R_reads' HO_6.out).2.2 | (with_reducible refine Kd.C_alloc ?_ _) | (with_reducible refine Kd.C_drewN ?_ _) | (with_reducible refine Kd.C_drew ?_))); (case side2 => exact (Kd.R_reads' HO_6.out).2.1); (try clear A22); rintro e w' ⟨rfl, ⟨nd, rfl⟩⟩))
                go_roundg k2
                case measure => have := HJ2.out; have := HK2.out; omega
                case rel => exact ⟨(x6_2), (wrap64 (x37_2 + 1)), qT, H', ⟨by have := HJ2.out; have := HK2.out; omega⟩, ⟨qR HO_6.out⟩, ⟨qR HO_35.out⟩, ⟨qB⟩⟩
               ·replace c23 := Bool.eq_false_iff.mpr c23
                subst c23
                have H1 : (if x6_2.length < 17592186044416 then (flow_Succs.l0 k2 l0 (x6_2 ++ [rd t206 x37_2]) t206 (t206.length : Int) (wrap64 (x37_2 + 1))) else (none)) = some r := by rw [if_neg (show ¬ (false = true) by decide)] at H; exact H
                clear H
                have H := H1
                clear H1
                by_cases c25 : x6_2.length < 17592186044416
                ·rw [if_pos c25] at H
                 have LMc25 := Aside0.mk c25
                 clear c25
                 obtain ⟨y211, hy211⟩ : ∃ y_ : List Int, y_ = (x6_2 ++ [rd t206 x37_2]) := ⟨_, rfl⟩
                 replace H : (flow_Succs.l0 k2 l0 y211 t206 (t206.length : Int) (wrap64 (x37_2 + 1))) = some r := by first | (rw [hy211]; with_reducible exact H) | (have H2_ := (Option.bind_some _ _).symm.trans H; rw [hy211]; with_reducible exact H2_) | (have H2_ := (Option.bind_some _ _).symm.trans H; with_reducible exact H2_) | with_reducible exact H | (rw [hy211]; exact H) | exact H
                 have Ny211 := Aside0.mk hy211
                 clear hy211
                 have H' := Aside0.mk H
                 clear H
                 have p209 : 0 ≤ (x37_2 : Int) := of_decide_eq_true qA
                 have q209 : x37_2 < (t206.length : Int) := of_decide_eq_true qA
                 obtain ⟨ad209, e209, hx209_0⟩ := Kd.at_int (Kd.R_reads' HO_35.out).2.2 x37_2 p209 q209
                 cases e209
                 replace p209 := eq_true p209
                 replace q209 := eq_true q209
                 obtain ⟨Ao26, co26, eo26⟩ := Kd.R_slice HO_6.out
                 subst eo26
                 go_wp2_with (first | (go_at_call 92; (with_reducible refine (slices_Contains_int_int.calls k2 _ _ x6_2 (rd t206 x37_2) false _ ?side1 ?side2 A22.out).mono ?_); (case side1 => repeat (first | exact (Kd.R_reads' HO_6.out).2.2 | (with_reducible refine Kd.C_alloc ?_ _) | (with_reducible refine Kd.C_drewN ?_ _) | (with_reducible refine Kd.C_drew ?_))); (case side2 => exact (Kd.R_reads' HO_6.out).2.1); (try clear A22); rintro e w' ⟨rfl, ⟨nd, rfl⟩⟩) | ((with_reducible refine gate_builtin (b := .append) (xs := #[.tmp 55, .tmp 57]) rfl ?_); (try (refine gate_guard (by rfl) ?_; dsimp only)); at_builtin; refine Kd.R_append (Kd.int .i64) (w0 := w) w.heap.size rfl (.tmp 55) (.tmp 57) 29 3 (.int .i64 0) 8 rfl Tryd.underlying29 info3 rfl (by decide) (by omega) (.slice Ao26 x6_2.length co26) x6_2 (rd t206 x37_2) [.int .i64 (rd t206 x37_2)] (fun k_ => some k_ ≠ (.slice (some ad209) t206.length co16 : Value).ownBlock) (fun _ => False) rfl rfl ?aP (fun _ hk => hk.elim) ?aF ?aO ?aB ?aS ?aL ?_; (case aP => exact rfl); (case aB => exact qB); (case aF => exact (fun k_ hk => Kd.fresh' (Kd.R_lt (qR HO_35.out)) k_ hk)); (case aO => exact (qR HO_6.out)); (case aS => exact (below_size qB)); (case aL => have := LMc25.out; omega); intro v212 w27 ho hb hg hat; rw [← Ny211.out] at ho; replace HO_35 := Aside0.mk (Kd.R_after (ok := (fun _ => True)) (by (with_reducible repeat (first | apply Kd.R_alloc | apply Kd.R_drewN | apply Kd.R_drew)); exact Kd.R_mono HO_35.out (fun _ hk => ⟨trivial, hk⟩)) hg hat); replace HB := Aside0.mk (hb); have HO213 := Aside0.mk (ho); clear HO_6; clear ho hb hg hat))
                 go_roundg k2
                 case measure => have := HJ2.out; have := HK2.out; omega
                 case rel => exact ⟨(y211), (wrap64 (x37_2 + 1)), qT, H', ⟨by have := HJ2.out; have := HK2.out; omega⟩, ⟨qR HO213.out⟩, ⟨by (with_reducible repeat (first | apply Kd.R_alloc | apply Kd.R_drewN | apply Kd.R_drew)); exact Kd.R_mono HO_35.out (fun _ hk => hk.2)⟩, ⟨qB⟩⟩
                ·rw [if_neg c25] at H
                 exact absurd H (by simp)
              ·rw [if_neg c21] at H
               have c21b0 := decide_eq_false c21
               clear c21
               have H' := Aside0.mk H
               clear H
               have p209 : 0 ≤ (x37_2 : Int) := of_decide_eq_true qA
               have q209 : x37_2 < (t206.length : Int) := of_decide_eq_true qA
               obtain ⟨ad209, e209, hx209_0⟩ := Kd.at_int (Kd.R_reads' HO_35.out).2.2 x37_2 p209 q209
               cases e209
               replace p209 := eq_true p209
               replace q209 := eq_true q209
               go_wp2
               go_roundg k2
               case measure => have := HJ2.out; have := HK2.out; omega
               case rel => exact ⟨(x6_2), (wrap64 (x37_2 + 1)), qT, H', ⟨by have := HJ2.out; have := HK2.out; omega⟩, ⟨qR HO_6.out⟩, ⟨qR HO_35.out⟩, ⟨qB⟩⟩
             ·rw [if_neg c20] at H
              have c20b0 : decide (0 ≤ (rd t206 x37_2)) = false := decide_eq_false c20
              clear c20
              have H' := Aside0.mk H
              clear H
              have p209 : 0 ≤ (x37_2 : Int) := of_decide_eq_true qA
              have q209 : x37_2 < (t206.length : Int) := of_decide_eq_true qA
              obtain ⟨ad209, e209, hx209_0⟩ := Kd.at_int (Kd.R_reads' HO_35.out).2.2 x37_2 p209 q209
              cases e209
              replace p209 := eq_true p209
              replace q209 := eq_true q209
              go_wp2
              go_roundg k2
              case measure => have := HJ2.out; have := HK2.out; omega
              case rel => exact ⟨(x6_2), (wrap64 (x37_2 + 1)), qT, H', ⟨by have := HJ2.out; have := HK2.out; omega⟩, ⟨qR HO_6.out⟩, ⟨qR HO_35.out⟩, ⟨qB⟩⟩
            ·rw [if_neg c19] at H
             exact absurd H (by simp)
           ·rw [if_neg c18] at H
            exact absurd H (by simp)
          ·rw [if_neg c17] at H
           have c17b0 := decide_eq_false c17
           clear c17
           obtain rfl := Option.some.inj H
           go_wp2
           go_ret
           exact ⟨_, by first | rfl | (simp [errW_none, errW_some] <;> rfl) | (simp only [← hji11]; first | rfl | (simp [errW_none, errW_some] <;> rfl)) | (simp [*, errW_none, errW_some] <;> rfl), by (with_reducible repeat (first | apply Kd.R_alloc | apply Kd.R_drewN | apply Kd.R_drew)); exact Kd.R_mono HO_6.out (fun _ hk => trivial), qB⟩
       ·rw [if_neg c13] at H
        exact absurd H (by simp)
      ·rw [if_neg c12] at H
       exact absurd H (by simp)
     ·rw [if_neg c10] at H
      exact absurd H (by simp)
    ·rw [if_neg c9] at H
     exact absurd H (by simp)

end Go.Proofs.YtebnnknijbgekaaDoor.Q
namespace Go.Proofs.YtebnnknijbgekaaDoor.Q
open Go.RowKit Go.Proofs.YtebnnknijbgekaaDoorW.PrintWords Go.Proofs.YtebnnknijbgekaaDoorW.PrintLast Go.Proofs.YtebnnknijbgekaaDoorW.PrintMore
attribute [local go_sem] max2_int min2_int max_two min_two max_three min_three max_four min_four   -- for this text's walks alone
set_option linter.unusedVariables false
set_option linter.unusedSimpArgs false

/-! ### slices_Reverse_int_int: function 79 -/
def slices_Reverse_int_int.l0 : Nat → List Int → Int → Int → Option (List Int)
 | 0, _, _, _ => none
 | k + 1, x0, x2, x3 => if x2 < x3 then (if 0 ≤ x3 then (if x3 < (x0.length : Int) then (if 0 ≤ x2 then (if x2 < (x0.length : Int) then (slices_Reverse_int_int.l0 k ((x0.set (x2 : Int).toNat (rd x0 x3)).set (x3 : Int).toNat (rd x0 x2)) (wrap64 (x2 + 1)) (wrap64 (x3 - 1))) else (none)) else (none)) else (none)) else (none)) else (some x0)
def slices_Reverse_int_int.f (k : Nat) (l0 : List Int) : Option (List Int) := slices_Reverse_int_int.l0 k l0 0 (wrap64 ((l0.length : Int) - 1))
theorem slices_Reverse_int_int.mono_l : ∀ k, (∀ y0 y1 y2, LeO (slices_Reverse_int_int.l0 k y0 y1 y2) (slices_Reverse_int_int.l0 (k + 1) y0 y1 y2))
 | 0 => fun _ _ _ r h => by simp [slices_Reverse_int_int.l0] at h
 | k + 1 => by
  have ih0 := slices_Reverse_int_int.mono_l k
  ·intro y0 y1 y2
   unfold slices_Reverse_int_int.l0
   repeat' first | (with_reducible exact ih0 _ _ _) | (with_reducible exact LeO.refl _) | (with_reducible exact LeO.none _) | (with_reducible refine LeO.ite ?_ ?_) | (with_reducible refine LeO.bind ?_ (fun _ => ?_)) | exact LeO.none _ | refine LeO.ite ?_ ?_ | refine LeO.bind ?_ (fun _ => ?_)
theorem slices_Reverse_int_int.mono : ∀ a0 k, LeO (slices_Reverse_int_int.f k a0) (slices_Reverse_int_int.f (k + 1) a0) := by
 intro a0 k
 have ih0 := slices_Reverse_int_int.mono_l k
 unfold slices_Reverse_int_int.f
 repeat' first | (with_reducible exact ih0 _ _ _) | (with_reducible exact LeO.refl _) | (with_reducible exact LeO.none _) | (with_reducible refine LeO.ite ?_ ?_) | (with_reducible refine LeO.bind ?_ (fun _ => ?_)) | exact LeO.none _ | refine LeO.ite ?_ ?_ | refine LeO.bind ?_ (fun _ => ?_)
def slices_Reverse_int_int.T3 : Bool × List (List Nat × List Nat) := (true, [([], []), ([], []), ([], []), ([], []), ([], []), ([], []), ([4, 5], [4, 5]), ([6], [6]), ([], []), ([], []), ([8, 9], [8, 9]), ([10], [10]), ([0, 1, 0, 1, 4, 5, 6, 7, 11], [0, 1]), ([12, 7, 0, 1, 4, 5, 6, 7, 11], [7, 12]), ([2, 3, 0, 1, 2, 3, 4, 5, 6, 7, 8, 9, 10, 11, 12, 13], [2, 3]), ([14, 11, 13, 0, 1, 2, 3, 4, 5, 6, 7, 8, 9, 10, 11, 12, 13], [11, 14])])
def slices_Reverse_int_int.B3 : List Nat := [0, 0, 0, 0, 0, 0, 48, 112, 0, 0, 768, 1792, 4083, 8179, 16383, 32767]
theorem slices_Reverse_int_int.tab3 : rtab .any (opsOf Tryd.f79 3) = slices_Reverse_int_int.T3 := by kernel_rfl
theorem slices_Reverse_int_int.bits3 : waitsOk slices_Reverse_int_int.T3.2 slices_Reverse_int_int.B3 = true := by kernel_rfl
set_option maxHeartbeats 8000000 in
set_option maxRecDepth 100000 in
theorem slices_Reverse_int_int.calls (k : Nat) (P0_ : Nat → Prop) (u9000_ : Value) (l0 : List Int) (r : List Int) (w0 w : World) (hB : Below w0.heap.size w0 w) (ho0 : Kd.R (Kd.int .i64) 3 w w0.heap.size P0_ u9000_ l0) (h : slices_Reverse_int_int.f k l0 = some r) :
  Calls Tryd.prog 79 #[u9000_] w fun e w' => e = .returned (.tuple #[]) ∧ Kd.R (Kd.int .i64) 3 w' w0.heap.size (fun k_ => (P0_ k_ ∨ w.heap.size ≤ k_)) u9000_ r ∧ Below w0.heap.size w0 w' ∧ Kept w w' (fun k_ => P0_ k_) := by
 have HO0 := Aside0.mk (show Kd.R (Kd.int .i64) 3 w w0.heap.size (fun k_ => (P0_ k_ ∨ w.heap.size ≤ k_)) u9000_ l0 from Kd.R_mono ho0 (fun k_ hk => (.inl hk)))
 have HK := Aside0.mk (Kept.refl w (fun k_ => P0_ k_))
 have HW0 := Aside0.mk hB.size
 have HB := Aside0.mk hB
 clear hB
 have H := h; clear h; unfold slices_Reverse_int_int.f at H
 have H' := Aside0.mk H
 clear H
 obtain ⟨Ao2, co2, eo2⟩ := Kd.R_slice HO0.out
 subst eo2
 go_enter Tryd.func79, Tryd.ntmps79
 go_wp2
 go_loopg [2, 3] k (fun kq v2 v3 w' => ∃ (x0_1 : List Int) (x2_1 : Int) (x3_1 : Int), v2 = .int .i64 x2_1 ∧ v3 = .int .i64 x3_1 ∧ Aside0 (slices_Reverse_int_int.l0 kq x0_1 x2_1 x3_1 = some r) ∧ Aside0 (kq ≤ k) ∧ Aside0 (Kd.R (Kd.int .i64) 3 w' w0.heap.size (fun k_ => (P0_ k_ ∨ w.heap.size ≤ k_)) (.slice Ao2 l0.length co2) x0_1) ∧ Aside0 (Kept w w' (fun k_ => P0_ k_)) ∧ Aside0 (Below w0.heap.size w0 w'))
 case atStart => exact ⟨(l0), (0), (wrap64 ((l0.length : Int) - 1)), qT, qT, H', ⟨Nat.le_refl _⟩, ⟨qR HO0.out⟩, ⟨by repeat (first | (with_reducible first | exact HK.out | apply Kept.alloc | apply Kept.drewN | apply Kept.drew) | exact HK.out)⟩, ⟨qB⟩⟩
 case round =>
  clear H'
  try clear p2
  obtain ⟨x0_1, x2_1, x3_1, rfl, rfl, HA, HK1, HO_0, HK, HB⟩ := hrel
  have hl0_1 := (Kd.R_reads' HO_0.out).1
  rw [hl0_1] at HO_0
  (try simp only [hl0_1])
  cases gk with
  | zero => exact absurd HA.out (by simp [slices_Reverse_int_int.l0])
  | succ k1 =>
   have H := HA.out
   clear HA
   simp only [slices_Reverse_int_int.l0] at H
   by_cases c3 : x2_1 < x3_1
   ·rw [if_pos c3] at H
    have c3b0 := decide_eq_true c3
    clear c3
    by_cases c4 : 0 ≤ x3_1
    ·rw [if_pos c4] at H
     have c4b0 := decide_eq_true c4
     clear c4
     by_cases c5 : x3_1 < (x0_1.length : Int)
     ·rw [if_pos c5] at H
      have c5b0 := decide_eq_true c5
      clear c5
      by_cases c6 : 0 ≤ x2_1
      ·rw [if_pos c6] at H
       have c6b0 := decide_eq_true c6
       clear c6
       by_cases c7 : x2_1 < (x0_1.length : Int)
       ·rw [if_pos c7] at H
        have c7b0 := decide_eq_true c7
        clear c7
        obtain ⟨y492, hy492⟩ : ∃ y_ : List Int, y_ = (x0_1.set (x2_1 : Int).toNat (rd x0_1 x3_1)) := ⟨_, rfl⟩
        replace H : (slices_Reverse_int_int.l0 k1 (y492.set (x3_1 : Int).toNat (rd x0_1 x2_1)) (wrap64 (x2_1 + 1)) (wrap64 (x3_1 - 1))) = some r := by first | (rw [hy492]; with_reducible exact H) | (have H2_ := (Option.bind_some _ _).symm.trans H; rw [hy492]; with_reducible exact H2_) | (have H2_ := (Option.bind_some _ _).symm.trans H; with_reducible exact H2_) | with_reducible exact H | (rw [hy492]; exact H) | exact H
        have Ny492 := Aside0.mk hy492
        clear hy492
        obtain ⟨y493, hy493⟩ : ∃ y_ : List Int, y_ = (y492.set (x3_1 : Int).toNat (rd x0_1 x2_1)) := ⟨_, rfl⟩
        replace H : (slices_Reverse_int_int.l0 k1 y493 (wrap64 (x2_1 + 1)) (wrap64 (x3_1 - 1))) = some r := by first | (rw [hy493]; with_reducible exact H) | (have H2_ := (Option.bind_some _ _).symm.trans H; rw [hy493]; with_reducible exact H2_) | (have H2_ := (Option.bind_some _ _).symm.trans H; with_reducible exact H2_) | with_reducible exact H | (rw [hy493]; exact H) | exact H
        have Ny493 := Aside0.mk hy493
        clear hy493
        have H' := Aside0.mk H
        clear H
        try go_wp2
        have n0_ := Aside0.mk (Kd.R_drew HO_0.out)
        have n1_ := Aside0.mk (Kept.drew HK.out)
        have n2_ := Aside0.mk (below_drew1 HB.out)
        clear HO_0
        clear HK
        clear HB
        have HO_0 := n0_
        have HK := n1_
        have HB := n2_
        clear n0_ n1_ n2_
        have p490 : 0 ≤ (x3_1 : Int) := of_decide_eq_true qA
        have q490 : x3_1 < (x0_1.length : Int) := of_decide_eq_true qA
        obtain ⟨ad490, e490, hx490_0⟩ := Kd.at_int (Kd.R_reads' HO_0.out).2.2 x3_1 p490 q490
        cases e490
        replace p490 := eq_true p490
        replace q490 := eq_true q490
        have p491 : 0 ≤ (x2_1 : Int) := of_decide_eq_true qA
        have q491 : x2_1 < (x0_1.length : Int) := of_decide_eq_true qA
        obtain ⟨ad491, e491, hx491_0⟩ := Kd.at_int (Kd.R_reads' HO_0.out).2.2 x2_1 p491 q491
        obtain rfl : ad490 = ad491 := (by injection e491)
        replace p491 := eq_true p491
        replace q491 := eq_true q491
        have p8 : 0 ≤ (x2_1 : Int) := of_decide_eq_true qA
        have q8 : (x2_1 : Int) < ((x0_1.length : Int) : Int) := of_decide_eq_true qA
        obtain ⟨go8, co8, eo8, gb8, gl8, cl8, HG8⟩ := Kd.R_form HO_0.out (by omega)
        (first | cases eo8 | (injection eo8 with ea_ en_ ec_; (first | subst ea_ | (injection ea_ with ea_; subst ea_)); subst ec_; clear en_))
        have GB8 := Aside0.mk gb8
        have GG8 := Aside0.mk HG8
        clear gb8 gl8 HG8
        have HMgo8 := Aside0.mk (show (P0_ go8 ∨ w.heap.size ≤ go8) from (HO_0.out.1 _ rfl))
        (first | simp only [add_plain] at hx490_0 | skip)
        (first | simp only [add_plain] at hx491_0 | skip)
        obtain ⟨hx8_0, hf8_0⟩ := Kd.R_celln 0 HO_0.out (x2_1 : Int) p8 q8
        replace p8 := eq_true p8
        replace q8 := eq_true q8
        have HP11 := Kd.R_putn HO_0.out (x2_1 : Int) (rd x0_1 x3_1)
        rw [← Ny492.out] at HP11
        have HQ11 := Aside0.mk HP11
        clear HP11
        have p9 : 0 ≤ (x3_1 : Int) := of_decide_eq_true qA
        have q9 : (x3_1 : Int) < ((x0_1.length : Int) : Int) := of_decide_eq_true qA
        obtain ⟨hx9_0, hf9_0⟩ := Kd.R_celln 0 HQ11.out (x3_1 : Int) p9 q9
        replace p9 := eq_true p9
        replace q9 := eq_true q9
        have HP12 := Kd.R_putn HQ11.out (x3_1 : Int) (rd x0_1 x2_1)
        rw [← Ny493.out] at HP12
        have HQ12 := Aside0.mk HP12
        clear HP12
        refine start_ (n := 16) (S := fun w' => w'.cell? ⟨go8, (x3_1).toNat, none⟩ = some (.int .i64 (rd x0_1 x3_1)) ∧ w'.cell? ⟨go8, (x2_1).toNat, none⟩ = some (.int .i64 (rd x0_1 x2_1))) (ds := [13, 15]) #[false, false, false, false, false, false, false, false, false, false, false, false, false, false, false, false] (by kernel_rfl) rfl rfl ⟨hx490_0, hx491_0⟩ (fun hHeld => ?_); refine with_tabW slices_Reverse_int_int.tab3 slices_Reverse_int_int.bits3 (fun HT_ HW_ => ?_)
        generalize wr.drew = w10 at HO_0 HK HB GG8 HQ11 HQ12 hf8_0 hf9_0 hx490_0 hx491_0 hx8_0 hx9_0 hHeld ⊢
        refine pure_ (i := 0) (N := some 14) (v := ?_) (a' := ?_) #[true, false, false, false, false, false, false, false, false, false, false, false, false, false, false, false] rfl rfl (any_of HT_.out (by kernel_rfl)) (fun _ _ _ h => h) (Or.inl ⟨by rfl, ?_⟩) ?_ ?_
        rotate_left
        ·intro w'
         go_simp
         with_reducible rfl
        rotate_left
        ·simp only [Act.put, List.setIfInBounds_toArray, List.set_cons_zero, List.set_cons_succ, i64_w, i32_w]
         rfl
        refine pure_ (i := 1) (N := some 15) (v := ?_) (a' := ?_) #[true, true, false, false, false, false, false, false, false, false, false, false, false, false, false, false] rfl rfl (any_of HT_.out (by kernel_rfl)) (fun _ _ _ h => h) (Or.inl ⟨by rfl, ?_⟩) ?_ ?_
        rotate_left
        ·intro w'
         go_simp
         with_reducible rfl
        rotate_left
        ·simp only [Act.put, List.setIfInBounds_toArray, List.set_cons_zero, List.set_cons_succ, i64_w, i32_w]
         rfl
        refine pure_ (i := 2) (N := some 16) (v := ?_) (a' := ?_) #[true, true, true, false, false, false, false, false, false, false, false, false, false, false, false, false] rfl rfl (any_of HT_.out (by kernel_rfl)) (fun _ _ _ h => h) (Or.inl ⟨by rfl, ?_⟩) ?_ ?_
        rotate_left
        ·intro w'
         go_simp
         with_reducible rfl
        rotate_left
        ·simp only [Act.put, List.setIfInBounds_toArray, List.set_cons_zero, List.set_cons_succ, i64_w, i32_w]
         rfl
        refine pure_ (i := 3) (N := some 17) (v := ?_) (a' := ?_) #[true, true, true, true, false, false, false, false, false, false, false, false, false, false, false, false] rfl rfl (any_of HT_.out (by kernel_rfl)) (fun _ _ _ h => h) (Or.inl ⟨by rfl, ?_⟩) ?_ ?_
        rotate_left
        ·intro w'
         go_simp
         with_reducible rfl
        rotate_left
        ·simp only [Act.put, List.setIfInBounds_toArray, List.set_cons_zero, List.set_cons_succ, i64_w, i32_w]
         rfl
        refine pure_ (i := 4) (N := some 18) (v := ?_) (a' := ?_) #[true, true, true, true, true, false, false, false, false, false, false, false, false, false, false, false] rfl rfl (any_of HT_.out (by kernel_rfl)) (fun _ _ _ h => h) (Or.inl ⟨by rfl, ?_⟩) ?_ ?_
        rotate_left
        ·intro w'
         go_simp
         with_reducible rfl
        rotate_left
        ·simp only [Act.put, List.setIfInBounds_toArray, List.set_cons_zero, List.set_cons_succ, i64_w, i32_w]
         rfl
        refine pure_ (i := 5) (N := some 19) (v := ?_) (a' := ?_) #[true, true, true, true, true, true, false, false, false, false, false, false, false, false, false, false] rfl rfl (any_of HT_.out (by kernel_rfl)) (fun _ _ _ h => h) (Or.inl ⟨by rfl, ?_⟩) ?_ ?_
        rotate_left
        ·intro w'
         go_simp
         with_reducible rfl
        rotate_left
        ·simp only [Act.put, List.setIfInBounds_toArray, List.set_cons_zero, List.set_cons_succ, i64_w, i32_w]
         rfl
        refine pure_ (i := 6) (N := some 20) (v := ?_) (a' := ?_) #[true, true, true, true, true, true, true, false, false, false, false, false, false, false, false, false] rfl rfl (any_of HT_.out (by kernel_rfl)) (fun _ _ _ h => h) (Or.inl ⟨by rfl, ?_⟩) ?_ ?_
        rotate_left
        ·intro w'
         go_simp
         with_reducible rfl
        rotate_left
        ·simp only [Act.put, List.setIfInBounds_toArray, List.set_cons_zero, List.set_cons_succ, i64_w, i32_w]
         rfl
        refine pure_ (i := 8) (N := some 22) (v := ?_) (a' := ?_) #[true, true, true, true, true, true, true, false, true, false, false, false, false, false, false, false] rfl rfl (any_of HT_.out (by kernel_rfl)) (fun _ _ _ h => h) (Or.inl ⟨by rfl, ?_⟩) ?_ ?_
        rotate_left
        ·intro w'
         go_simp
         with_reducible rfl
        rotate_left
        ·simp only [Act.put, List.setIfInBounds_toArray, List.set_cons_zero, List.set_cons_succ, i64_w, i32_w]
         rfl
        refine pure_ (i := 9) (N := some 23) (v := ?_) (a' := ?_) #[true, true, true, true, true, true, true, false, true, true, false, false, false, false, false, false] rfl rfl (any_of HT_.out (by kernel_rfl)) (fun _ _ _ h => h) (Or.inl ⟨by rfl, ?_⟩) ?_ ?_
        rotate_left
        ·intro w'
         go_simp
         with_reducible rfl
        rotate_left
        ·simp only [Act.put, List.setIfInBounds_toArray, List.set_cons_zero, List.set_cons_succ, i64_w, i32_w]
         rfl
        refine pure_ (i := 10) (N := some 24) (v := ?_) (a' := ?_) #[true, true, true, true, true, true, true, false, true, true, true, false, false, false, false, false] rfl rfl (any_of HT_.out (by kernel_rfl)) (fun _ _ _ h => h) (Or.inl ⟨by rfl, ?_⟩) ?_ ?_
        rotate_left
        ·intro w'
         go_simp
         with_reducible rfl
        rotate_left
        ·simp only [Act.put, List.setIfInBounds_toArray, List.set_cons_zero, List.set_cons_succ, i64_w, i32_w]
         rfl
        refine take_ (i := 7) (N := some 21) (v := ?_) (a' := ?_) #[true, true, true, true, true, true, true, true, true, true, true, false, false, false, false, false] rfl rfl (take_ofW HT_.out HW_.out (by kernel_rfl)) (fun _ _ _ h => h) (Or.inl ⟨by rfl, ?_⟩) hHeld ?_ ?_
        rotate_left
        ·rintro w' ⟨s0, s1⟩
         go_simp
         with_reducible rfl
        rotate_left
        ·simp only [Act.put, List.setIfInBounds_toArray, List.set_cons_zero, List.set_cons_succ, i64_w, i32_w]
         rfl
        refine take_ (i := 11) (N := some 25) (v := ?_) (a' := ?_) #[true, true, true, true, true, true, true, true, true, true, true, true, false, false, false, false] rfl rfl (take_ofW HT_.out HW_.out (by kernel_rfl)) (fun _ _ _ h => h) (Or.inl ⟨by rfl, ?_⟩) hHeld ?_ ?_
        rotate_left
        ·rintro w' ⟨s0, s1⟩
         go_simp
         with_reducible rfl
        rotate_left
        ·simp only [Act.put, List.setIfInBounds_toArray, List.set_cons_zero, List.set_cons_succ, i64_w, i32_w]
         rfl
        refine pure_ (i := 12) (N := some 26) (v := ?_) (a' := ?_) #[true, true, true, true, true, true, true, true, true, true, true, true, true, false, false, false] rfl rfl (any_of HT_.out (by kernel_rfl)) (fun _ _ _ h => h) (Or.inl ⟨by rfl, ?_⟩) ?_ ?_
        rotate_left
        ·intro w'
         go_simp
         with_reducible rfl
        rotate_left
        ·simp only [Act.put, List.setIfInBounds_toArray, List.set_cons_zero, List.set_cons_succ, i64_w, i32_w]
         rfl
        refine last_ (i := 13) (N := none) #[true, true, true, true, true, true, true, true, true, true, true, true, true, true, false, false] rfl rfl (one_of HT_.out (by kernel_rfl)) (by decide) (fun K hK => ?_)
        refine skip_ (w1 := ?_) (by rfl) rfl ?_ ?_
        rotate_left
        ·go_simp
         rfl
        refine hK.out _ _ ?_
        clear hK K
        refine pure_ (i := 14) (N := some 27) (v := ?_) (a' := ?_) #[true, true, true, true, true, true, true, true, true, true, true, true, true, true, true, false] rfl rfl (any_of HT_.out (by kernel_rfl)) (fun _ _ _ h => h) (Or.inl ⟨by rfl, ?_⟩) ?_ ?_
        rotate_left
        ·intro w'
         go_simp
         with_reducible rfl
        rotate_left
        ·simp only [Act.put, List.setIfInBounds_toArray, List.set_cons_zero, List.set_cons_succ, i64_w, i32_w]
         rfl
        refine last_ (i := 15) (N := none) #[true, true, true, true, true, true, true, true, true, true, true, true, true, true, true, true] rfl rfl (one_of HT_.out (by kernel_rfl)) (by decide) (fun K hK => ?_)
        refine skip_ (w1 := ?_) (by rfl) rfl ?_ ?_
        rotate_left
        ·go_simp
         rfl
        refine hK.out _ _ ?_
        clear hK K
        refine done_ (done_of HT_.out (by kernel_rfl)) ?_
        try go_wp2
        (try simp only [← hl0_1])
        go_roundg k1
        case measure => have := HK1.out; omega
        case rel => exact ⟨(y493), (wrap64 (x2_1 + 1)), (wrap64 (x3_1 - 1)), qT, qT, H', ⟨by have := HK1.out; omega⟩, ⟨by (try simp only [hl0_1]); (with_reducible repeat (first | apply Kd.R_alloc | apply Kd.R_drewN | apply Kd.R_drew)); exact HQ12.out⟩, ⟨by repeat (first | (with_reducible first | exact HK.out | apply Kept.alloc | apply Kept.drewN | apply Kept.drew | refine Kept.setCell ?_ HMgo8.out _ | refine Kept.setCell ?_ HMgo8.out _) | exact HK.out)⟩, ⟨by repeat (first | (with_reducible first | exact HB.out | apply below_alloc | apply pw_below_drewN | apply below_drew1 | refine below_set ?_ GB8.out | refine below_set ?_ GB8.out) | exact HB.out)⟩⟩
       ·rw [if_neg c7] at H
        exact absurd H (by simp)
      ·rw [if_neg c6] at H
       exact absurd H (by simp)
     ·rw [if_neg c5] at H
      exact absurd H (by simp)
    ·rw [if_neg c4] at H
     exact absurd H (by simp)
   ·rw [if_neg c3] at H
    have c3b0 := decide_eq_false c3
    clear c3
    obtain rfl := Option.some.inj H
    go_wp2
    first | go_end0 | ((try simp only [Exit.inBlock, Exit.then]); refine bodyPost_ret (results_none rfl _ _ _) rfl ?_)
    exact ⟨qE, (by first | exact (qR HO_0.out) | (simp only [hl0_1]; exact (qR HO_0.out))), qB, by repeat (first | (with_reducible first | exact HK.out | apply Kept.alloc | apply Kept.drewN | apply Kept.drew) | exact HK.out)⟩

end Go.Proofs.YtebnnknijbgekaaDoor.Q
namespace Go.Proofs.YtebnnknijbgekaaDoor.Q
open Go.RowKit Go.Proofs.YtebnnknijbgekaaDoorW.PrintWords Go.Proofs.YtebnnknijbgekaaDoorW.PrintLast Go.Proofs.YtebnnknijbgekaaDoorW.PrintMore
set_option linter.unusedVariables false
set_option linter.unusedSimpArgs false

mutual
def flow_Order_1.l0 : Nat → List (List SIns) → Int → List Bool → List Int → List Int → Int → Option (List Bool × List Int)
  | 0, _, _, _, _, _, _ => none
  | k + 1, x, i, met, out, s, j =>
    if j < (s.length : Int) then
      if 0 ≤ j then
        if 0 ≤ rd s j then
          if rd s j < (met.length : Int) then
            if rdOf false met (rd s j) = true then flow_Order_1.l0 k x i met out s (wrap64 (j + 1))
            else (flow_Order_1.f k x (rd s j) met out).bind fun b => flow_Order_1.l0 k x i b.1 b.2 s (wrap64 (j + 1))
          else none
        else none
      else none
    else if out.length < 17592186044416 then some (met, out ++ [i]) else none
def flow_Order_1.f : Nat → List (List SIns) → Int → List Bool → List Int → Option (List Bool × List Int)
  | 0, _, _, _, _ => none
  | k + 1, x, i, met, out =>
    if 0 ≤ i then
      if i < (met.length : Int) then (flow_Succs.f k x i).bind fun s => flow_Order_1.l0 k x i (met.set i.toNat true) out s 0
      else none
    else none
end

/-- The captured variables, and what is in them. -/
structure OrderSt (w0 w : World) (gm gb gv go : Nat) (vm vo : Value) (A : Option Addr) (c : Nat) (x : List (List SIns)) (met : List Bool) (out : List Int) : Prop where
  bm : w.heap[gm]? = some (.cells #[vm] 50 (0, 0))
  bb : w.heap[gb]? = some (.cells #[.slice A x.length c] 22 (0, 0))
  bv : w.heap[gv]? = some (.cells #[.func (.func 78) #[] #[.pointer (some ⟨gm, 0, none⟩), .pointer (some ⟨gb, 0, none⟩), .pointer (some ⟨gv, 0, none⟩), .pointer (some ⟨go, 0, none⟩)]] 86 (0, 0))
  bo : w.heap[go]? = some (.cells #[vo] 29 (0, 0))
  hm : Kd.R Kd.bool 4 w w0.heap.size (fun _ => True) vm met
  ho : Kd.R (Kd.int .i64) 3 w w0.heap.size (fun _ => True) vo out
  hB : Below w0.heap.size w0 w
  gem : w0.heap.size ≤ gm
  geb : w0.heap.size ≤ gb
  gev : w0.heap.size ≤ gv
  geo : w0.heap.size ≤ go
  hx : Kd.C (Kd.slice 31 kIns) w0 A x.length x
  hc : x.length ≤ c

section
variable {w0 w w1 : World} {gm gb gv go : Nat} {vm vo vo' : Value} {A : Option Addr} {c : Nat} {x : List (List SIns)} {met : List Bool} {out : List Int}
theorem OrderSt.typm (hs : OrderSt w0 w gm gb gv go vm vo A c x met out) : ∀ k, vm.ownBlock = some k → ∃ cells, w.heap[k]? = some (.cells cells 4 (0, 0)) := Kd.R_typed hs.hm
theorem OrderSt.typo (hs : OrderSt w0 w gm gb gv go vm vo A c x met out) : ∀ k, vo.ownBlock = some k → ∃ cells, w.heap[k]? = some (.cells cells 3 (0, 0)) := Kd.R_typed hs.ho
theorem ne_own {g t t' : Nat} {cs : Array Value} {v : Value} (h : w.heap[g]? = some (.cells cs t (0, 0))) (ht : ∀ k, v.ownBlock = some k → ∃ cells, w.heap[k]? = some (.cells cells t' (0, 0))) (hne : t ≠ t') : v.ownBlock ≠ some g := by
  intro e
  obtain ⟨cells, hc⟩ := ht g e
  exact blk_ne h hc hne rfl
theorem OrderSt.below (hs : OrderSt w0 w gm gb gv go vm vo A c x met out) (hb : Below w.heap.size w w1) : OrderSt w0 w1 gm gb gv go vm vo A c x met out :=
  ⟨blk_below hs.bm hb, blk_below hs.bb hb, blk_below hs.bv hb, blk_below hs.bo hb, Kd.R_below hs.hm hb, Kd.R_below hs.ho hb, below_step hs.hB hb, hs.gem, hs.geb, hs.gev, hs.geo, hs.hx, hs.hc⟩
theorem OrderSt.putm {gx n cx : Nat} (hs : OrderSt w0 w gm gb gv go (.slice (some ⟨gx, 0, none⟩) n cx) vo A c x met out) (i : Int) (b : Bool) :
    OrderSt w0 (w.setCell ⟨gx, i.toNat, none⟩ (.bool b)) gm gb gv go (.slice (some ⟨gx, 0, none⟩) n cx) vo A c x (met.set i.toNat b) out := by
  obtain ⟨h1, h2⟩ := Kd.R_putg hs.hm i b
  obtain ⟨cells, hc⟩ := hs.typm gx (by simp [Value.ownBlock])
  exact ⟨blk_far hs.bm (p := ⟨gx, _, none⟩) (blk_ne hs.bm hc (by decide)) _, blk_far hs.bb (p := ⟨gx, _, none⟩) (blk_ne hs.bb hc (by decide)) _, blk_far hs.bv (p := ⟨gx, _, none⟩) (blk_ne hs.bv hc (by decide)) _, blk_far hs.bo (p := ⟨gx, _, none⟩) (blk_ne hs.bo hc (by decide)) _,
    h1, Kd.R_over' (v := .slice (some ⟨gx, 0, none⟩) n cx) hs.ho hs.typm (by decide) h2, below_set hs.hB (Kd.R_base hs.hm gx (by simp [Value.ownBlock])), hs.gem, hs.geb, hs.gev, hs.geo, hs.hx, hs.hc⟩
theorem OrderSt.app (hs : OrderSt w0 w gm gb gv go vm vo A c x met out) {out' : List Int} (ho : Kd.R (Kd.int .i64) 3 w1 w0.heap.size (fun _ => True) vo' out') (hB : Below w0.heap.size w0 w1) (hg : w.grownBy w1 vo.ownBlock) :
    OrderSt w0 (w1.setCell ⟨go, 0, none⟩ vo') gm gb gv go vm vo' A c x met out' := by
  have n1 := ne_own hs.bm hs.typo (by decide)
  have n2 := ne_own hs.bb hs.typo (by decide)
  have n3 := ne_own hs.bv hs.typo (by decide)
  have n4 := ne_own hs.bo hs.typo (by decide)
  have m1 := blk_grown hs.bm hg (Ne.symm n1)
  have m2 := blk_grown hs.bb hg (Ne.symm n2)
  have m3 := blk_grown hs.bv hg (Ne.symm n3)
  have m4 := blk_grown hs.bo hg (Ne.symm n4)
  exact ⟨blk_far m1 (p := ⟨go, 0, none⟩) (blk_ne m1 m4 (by decide)) _, blk_far m2 (p := ⟨go, 0, none⟩) (blk_ne m2 m4 (by decide)) _, blk_far m3 (p := ⟨go, 0, none⟩) (blk_ne m3 m4 (by decide)) _, blk_put m4 0 _ rfl,
    Kd.R_set (Kd.R_over' hs.hm hs.typo (by decide) hg) m4 (by decide) 0 _, Kd.R_set ho m4 (by decide) 0 _, below_set hB hs.geo, hs.gem, hs.geb, hs.gev, hs.geo, hs.hx, hs.hc⟩
end
/-- The blocks that a visit may write. -/
abbrev OrderMay (go : Nat) (vm vo : Value) : Nat → Prop := fun b => b = go ∨ vm.ownBlock = some b ∨ vo.ownBlock = some b

set_option maxHeartbeats 8000000 in
set_option maxRecDepth 100000 in
theorem flow_Order_1.calls (k : Nat) : ∀ (x : List (List SIns)) (i : Int) (met : List Bool) (out : List Int) (met' : List Bool) (out' : List Int) (w0 w : World) (gm gb gv go : Nat) (vm vo : Value) (A : Option Addr) (c : Nat)
    (h : flow_Order_1.f k x i met out = some (met', out')) (hs : OrderSt w0 w gm gb gv go vm vo A c x met out),
    Calls Tryd.prog 78 #[.int .i64 i, .pointer (some ⟨gm, 0, none⟩), .pointer (some ⟨gb, 0, none⟩), .pointer (some ⟨gv, 0, none⟩), .pointer (some ⟨go, 0, none⟩)] w fun e w' =>
      e = .returned (.tuple #[]) ∧ ∃ vo', OrderSt w0 w' gm gb gv go vm vo' A c x met' out' ∧ Kept w w' (OrderMay go vm vo) ∧ ∀ b, vo'.ownBlock = some b → vo.ownBlock = some b ∨ w.heap.size ≤ b := by
  induction k using Nat.strongRecOn with
  | _ k ih =>
  intro x i met out met' out' w0 w gm gb gv go vm vo A c h hs
  cases k with
  | zero => exact absurd h (by simp [flow_Order_1.f])
  | succ k =>
  simp only [flow_Order_1.f] at h
  by_cases c1 : ¬ 0 ≤ i
  · rw [if_neg c1] at h
    exact absurd h (by simp)
  replace c1 := Decidable.not_not.1 c1
  rw [if_pos c1] at h
  by_cases c2 : ¬ i < (met.length : Int)
  · rw [if_neg c2] at h
    exact absurd h (by simp)
  replace c2 := Decidable.not_not.1 c2
  rw [if_pos c2] at h
  replace h := Option.bind_eq_some_iff.mp h
  obtain ⟨s, hsu, h⟩ := h
  have HSU := Aside0.mk hsu
  have H := Aside0.mk h
  have IH := Aside0.mk ih
  clear hsu h ih
  obtain ⟨gx, cx, ex, gbx, glx, clx, HGx⟩ := Kd.R_form hs.hm (by omega)
  subst ex
  have HS := Aside0.mk hs
  clear hs gbx glx HGx clx
  obtain ⟨hx0, hf0⟩ := Kd.R_celln false HS.out.hm i c1 c2
  have cm : w.cell? ⟨gm, 0, none⟩ = some _ := blk_cell HS.out.bm 0
  have HS1 := Aside0.mk (HS.out.putm i true)
  go_enter Tryd.func78, Tryd.ntmps78
  go_wp2_with (first
    | ((with_reducible refine gate_store (t := 4) (p := 10) rfl ?_); refine store_event (t := 4) (p := 10) (v := ?vo_) (w1 := (w.setCell ⟨gx, i.toNat, none⟩ (.bool true))) ?hg ?ho ?hn ?hr ?_; (case ho => rfl); (case hg => rfl); (case hn => rfl); (case hr => first | (go_simp; done) | (go_simp; rfl)); intro w1 hw; rw [← hw] at HS1; have HK1 := Aside0.mk (hw ▸ Kept.setCell (S := OrderMay go (.slice (some ⟨gx, 0, none⟩) met.length cx) vo) (Kept.refl w _) (.inl (.inr (.inl (by simp [Value.ownBlock])))) _); clear hw cm hx0 hf0; have cb : w1.cell? ⟨gb, 0, none⟩ = some _ := blk_cell HS1.out.bb 0)
    | ((with_reducible refine gate_callee (f := 73) rfl ?_); refine goesL_ (some 13) rfl rfl Tryd.func73 (by kernel_rfl) rfl #[.slice A x.length c, .int .i64 i] rfl (by (try simp only [List.map_toArray, List.map_cons, List.map_nil]); first | done | rfl) ?_; (with_reducible refine (flow_Succs.calls k _ _ x i s _ ?side1 ?side2 HSU.out).mono ?_); (case side1 => repeat (first | exact (Kd.C_below HS1.out.hx HS1.out.hB) | (with_reducible refine Kd.C_alloc ?_ _) | (with_reducible refine Kd.C_drewN ?_ _) | (with_reducible refine Kd.C_drew ?_))); (case side2 => exact HS1.out.hc); rintro e w2 ⟨v0, rfl, ho0, hb⟩; refine ⟨_, rfl, ?_⟩;
        obtain ⟨As, cs, es⟩ := Kd.R_slice ho0; subst es; have HS2 := Aside0.mk (HS1.out.below hb); have HK2 := Aside0.mk (Kept.below HK1.out hb);
        have HR := Aside0.mk (show Kd.R (Kd.int .i64) 3 w2 0 (fun k_ => k_ ≠ go ∧ some k_ ≠ (Value.slice (some ⟨gx, 0, none⟩) met.length cx).ownBlock ∧ some k_ ≠ vo.ownBlock) (.slice As s.length cs) s from Kd.R_lower (Kd.R_mono (Kd.R_bound ho0) (fun k_ hk => ⟨fun e_ => by have := blk_lt HS1.out.bo; omega, fun e_ => by have := Kd.R_lt HS1.out.hm k_ e_.symm; omega, fun e_ => by have := Kd.R_lt HS1.out.ho k_ e_.symm; omega⟩)) (Nat.zero_le _));
        clear HS1 HK1 ho0 hb HSU cb))
  go_loopg [15] k (fun kq v15 w' => ∃ (met1 : List Bool) (out1 : List Int) (vo1 : Value) (j : Int), v15 = .int .i64 j ∧ Aside0 (flow_Order_1.l0 kq x i met1 out1 s j = some (met', out')) ∧ Aside0 (kq ≤ k) ∧
    Aside0 (OrderSt w0 w' gm gb gv go (.slice (some ⟨gx, 0, none⟩) met.length cx) vo1 A c x met1 out1) ∧ Aside0 (Kept w w' (OrderMay go (.slice (some ⟨gx, 0, none⟩) met.length cx) vo)) ∧
    Aside0 (∀ b, vo1.ownBlock = some b → vo.ownBlock = some b ∨ w.heap.size ≤ b) ∧
    Aside0 (Kd.R (Kd.int .i64) 3 w' 0 (fun k_ => k_ ≠ go ∧ some k_ ≠ (Value.slice (some ⟨gx, 0, none⟩) met.length cx).ownBlock ∧ some k_ ≠ vo1.ownBlock) (.slice As s.length cs) s))
  case atStart => exact ⟨_, _, _, 0, by first | rfl | simp, H, ⟨Nat.le_refl _⟩, HS2, HK2, ⟨fun _ h => .inl h⟩, HR⟩
  case round =>
    clear H HS2 HK2 HR
    obtain ⟨met1, out1, vo1, j, rfl, HA, HK1, HS1, HK, HV, HR⟩ := hrel
    cases gk with
    | zero => exact absurd HA.out (by simp [flow_Order_1.l0])
    | succ k1 =>
      have H := HA.out
      clear HA
      simp only [flow_Order_1.l0] at H
      by_cases c3 : j < (s.length : Int)
      · rw [if_pos c3] at H
        have c3b0 : decide (j < (s.length : Int)) = true := decide_eq_true c3
        by_cases c4 : ¬ 0 ≤ j
        · rw [if_neg c4] at H
          exact absurd H (by simp)
        replace c4 := Decidable.not_not.1 c4
        rw [if_pos c4] at H
        by_cases c5 : ¬ 0 ≤ rd s j
        · rw [if_neg c5] at H
          exact absurd H (by simp)
        replace c5 := Decidable.not_not.1 c5
        rw [if_pos c5] at H
        by_cases c6 : ¬ rd s j < (met1.length : Int)
        · rw [if_neg c6] at H
          exact absurd H (by simp)
        replace c6 := Decidable.not_not.1 c6
        rw [if_pos c6] at H
        obtain ⟨ad, ea, hx1⟩ := Kd.at_int (Kd.R_reads' HR.out).2.2 j c4 c3
        cases ea
        replace c6 : rd s j < (met.length : Int) := by have := (Kd.R_reads' HS1.out.hm).1; omega
        obtain ⟨hx2, hf2⟩ := Kd.R_celln false HS1.out.hm (rd s j) c5 c6
        have cm : wr.cell? ⟨gm, 0, none⟩ = some _ := blk_cell HS1.out.bm 0
        have cv : wr.cell? ⟨gv, 0, none⟩ = some _ := blk_cell HS1.out.bv 0
        by_cases c7 : rdOf false met1 (rd s j) = true
        · rw [if_pos c7] at H
          have H' := Aside0.mk H
          clear H
          have c7b : (!rdOf false met1 (rd s j)) = false := by rw [c7]; rfl
          clear c7
          go_wp2_with fail
          go_roundg k1
          case measure => have := HK1.out; omega
          case rel => exact ⟨met1, out1, vo1, _, by first | rfl | simp, H', ⟨by have := HK1.out; omega⟩, HS1, HK, HV, HR⟩
        · rw [if_neg c7] at H
          replace H := Option.bind_eq_some_iff.mp H
          obtain ⟨b, hb0, H⟩ := H
          have H' := Aside0.mk H
          have HB0 := Aside0.mk hb0
          clear H hb0
          have c7b : (!rdOf false met1 (rd s j)) = true := by rw [Bool.eq_false_iff.mpr c7]; rfl
          clear c7
          go_wp2_with fail
          refine (IH.out k1 (by have := HK1.out; omega) x (rd s j) met1 out1 b.1 b.2 w0 wr gm gb gv go _ vo1 A c HB0.out HS1.out).mono ?_
          rintro e w3 ⟨rfl, vo3, hs3, hk3, hv3⟩
          have HS3 := Aside0.mk hs3
          have HK3 := Aside0.mk (Kept.then_ HK.out hk3 (fun b hb => by
            rcases hb with hb | hb | hb
            · exact .inl (.inl hb)
            · exact .inl (.inr (.inl hb))
            · rcases HV.out b hb with h | h
              · exact .inl (.inr (.inr h))
              · exact .inr h))
          have HV3 := Aside0.mk (show ∀ b, vo3.ownBlock = some b → vo.ownBlock = some b ∨ w.heap.size ≤ b from fun b hb => by
            rcases hv3 b hb with h | h
            · exact HV.out b h
            · exact .inr (Nat.le_trans HK.out.1 h))
          have HR3 := Aside0.mk (show Kd.R (Kd.int .i64) 3 w3 0 (fun k_ => k_ ≠ go ∧ some k_ ≠ (Value.slice (some ⟨gx, 0, none⟩) met.length cx).ownBlock ∧ some k_ ≠ vo3.ownBlock) (.slice (some ad) s.length cs) s from
            Kd.R_mono (Kd.R_step (Kd.R_bound HR.out) (fun q hq hlt => hk3.2 q hlt (fun hm => by
              rcases hm with h | h | h
              · exact hq.1.1 h
              · exact hq.1.2.1 h.symm
              · exact hq.1.2.2 h.symm))) (fun q hq => ⟨hq.1.1, hq.1.2.1, fun e_ => by
                rcases hv3 q e_.symm with h | h
                · exact hq.1.2.2 h.symm
                · have := hq.2.2.1; omega⟩))
          clear hs3 hk3 hv3 HS1 HK HV HR
          go_wp2_with fail
          go_roundg k1
          case measure => have := HK1.out; omega
          case rel => exact ⟨b.1, b.2, vo3, _, by first | rfl | simp, H', ⟨by have := HK1.out; omega⟩, HS3, HK3, HV3, HR3⟩
      · rw [if_neg c3] at H
        have c3b0 : decide (j < (s.length : Int)) = false := decide_eq_false c3
        by_cases c4 : ¬ out1.length < 17592186044416
        · rw [if_neg c4] at H
          exact absurd H (by simp)
        replace c4 := Decidable.not_not.1 c4
        rw [if_pos c4] at H
        have HE := Aside0.mk (Prod.mk.inj (Option.some.inj H))
        have HL := Aside0.mk c4
        clear H c4
        obtain ⟨y, hy⟩ : ∃ y_ : List Int, y_ = out1 ++ [i] := ⟨_, rfl⟩
        have NY := Aside0.mk hy
        clear hy
        have co : wr.cell? ⟨go, 0, none⟩ = some vo1 := blk_cell HS1.out.bo 0
        have fo : wr.frozen? ⟨go, 0, none⟩ = false := blk_frozen HS1.out.bo 0
        go_wp2_with (first
          | ((with_reducible refine gate_builtin (b := .append) (xs := #[.tmp 28, .tmp 30]) rfl ?_); at_builtin; (refine Kd.R_append (Kd.int .i64) (w0 := w0) w0.heap.size rfl (.tmp 28) (.tmp 30) 29 3 (.int .i64 0) 8 rfl Tryd.underlying29 info3 rfl (by decide) (by omega) vo1 out1 i [.int .i64 i] (fun _ => True) (fun _ => False) rfl rfl ?aP (fun _ hk => hk.elim) ?aF ?aO ?aB ?aS ?aL ?_; (case aP => exact rfl); (case aF => exact fun _ _ => trivial); (case aO => exact HS1.out.ho); (case aB => exact HS1.out.hB); (case aS => exact below_size HS1.out.hB); (case aL => have := HL.out; omega); intro v1 w3 ho3 hb3 hg3 hat3; rw [← NY.out] at ho3; obtain ⟨A4, c4, e4⟩ := Kd.R_slice ho3; subst e4; have HS3 := Aside0.mk (HS1.out.app ho3 hb3 hg3); have HK3 := Aside0.mk (Kept.of_grown (S := OrderMay go (.slice (some ⟨gx, 0, none⟩) met.length cx) vo) hg3 HK.out (fun b hb => by rcases HV.out b hb with h | h; (exact .inl (.inr (.inr h))); exact .inr h)); have HV3 := Aside0.mk (show ∀ b, (Value.slice A4 y.length c4).ownBlock = some b → vo.ownBlock = some b ∨ w.heap.size ≤ b from fun b hb => by rcases hat3 with h | ⟨q, h, hq⟩; (exact HV.out b (h ▸ hb)); (have := HK.out.1; have e_ : b = q := by rw [h] at hb; exact (Option.some.inj hb).symm); (right; omega)); have fo3 : w3.frozen? ⟨go, 0, none⟩ = false := blk_frozen (blk_grown HS1.out.bo hg3 (Ne.symm (ne_own HS1.out.bo HS1.out.typo (by decide)))) 0; have co3 : w3.cell? ⟨go, 0, none⟩ = some vo1 := blk_cell (blk_grown HS1.out.bo hg3 (Ne.symm (ne_own HS1.out.bo HS1.out.typo (by decide)))) 0; clear ho3 hb3 hg3 hat3 HS1 HK HV HR co fo)))
        first | go_end0 | ((try simp only [Exit.inBlock, Exit.then]); refine bodyPost_ret (results_none rfl _ _ _) rfl ?_)
        obtain ⟨e1, e2⟩ := HE.out
        rw [← NY.out] at e2
        subst e1 e2
        exact ⟨rfl, _, HS3.out, Kept.setCell HK3.out (.inl (.inl rfl)) _, HV3.out⟩
def flow_Order.f (k : Nat) (l0 : List (List SIns)) : Option (List Int) :=
  if (l0.length : Int) = 0 then some []
  else if l0.length ≤ 281474976710656 then (flow_Order_1.f k l0 0 (List.replicate l0.length false) []).bind fun b => slices_Reverse_int_int.f k b.2
  else none
theorem flow_Order_1.mono_l : ∀ k, (∀ y0 y1 y2 y3 y4 y5, LeO (flow_Order_1.l0 k y0 y1 y2 y3 y4 y5) (flow_Order_1.l0 (k + 1) y0 y1 y2 y3 y4 y5)) ∧ (∀ y0 y1 y2 y3, LeO (flow_Order_1.f k y0 y1 y2 y3) (flow_Order_1.f (k + 1) y0 y1 y2 y3))
  | 0 => ⟨fun _ _ _ _ _ _ r h => by simp [flow_Order_1.l0] at h, fun _ _ _ _ r h => by simp [flow_Order_1.f] at h⟩
  | k + 1 => by
    obtain ⟨ih0, ih1⟩ := flow_Order_1.mono_l k
    refine ⟨?_, ?_⟩
    · intro y0 y1 y2 y3 y4 y5
      unfold flow_Order_1.l0
      repeat' first
      | (with_reducible exact ih0 _ _ _ _ _ _)
      | (with_reducible exact ih1 _ _ _ _)
      | (with_reducible exact LeO.refl _)
      | (with_reducible refine LeO.ite ?_ ?_)
      | (with_reducible refine LeO.bind ?_ (fun _ => ?_))
    · intro y0 y1 y2 y3
      unfold flow_Order_1.f
      repeat' first
      | (with_reducible exact ih0 _ _ _ _ _ _)
      | (with_reducible exact flow_Succs.mono _ _ _)
      | (with_reducible exact LeO.refl _)
      | (with_reducible refine LeO.ite ?_ ?_)
      | (with_reducible refine LeO.bind ?_ (fun _ => ?_))
theorem flow_Order.mono : ∀ a0 k, LeO (flow_Order.f k a0) (flow_Order.f (k + 1) a0) := by
  intro a0 k
  unfold flow_Order.f
  repeat' first
  | (with_reducible exact (flow_Order_1.mono_l k).2 _ _ _ _)
  | (with_reducible exact slices_Reverse_int_int.mono _ _)
  | (with_reducible exact LeO.refl _)
  | (with_reducible refine LeO.ite ?_ ?_)
  | (with_reducible refine LeO.bind ?_ (fun _ => ?_))

set_option maxHeartbeats 8000000 in
set_option maxRecDepth 100000 in
theorem flow_Order.calls (k : Nat) (A0 : Option Addr) (c0 : Nat) (l0 : List (List SIns)) (r : List Int) (w : World) (hr0 : Kd.C (Kd.slice 31 kIns) w A0 l0.length l0) (hc0 : l0.length ≤ c0) (h : flow_Order.f k l0 = some r) :
    Calls Tryd.prog 54 #[.slice A0 l0.length c0] w fun e w' => ∃ v0_ : Value, e = .returned (v0_) ∧ Kd.R (Kd.int .i64) 3 w' w.heap.size (fun _ => True) v0_ r ∧ Below w.heap.size w w' := by
  have HR0 := Aside0.mk hr0
  have HC0 := Aside0.mk hc0
  clear hr0 hc0
  unfold flow_Order.f at h
  by_cases c1 : (l0.length : Int) = 0
  · rw [if_pos c1] at h
    obtain rfl := Option.some.inj h
    have c1b : ((l0.length : Int) == 0) = true := beq_iff_eq.mpr c1
    have c1n : (l0.length == 0) = true := beq_iff_eq.mpr (by omega)
    clear c1 h
    go_enter Tryd.func54, Tryd.ntmps54
    go_wp2_with fail
    go_ret
    exact ⟨_, rfl, Kd.R_nil _ _ _ _ _, (Below.refl _ _).alloc (Nat.le_refl _) _⟩
  · rw [if_neg c1] at h
    by_cases c2 : ¬ l0.length ≤ 281474976710656
    · rw [if_neg c2] at h
      exact absurd h (by simp)
    replace c2 := Decidable.not_not.1 c2
    rw [if_pos c2] at h
    obtain ⟨b, hb, h⟩ := Option.bind_eq_some_iff.mp h
    have H := Aside0.mk h
    have HB0 := Aside0.mk hb
    clear h hb
    have c1b : ((l0.length : Int) == 0) = false := beq_eq_false_iff_ne.mpr c1
    have c1n : (l0.length == 0) = false := beq_eq_false_iff_ne.mpr (by omega)
    clear c1
    have hmf : ∀ (fn : Fn) (first cap : Array Value) (w : World), (Instr.makeFunc fn first cap).run Tryd.prog w = .ok (.func fn first cap) w := fun _ _ _ _ => rfl
    go_enter Tryd.func54, Tryd.ntmps54
    have hsf := fun (a : Addr) (c : Array Value) (w : World) => run_store Tryd.prog w a (.func (.func 78) #[] c) .plain rfl
    have HBz := Aside0.mk (Below.refl w.heap.size w)
    go_wp2_with (first
      | ((with_reducible refine gate_dst (N := 1) rfl ?_); refine box_event ?hg (N := 1) ?hd (cs := #[.slice A0 l0.length c0]) (t := 22) ?hr ?_; (case hd => rfl); (case hg => rfl); (case hr => first | (go_simp; done) | (go_simp; rfl)); intro gb hg w1 hbox hb; have HB1 := Aside0.mk hb; have BB1 := Aside0.mk hbox; have EB := Aside0.mk hg; clear hb hbox hg HBz; have cb : w1.cell? ⟨gb, 0, none⟩ = some _ := blk_cell BB1.out 0)
      | ((with_reducible refine gate_dst (N := 11) rfl ?_); refine Kd.R_make Kd.bool _ 4 rfl (N := 11) rfl 50 _ _ rfl (l0.length : Int) rfl rfl Tryd.underlying50 (.bool false) 1 info4 rfl (by decide) (by omega) false (ok := fun _ => True) (okp := fun _ => True) rfl (fun _ hk => hk) trivial (by omega) (by omega) (Below.refl _ _) (Nat.le_refl _) ?_; intro vm w2 ho hb hg_ hnew_; rw [show ((l0.length : Int)).toNat = l0.length from by omega] at ho; obtain ⟨Am, cm, em⟩ := Kd.R_slice ho; subst em; have HB2 := Aside0.mk (below_step HB1.out hb); have BB2 := Aside0.mk (blk_below BB1.out hb); have HM2 := Aside0.mk (Kd.R_lower ho (below_size HB1.out)); have GB := Aside0.mk (show w.heap.size ≤ gb by rw [EB.out]; exact Nat.le_refl _); clear hg_ hnew_ HB1 BB1 cb hb ho EB)
      | ((with_reducible refine gate_dst (N := 3) rfl ?_); refine box_event ?hg (N := 3) ?hd (cs := #[.slice none 0 0]) (t := 50) ?hr ?_; (case hd => rfl); (case hg => rfl); (case hr => first | (go_simp; done) | (go_simp; rfl)); intro gm hg w3 hbox hb; have HB3 := Aside0.mk (below_step HB2.out hb); have BB3 := Aside0.mk (blk_below BB2.out hb); have HM3 := Aside0.mk (Kd.R_below HM2.out hb); have BM3 := Aside0.mk hbox; have GM := Aside0.mk (show w.heap.size ≤ gm by rw [hg]; exact below_size HB2.out); clear hb hbox hg HB2 BB2 HM2; have cm3 : w3.cell? ⟨gm, 0, none⟩ = some _ := blk_cell BM3.out 0; have fm3 : w3.frozen? ⟨gm, 0, none⟩ = false := blk_frozen BM3.out 0)
      | ((with_reducible refine gate_store (t := 50) (p := 3) rfl ?_); refine store_event (t := 50) (p := 3) (v := ?vo_) (w1 := (w3.setCell ⟨gm, 0, none⟩ (.slice Am (List.replicate l0.length false).length cm))) ?hg ?ho ?hn ?hr ?_; (case ho => rfl); (case hg => rfl); (case hn => rfl); (case hr => first | (go_simp; done) | (go_simp; rfl)); intro w4 hw; have BM4 := Aside0.mk (hw ▸ blk_put BM3.out 0 _ rfl : w4.heap[gm]? = some (.cells #[.slice Am (List.replicate l0.length false).length cm] 50 (0, 0))); have BB4 := Aside0.mk (hw ▸ blk_far BB3.out (p := ⟨gm, 0, none⟩) (blk_ne BB3.out BM3.out (by decide)) _ : w4.heap[gb]? = some _); have HM4 := Aside0.mk (hw ▸ Kd.R_set HM3.out BM3.out (by decide) 0 _ : Kd.R Kd.bool 4 w4 _ _ _ _); have HB4 := Aside0.mk (hw ▸ below_set HB3.out GM.out : Below w.heap.size w w4); clear hw HB3 BB3 HM3 BM3 cm3 fm3))
    have hst : OrderSt w ((w4.alloc (.cells #[.slice none 0 0] 29)).alloc (.cells #[.func (.func 78) #[] #[.pointer (some ⟨gm, 0, none⟩), .pointer (some ⟨gb, 0, none⟩), .pointer (some ⟨w4.heap.size + 1, 0, none⟩), .pointer (some ⟨w4.heap.size, 0, none⟩)]] 86)) gm gb (w4.heap.size + 1) w4.heap.size
        (.slice Am (List.replicate l0.length false).length cm) (.slice none 0 0) A0 c0 l0 (List.replicate l0.length false) [] :=
      ⟨blk_alloc (blk_alloc BM4.out _) _, blk_alloc (blk_alloc BB4.out _) _, by have h := blk_new (w4.alloc (.cells #[.slice none 0 0] 29)) (.cells #[.func (.func 78) #[] #[.pointer (some ⟨gm, 0, none⟩), .pointer (some ⟨gb, 0, none⟩), .pointer (some ⟨w4.heap.size + 1, 0, none⟩), .pointer (some ⟨w4.heap.size, 0, none⟩)]] 86); simpa using h,
        blk_alloc (blk_new w4 _) _, Kd.R_alloc (Kd.R_alloc HM4.out _) _, Kd.R_nil _ _ _ _ _, below_alloc (below_alloc HB4.out _) _, GM.out, GB.out, by have := below_size HB4.out; omega, below_size HB4.out, HR0.out, HC0.out⟩
    refine (flow_Order_1.calls k l0 0 _ [] b.1 b.2 w _ gm gb _ _ _ _ A0 c0 HB0.out hst).mono ?_
    rintro e w6 ⟨rfl, vo6, hs6, -, -⟩
    clear hst BM4 BB4 HM4 HB4 hmf hsf
    obtain ⟨A6, c6, e6⟩ := Kd.R_slice hs6.ho
    subst e6
    have HS6 := Aside0.mk hs6
    clear hs6
    have co : w6.cell? ⟨w4.heap.size, 0, none⟩ = some _ := blk_cell HS6.out.bo 0
    go_wp2_with ((with_reducible refine gate_callee (f := 79) rfl ?_); refine goesL_ (some 16) rfl rfl Tryd.func79 (by kernel_rfl) rfl #[.slice A6 b.2.length c6] rfl (by (try simp only [List.map_toArray, List.map_cons, List.map_nil]); first | done | rfl) ?_; (refine (slices_Reverse_int_int.calls k (fun k_ => some k_ = (Value.slice A6 b.2.length c6).ownBlock) _ b.2 r w w6 HS6.out.hB (Kd.R_tight rfl HS6.out.ho) H.out).mono ?_); rintro e w7 ⟨rfl, ho7, hb7, hk7⟩; refine ⟨_, rfl, ?_⟩; have HO7 := Aside0.mk ho7; have HB7 := Aside0.mk hb7; have co7 : w7.cell? ⟨w4.heap.size, 0, none⟩ = some _ := blk_cell (blk_kept HS6.out.bo hk7 (fun e_ => ne_own HS6.out.bo HS6.out.typo (by decide) e_.symm)) 0; clear ho7 hb7 hk7 HS6 co)
    go_ret
    exact ⟨_, rfl, Kd.R_mono HO7.out (fun _ _ => trivial), HB7.out⟩
end Go.Proofs.YtebnnknijbgekaaDoor.Q
namespace Go.Proofs
open Go.Shelf
def Tryd.lays160_ren : Go.Shelf.Ren := ⟨fun | 160 => 65 | 232 => 82 | 231 => 81 | 227 => 83 | 234 => 85 | 233 => 84 | 236 => 87 | 235 => 86 | 228 => 99 | 271 => 102 | 151 => 101 | 197 => 100 | 120 => 108 | 152 => 107 | 260 => 106 | 137 => 109 | 119 => 110 | 224 => 111 | 225 => 112 | 217 => 113 | 266 => 114 | n => n, fun | 9 => 9 | 4 => 4 | 3 => 3 | 5 => 5 | 117 => 93 | 116 => 92 | 0 => 0 | 124 => 96 | 21 => 21 | 105 => 105 | 46 => 64 | 119 => 111 | 139 => 114 | 138 => 113 | n => n, fun | 3 => 2 | 4 => 3 | n => n⟩
theorem Tryd.lays160 : Go.Proofs.Lays.n160 Tryd.prog Tryd.lays160_ren := {
  mixed := by kernel_rfl
  f119 := Tryd.func110.trans (congrArg some (by kernel_rfl))
  f120 := Tryd.func108.trans (congrArg some (by kernel_rfl))
  f137 := Tryd.func109.trans (congrArg some (by kernel_rfl))
  f151 := Tryd.func101.trans (congrArg some (by kernel_rfl))
  f152 := Tryd.func107.trans (congrArg some (by kernel_rfl))
  f160 := Tryd.func65.trans (congrArg some (by kernel_rfl))
  f197 := Tryd.func100.trans (congrArg some (by kernel_rfl))
  f217 := Tryd.func113.trans (congrArg some (by kernel_rfl))
  f224 := Tryd.func111.trans (congrArg some (by kernel_rfl))
  f225 := Tryd.func112.trans (congrArg some (by kernel_rfl))
  f227 := Tryd.func83.trans (congrArg some (by kernel_rfl))
  f228 := Tryd.func99.trans (congrArg some (by kernel_rfl))
  f231 := Tryd.func81.trans (congrArg some (by kernel_rfl))
  f232 := Tryd.func82.trans (congrArg some (by kernel_rfl))
  f233 := Tryd.func84.trans (congrArg some (by kernel_rfl))
  f234 := Tryd.func85.trans (congrArg some (by kernel_rfl))
  f235 := Tryd.func86.trans (congrArg some (by kernel_rfl))
  f236 := Tryd.func87.trans (congrArg some (by kernel_rfl))
  f260 := Tryd.func106.trans (congrArg some (by kernel_rfl))
  f266 := Tryd.func114.trans (congrArg some (by kernel_rfl))
  f271 := Tryd.func102.trans (congrArg some (by kernel_rfl))
  t0 := Tryd.underlying0
  a0 := Tryd.isAgg0
  z0 := Tryd.sizeOf0
  v0 := Tryd.zeroValue0
  t3 := Tryd.underlying3
  a3 := Tryd.isAgg3
  z3 := Tryd.sizeOf3
  v3 := Tryd.zeroValue3
  t4 := Tryd.underlying4
  a4 := Tryd.isAgg4
  z4 := Tryd.sizeOf4
  v4 := Tryd.zeroValue4
  t5 := Tryd.underlying5
  a5 := Tryd.isAgg5
  z5 := Tryd.sizeOf5
  v5 := Tryd.zeroValue5
  t9 := Tryd.underlying9
  a9 := Tryd.isAgg9
  z9 := Tryd.sizeOf9
  v9 := Tryd.zeroValue9
  t21 := Tryd.underlying21
  a21 := Tryd.isAgg21
  z21 := Tryd.sizeOf21
  v21 := Tryd.zeroValue21
  t46 := Tryd.underlying64
  a46 := Tryd.isAgg64
  z46 := Tryd.sizeOf64
  v46 := Tryd.zeroValue64
  t105 := Tryd.underlying105
  a105 := Tryd.isAgg105
  z105 := Tryd.sizeOf105
  v105 := Tryd.zeroValue105
  t116 := Tryd.underlying92
  a116 := Tryd.isAgg92
  z116 := Tryd.sizeOf92
  t117 := Tryd.underlying93
  a117 := Tryd.isAgg93
  z117 := Tryd.sizeOf93
  v117 := Tryd.zeroValue93
  t119 := Tryd.underlying111
  a119 := Tryd.isAgg111
  z119 := Tryd.sizeOf111
  t124 := Tryd.underlying96
  a124 := Tryd.isAgg96
  z124 := Tryd.sizeOf96
  v124 := Tryd.zeroValue96
  t138 := Tryd.underlying113
  a138 := Tryd.isAgg113
  z138 := Tryd.sizeOf113
  v138 := Tryd.zeroValue113
  t139 := Tryd.underlying114
  a139 := Tryd.isAgg114
  z139 := Tryd.sizeOf114
  v139 := Tryd.zeroValue114
  g3 := by kernel_rfl
  g4 := by kernel_rfl }
def Tryd.l8_ren : Go.Shelf.Ren := ⟨fun | 8 => 90 | 6 => 103 | n => n, fun | 22 => 29 | 23 => 3 | 25 => 77 | 4 => 4 | 3 => 3 | 0 => 0 | n => n, fun | n => n⟩
theorem Tryd.l8 : Go.Proofs.SlLaysH.n8 Tryd.prog Tryd.l8_ren := {
  mixed := by kernel_rfl
  f6 := ⟨Tryd.f103.name, by decide, Tryd.func103.trans (congrArg some (by kernel_rfl))⟩
  f8 := ⟨Tryd.f90.name, by decide, Tryd.func90.trans (congrArg some (by kernel_rfl))⟩
  t0 := Tryd.underlying0
  a0 := Tryd.isAgg0
  z0 := Tryd.sizeOf0
  v0 := Tryd.zeroValue0
  t3 := Tryd.underlying3
  a3 := Tryd.isAgg3
  z3 := Tryd.sizeOf3
  v3 := Tryd.zeroValue3
  t4 := Tryd.underlying4
  a4 := Tryd.isAgg4
  z4 := Tryd.sizeOf4
  v4 := Tryd.zeroValue4
  t22 := Tryd.underlying29
  a22 := Tryd.isAgg29
  z22 := Tryd.sizeOf29
  v22 := Tryd.zeroValue29
  a23 := Tryd.isAgg3
  z23 := Tryd.sizeOf3
  t25 := Tryd.underlying77
  a25 := Tryd.isAgg77
  z25 := Tryd.sizeOf77
  v25 := Tryd.zeroValue77 }
def Tryd.laysTz_ren : Go.Shelf.Ren := ⟨fun | 29 => 75 | n => n, fun | 22 => 60 | 3 => 3 | 4 => 4 | 25 => 64 | 54 => 102 | 0 => 0 | 5 => 5 | n => n, fun | 1 => 1 | n => n⟩
theorem Tryd.laysTz : Go.Proofs.Lays7.n29 Tryd.prog Tryd.laysTz_ren := {
  mixed := by kernel_rfl
  f29 := Tryd.func75.trans (congrArg some (by kernel_rfl))
  t0 := Tryd.underlying0
  a0 := Tryd.isAgg0
  z0 := Tryd.sizeOf0
  v0 := Tryd.zeroValue0
  i0 := by kernel_rfl
  t3 := Tryd.underlying3
  a3 := Tryd.isAgg3
  z3 := Tryd.sizeOf3
  v3 := Tryd.zeroValue3
  i3 := by kernel_rfl
  t4 := Tryd.underlying4
  a4 := Tryd.isAgg4
  z4 := Tryd.sizeOf4
  v4 := Tryd.zeroValue4
  i4 := by kernel_rfl
  t5 := Tryd.underlying5
  a5 := Tryd.isAgg5
  z5 := Tryd.sizeOf5
  v5 := Tryd.zeroValue5
  i5 := by kernel_rfl
  t22 := Tryd.underlying60
  a22 := Tryd.isAgg60
  z22 := Tryd.sizeOf60
  v22 := Tryd.zeroValue60
  i22 := by kernel_rfl
  t25 := Tryd.underlying64
  a25 := Tryd.isAgg64
  z25 := Tryd.sizeOf64
  v25 := Tryd.zeroValue64
  i25 := by kernel_rfl
  t54 := Tryd.underlying102
  a54 := Tryd.isAgg102
  z54 := Tryd.sizeOf102
  g1 := by kernel_rfl }
end Go.Proofs
namespace Go.Proofs.YtebnnknijbgekaaDoor.Q
open Go.RowKit Go.Shelf Go.Proofs.YtebnnknijbgekaaDoorW.PrintWords Go.Proofs.YtebnnknijbgekaaDoorW.PrintLast Go.Proofs.YtebnnknijbgekaaDoorW.PrintMore
set_option linter.unusedVariables false

def nameCut : ByteArray := ⟨#[97, 98, 99, 100, 101, 102, 103, 104, 105, 106, 107, 108, 109, 110, 111, 112, 113, 114, 115, 116, 117, 118, 119, 120, 121, 122, 48, 49, 50, 51, 52, 53, 54, 55, 56, 57]⟩
def strings_Trim.f (a0 a1 : ByteArray) : Option ByteArray := if a0.size ≤ 9223372036854775807 ∧ a1 = nameCut then some ⟨(Lib.trimS a0.data.toList a1.data.toList).toArray⟩ else none
theorem strings_Trim.calls (a0 a1 : ByteArray) (r : ByteArray) (w : World) (h : strings_Trim.f a0 a1 = some r) :
    Calls Tryd.prog 65 #[.string a0, .string a1] w fun e w' => e = .returned (.string r) ∧ Below w.heap.size w w' := by
  unfold strings_Trim.f at h
  split at h
  · next c =>
    obtain ⟨c0, rfl⟩ := c
    obtain rfl := Option.some.inj h
    exact Any.strings_Trim_laid Tryd.lays160 (by kernel_rfl) a0 nameCut w c0 (by decide) (ascii_of_all (by decide))
  · exact absurd h (by simp)
end Go.Proofs.YtebnnknijbgekaaDoor.Q
