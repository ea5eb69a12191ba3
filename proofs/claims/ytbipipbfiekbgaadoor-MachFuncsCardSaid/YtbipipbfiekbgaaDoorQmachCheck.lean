/- Lean functions that answer as the Go functions named below do, and the proofs of that. Written by a program out of the translation. -/
import Derived.Test.YtbipipbfiekbgaaDoorQ0
import Derived.Test.YtbipipbfiekbgaaDoorSq
import Derived.Test.YtbipipbfiekbgaaDoorLaid
import Derived.Test.YtbipipbfiekbgaaDoorQirName
import Derived.Test.YtbipipbfiekbgaaDoorQmachbelow
import Derived.Test.YtbipipbfiekbgaaDoorQmachone
namespace Go.Proofs.YtbipipbfiekbgaaDoor.Q
open Go.RowKit Go.Proofs.YtbipipbfiekbgaaDoorW.PrintWords Go.Proofs.YtbipipbfiekbgaaDoorW.PrintLast Go.Proofs.YtbipipbfiekbgaaDoorW.PrintMore
attribute [local go_sem] max2_int min2_int max_two min_two max_three min_three max_four min_four   -- for this text's walks alone
set_option linter.unusedVariables false
set_option linter.unusedSimpArgs false

/-! ### mach_Check: function 10 -/
mutual
def mach_Check.j0 : Nat → Bool → ByteArray → Int → Int → Int → List (List (SIns)) → Option (Int)
 | 0, _, _, _, _, _, _ => none
 | k + 1, x46, x193000, x193001, x193002, x193003, x193004 => if x46 = true then (some 71) else (mach_Check.l0 k 1600 x193004 (x193004.length : Int) 0 x193000 x193001 x193002 x193003 x193004)
def mach_Check.l0 : Nat → Int → List (List (SIns)) → Int → Int → ByteArray → Int → Int → Int → List (List (SIns)) → Option (Int)
 | 0, _, _, _, _, _, _, _, _, _ => none
 | k + 1, x3, x48, x49, x50, x193000, x193001, x193002, x193003, x193004 => if x50 < x49 then (if 0 ≤ x50 then (if x50 < (x48.length : Int) then (if ((rd_LIns x48 x50).length : Int) = 0 then (some 71) else (if ((rd_LIns x48 x50).length : Int) > x3 then (some 71) else (mach_Check.l0 k (wrap64 (x3 - ((rd_LIns x48 x50).length : Int))) x48 x49 (wrap64 (x50 + 1)) x193000 x193001 x193002 x193003 x193004))) else (none)) else (none)) else (mach_Check.l1 k x193004 (x193004.length : Int) 0 x193000 x193001 x193002 x193003 x193004)
def mach_Check.l1 : Nat → List (List (SIns)) → Int → Int → ByteArray → Int → Int → Int → List (List (SIns)) → Option (Int)
 | 0, _, _, _, _, _, _, _, _ => none
 | k + 1, x69, x70, x71, x193000, x193001, x193002, x193003, x193004 => if x71 < x70 then (if 0 ≤ x71 then (if x71 < (x69.length : Int) then (mach_Check.l2 k (rd_LIns x69 x71) x69 x70 x71 (rd_LIns x69 x71) ((rd_LIns x69 x71).length : Int) 0 x193000 x193001 x193002 x193003 x193004) else (none)) else (none)) else (some 0)
def mach_Check.l2 : Nat → List (SIns) → List (List (SIns)) → Int → Int → List (SIns) → Int → Int → ByteArray → Int → Int → Int → List (List (SIns)) → Option (Int)
 | 0, _, _, _, _, _, _, _, _, _, _, _, _ => none
 | k + 1, x7, x69, x70, x71, x75, x76, x77, x193000, x193001, x193002, x193003, x193004 => if x77 < x76 then (if 0 ≤ x77 then (if x77 < (x75.length : Int) then ((mach_one.f k x193000 x193001 x193002 x193003 x193004 ((rd_TIns x75 x77).f0) ((rd_TIns x75 x77).f1) ((rd_TIns x75 x77).f2) ((rd_TIns x75 x77).f3) ((rd_TIns x75 x77).f4) ((rd_TIns x75 x77).f5) (x77 == (wrap64 ((x7.length : Int) - 1)))).bind fun t200 => (if t200 = 0 then (mach_Check.l2 k x7 x69 x70 x71 x75 x76 (wrap64 (x77 + 1)) x193000 x193001 x193002 x193003 x193004) else (some t200))) else (none)) else (none)) else (mach_Check.l1 k x69 x70 (wrap64 (x71 + 1)) x193000 x193001 x193002 x193003 x193004)
end
def mach_Check.f (k : Nat) (a0_0 : ByteArray) (a0_1 : Int) (a0_2 : Int) (a0_3 : Int) (l0_4 : List (List (SIns))) : Option (Int) := (ir_Name.f a0_0).bind fun t193 => (if t193 = true then ((mach_below.f a0_1 5).bind fun t194 => (if t194 = true then (if a0_2 < 6 then (mach_Check.j0 k true a0_0 a0_1 a0_2 a0_3 l0_4) else (if a0_2 > 16 then (mach_Check.j0 k true a0_0 a0_1 a0_2 a0_3 l0_4) else ((mach_below.f a0_3 65).bind fun t195 => (if t195 = true then (if (l0_4.length : Int) < 1 then (mach_Check.j0 k true a0_0 a0_1 a0_2 a0_3 l0_4) else (mach_Check.j0 k (decide ((l0_4.length : Int) > 33)) a0_0 a0_1 a0_2 a0_3 l0_4)) else (mach_Check.j0 k true a0_0 a0_1 a0_2 a0_3 l0_4))))) else (mach_Check.j0 k true a0_0 a0_1 a0_2 a0_3 l0_4))) else (some 70))
theorem mach_Check.mono_l : ∀ k, (∀ y0 y1 y2 y3 y4 y5, LeO (mach_Check.j0 k y0 y1 y2 y3 y4 y5) (mach_Check.j0 (k + 1) y0 y1 y2 y3 y4 y5)) ∧ (∀ y0 y1 y2 y3 y4 y5 y6 y7 y8, LeO (mach_Check.l0 k y0 y1 y2 y3 y4 y5 y6 y7 y8) (mach_Check.l0 (k + 1) y0 y1 y2 y3 y4 y5 y6 y7 y8)) ∧ (∀ y0 y1 y2 y3 y4 y5 y6 y7, LeO (mach_Check.l1 k y0 y1 y2 y3 y4 y5 y6 y7) (mach_Check.l1 (k + 1) y0 y1 y2 y3 y4 y5 y6 y7)) ∧ (∀ y0 y1 y2 y3 y4 y5 y6 y7 y8 y9 y10 y11, LeO (mach_Check.l2 k y0 y1 y2 y3 y4 y5 y6 y7 y8 y9 y10 y11) (mach_Check.l2 (k + 1) y0 y1 y2 y3 y4 y5 y6 y7 y8 y9 y10 y11))
 | 0 => ⟨fun _ _ _ _ _ _ r h => by simp [mach_Check.j0] at h, fun _ _ _ _ _ _ _ _ _ r h => by simp [mach_Check.l0] at h, fun _ _ _ _ _ _ _ _ r h => by simp [mach_Check.l1] at h, fun _ _ _ _ _ _ _ _ _ _ _ _ r h => by simp [mach_Check.l2] at h⟩
 | k + 1 => by
  obtain ⟨ih0, ih1, ih2, ih3⟩ := mach_Check.mono_l k
  refine ⟨?_, ?_, ?_, ?_⟩ <;> intros <;> (first | unfold mach_Check.j0 | unfold mach_Check.l0 | unfold mach_Check.l1 | unfold mach_Check.l2) <;> repeat' first | (with_reducible exact ih0 _ _ _ _ _ _) | (with_reducible exact ih1 _ _ _ _ _ _ _ _ _) | (with_reducible exact ih2 _ _ _ _ _ _ _ _) | (with_reducible exact ih3 _ _ _ _ _ _ _ _ _ _ _ _) | (with_reducible exact mach_one.mono _ _ _ _ _ _ _ _ _ _ _ _ _) | (with_reducible exact LeO.refl _) | (with_reducible exact LeO.none _) | (with_reducible refine LeO.ite ?_ ?_) | (with_reducible refine LeO.bind ?_ (fun _ => ?_)) | exact LeO.none _ | refine LeO.ite ?_ ?_ | refine LeO.bind ?_ (fun _ => ?_)
theorem mach_Check.mono : ∀ a0 a1 a2 a3 a4 k, LeO (mach_Check.f k a0 a1 a2 a3 a4) (mach_Check.f (k + 1) a0 a1 a2 a3 a4) := by
 intro a0 a1 a2 a3 a4 k
 obtain ⟨ih0, ih1, ih2, ih3⟩ := mach_Check.mono_l k
 unfold mach_Check.f
 repeat' first | (with_reducible exact ih0 _ _ _ _ _ _) | (with_reducible exact ih1 _ _ _ _ _ _ _ _ _) | (with_reducible exact ih2 _ _ _ _ _ _ _ _) | (with_reducible exact ih3 _ _ _ _ _ _ _ _ _ _ _ _) | (with_reducible exact mach_one.mono _ _ _ _ _ _ _ _ _ _ _ _ _) | (with_reducible exact LeO.refl _) | (with_reducible exact LeO.none _) | (with_reducible refine LeO.ite ?_ ?_) | (with_reducible refine LeO.bind ?_ (fun _ => ?_)) | exact LeO.none _ | refine LeO.ite ?_ ?_ | refine LeO.bind ?_ (fun _ => ?_)
set_option maxHeartbeats 8000000 in
set_option maxRecDepth 100000 in
theorem mach_Check.calls (k : Nat) (a0_0 : ByteArray) (a0_1 : Int) (a0_2 : Int) (a0_3 : Int) (A0_4 : Option Addr) (c0_4 : Nat) (l0_4 : List (List (SIns))) (r : Int) (w : World) (hL : LaidW w) (hr0_4 : Kd.C (Kd.slice 31 kIns) w A0_4 l0_4.length l0_4) (hc0_4 : l0_4.length ≤ c0_4) (h : mach_Check.f k a0_0 a0_1 a0_2 a0_3 l0_4 = some r) :
  Calls Tryd.prog 10 #[.agg #[.string a0_0, .int .i64 a0_1, .int .i64 a0_2, .int .i64 a0_3, .slice A0_4 l0_4.length c0_4]] w fun e w' => e = .returned (.int .i64 r) ∧ Below w.heap.size w w' := by
 have hu24 := Tryd.underlying24
 have hu31 := Tryd.underlying31
 have HR0_4 := Aside0.mk hr0_4
 have HC0_4 := Aside0.mk hc0_4
 clear hr0_4 hc0_4
 have HB := Aside0.mk (Below.refl w.heap.size w)
 have HLd := Aside0.mk hL
 clear hL
 have H := h; clear h; unfold mach_Check.f at H
 replace H := qb H; obtain ⟨t193, A2, H⟩ := H
 by_cases c3 : t193 = true
 ·subst c3
  have H1 : ((mach_below.f a0_1 5).bind fun t194 => (if t194 = true then (if a0_2 < 6 then (mach_Check.j0 k true a0_0 a0_1 a0_2 a0_3 l0_4) else (if a0_2 > 16 then (mach_Check.j0 k true a0_0 a0_1 a0_2 a0_3 l0_4) else ((mach_below.f a0_3 65).bind fun t195 => (if t195 = true then (if (l0_4.length : Int) < 1 then (mach_Check.j0 k true a0_0 a0_1 a0_2 a0_3 l0_4) else (mach_Check.j0 k (decide ((l0_4.length : Int) > 33)) a0_0 a0_1 a0_2 a0_3 l0_4)) else (mach_Check.j0 k true a0_0 a0_1 a0_2 a0_3 l0_4))))) else (mach_Check.j0 k true a0_0 a0_1 a0_2 a0_3 l0_4))) = some r := by rw [if_pos rfl] at H; exact H
  clear H
  have H := H1
  clear H1
  have HC4 := Aside0.mk H
  clear H
  go_enter Tryd.func10, Tryd.ntmps10
  go_upto_region 3 with (first | ((with_reducible refine gate_dst (N := 1) rfl ?_); (try (refine gate_guard (by rfl) ?_; dsimp only)); refine box_event (by rfl) (N := 1) (by rfl) (cs := #[.string a0_0, .int .i64 a0_1, .int .i64 a0_2, .int .i64 a0_3, .slice A0_4 l0_4.length c0_4]) (t := 24) ?hr ?_; (case hr => first | (go_simp; done) | (go_simp; rfl)); intro gb192 hg w5 hbox hb; have BK192 := Aside0.mk (hbox); have GW192 := qG hg; have GE192 := GW192; replace HB := qH hb; clear hb hbox hg; have z6_0 := bk5 BK192.out) | ((with_reducible refine gate_callee (f := 21) rfl ?_); refine goesL_ (some 13) rfl rfl Tryd.func21 (by kernel_rfl) rfl #[.string a0_0] rfl qL ?_; (with_reducible refine (ir_Name.calls a0_0 true _ A2.out).mono ?_); rintro e w7 ⟨rfl, hb⟩; refine ⟨_, rfl, ?_⟩; replace BK192 := qW BK192 hb; replace HB := qH hb; (try clear hb)))
  (try simp only [Act.put, List.setIfInBounds_toArray, List.set_cons_zero, List.set_cons_succ])
  go_cut [46] (fun v46 wc => ∃ (kq : Nat) (x46_3 : Bool), v46 = .bool x46_3 ∧ Aside0 (mach_Check.j0 kq x46_3 a0_0 a0_1 a0_2 a0_3 l0_4 = some r) ∧ Aside0 (kq ≤ k) ∧ Aside0 (wc.heap[gb192]? = some (.cells #[.string a0_0, .int .i64 a0_1, .int .i64 a0_2, .int .i64 a0_3, (.slice A0_4 l0_4.length c0_4)] 24 (0, 0))) ∧ Aside0 (Below w.heap.size w wc))
  case first =>
   have H := HC4.out
   clear HC4
   replace H := qb H; obtain ⟨t194, A8, H⟩ := H
   by_cases c9 : t194 = true
   ·subst c9
    have H1 : (if a0_2 < 6 then (mach_Check.j0 k true a0_0 a0_1 a0_2 a0_3 l0_4) else (if a0_2 > 16 then (mach_Check.j0 k true a0_0 a0_1 a0_2 a0_3 l0_4) else ((mach_below.f a0_3 65).bind fun t195 => (if t195 = true then (if (l0_4.length : Int) < 1 then (mach_Check.j0 k true a0_0 a0_1 a0_2 a0_3 l0_4) else (mach_Check.j0 k (decide ((l0_4.length : Int) > 33)) a0_0 a0_1 a0_2 a0_3 l0_4)) else (mach_Check.j0 k true a0_0 a0_1 a0_2 a0_3 l0_4))))) = some r := by rw [if_pos rfl] at H; exact H
    clear H
    have H := H1
    clear H1
    by_cases c10 : a0_2 < 6
    ·rw [if_pos c10] at H
     have c10b0 := decide_eq_true c10
     clear c10
     (first | rw [c10b0] | (simp only [i64_w, i32_w]; rw [c10b0]) | skip)
     have H' := Aside0.mk H
     clear H
     have z11_0 := bk5 BK192.out
     go_wp2_with (first | ((with_reducible refine gate_callee (f := 22) rfl ?_); refine goesL_ (some 17) rfl rfl Tryd.func22 (by kernel_rfl) rfl #[.int .i64 a0_1, .int .i64 5] rfl qL ?_; (with_reducible refine (mach_below.calls a0_1 5 true _ A8.out).mono ?_); rintro e w' ⟨rfl, ⟨nd, rfl⟩⟩; refine ⟨_, rfl, ?_⟩))
     go_meet
     case rel => exact ⟨_, (true), qT, H', ⟨qO⟩, ⟨qK BK192.out⟩, ⟨qB⟩⟩
    ·rw [if_neg c10] at H
     have c10b0 := decide_eq_false c10
     clear c10
     (first | rw [c10b0] | (simp only [i64_w, i32_w]; rw [c10b0]) | skip)
     by_cases c12 : a0_2 > 16
     ·rw [if_pos c12] at H
      have c12b0 : decide (16 < a0_2) = true := decide_eq_true c12
      clear c12
      have H' := Aside0.mk H
      clear H
      have z13_0 := bk5 BK192.out
      go_wp2_with (first | ((with_reducible refine gate_callee (f := 22) rfl ?_); refine goesL_ (some 17) rfl rfl Tryd.func22 (by kernel_rfl) rfl #[.int .i64 a0_1, .int .i64 5] rfl qL ?_; (with_reducible refine (mach_below.calls a0_1 5 true _ A8.out).mono ?_); rintro e w' ⟨rfl, ⟨nd, rfl⟩⟩; refine ⟨_, rfl, ?_⟩))
      go_meet
      case rel => exact ⟨_, (true), qT, H', ⟨qO⟩, ⟨qK BK192.out⟩, ⟨qB⟩⟩
     ·rw [if_neg c12] at H
      have c12b0 : decide (16 < a0_2) = false := decide_eq_false c12
      clear c12
      replace H := qb H; obtain ⟨t195, A14, H⟩ := H
      by_cases c15 : t195 = true
      ·subst c15
       have H1 : (if (l0_4.length : Int) < 1 then (mach_Check.j0 k true a0_0 a0_1 a0_2 a0_3 l0_4) else (mach_Check.j0 k (decide ((l0_4.length : Int) > 33)) a0_0 a0_1 a0_2 a0_3 l0_4)) = some r := by rw [if_pos rfl] at H; exact H
       clear H
       have H := H1
       clear H1
       by_cases c16 : (l0_4.length : Int) < 1
       ·rw [if_pos c16] at H
        have c16b0 := decide_eq_true c16
        have c16b1 : decide (l0_4.length < 1) = true := decide_eq_true (by omega)
        clear c16
        have H' := Aside0.mk H
        clear H
        have z17_0 := bk5 BK192.out
        go_wp2_with (first | ((with_reducible refine gate_callee (f := 22) rfl ?_); refine goesL_ (some 17) rfl rfl Tryd.func22 (by kernel_rfl) rfl #[.int .i64 a0_1, .int .i64 5] rfl qL ?_; (with_reducible refine (mach_below.calls a0_1 5 true _ A8.out).mono ?_); rintro e w' ⟨rfl, ⟨nd, rfl⟩⟩; refine ⟨_, rfl, ?_⟩) | (go_at_call 22; (with_reducible refine (mach_below.calls a0_3 65 true _ A14.out).mono ?_); (try clear A14); rintro e w' ⟨rfl, ⟨nd, rfl⟩⟩))
        go_meet
        case rel => exact ⟨_, (true), qT, H', ⟨qO⟩, ⟨qK BK192.out⟩, ⟨qB⟩⟩
       ·rw [if_neg c16] at H
        have c16b0 := decide_eq_false c16
        have c16b1 : decide (l0_4.length < 1) = false := decide_eq_false (by omega)
        clear c16
        have H' := Aside0.mk H
        clear H
        have z18_0 := bk5 BK192.out
        go_wp2_with (first | ((with_reducible refine gate_callee (f := 22) rfl ?_); refine goesL_ (some 17) rfl rfl Tryd.func22 (by kernel_rfl) rfl #[.int .i64 a0_1, .int .i64 5] rfl qL ?_; (with_reducible refine (mach_below.calls a0_1 5 true _ A8.out).mono ?_); rintro e w' ⟨rfl, ⟨nd, rfl⟩⟩; refine ⟨_, rfl, ?_⟩) | (go_at_call 22; (with_reducible refine (mach_below.calls a0_3 65 true _ A14.out).mono ?_); (try clear A14); rintro e w' ⟨rfl, ⟨nd, rfl⟩⟩))
        go_meet
        case rel => exact ⟨_, (decide ((l0_4.length : Int) > 33)), qT, H', ⟨qO⟩, ⟨qK BK192.out⟩, ⟨qB⟩⟩
      ·replace c15 := Bool.eq_false_iff.mpr c15
       subst c15
       have H1 : (mach_Check.j0 k true a0_0 a0_1 a0_2 a0_3 l0_4) = some r := by rw [if_neg (show ¬ (false = true) by decide)] at H; exact H
       clear H
       have H := H1
       clear H1
       have H' := Aside0.mk H
       clear H
       have z19_0 := bk5 BK192.out
       go_wp2_with (first | ((with_reducible refine gate_callee (f := 22) rfl ?_); refine goesL_ (some 17) rfl rfl Tryd.func22 (by kernel_rfl) rfl #[.int .i64 a0_1, .int .i64 5] rfl qL ?_; (with_reducible refine (mach_below.calls a0_1 5 true _ A8.out).mono ?_); rintro e w' ⟨rfl, ⟨nd, rfl⟩⟩; refine ⟨_, rfl, ?_⟩) | (go_at_call 22; (with_reducible refine (mach_below.calls a0_3 65 false _ A14.out).mono ?_); (try clear A14); rintro e w' ⟨rfl, ⟨nd, rfl⟩⟩))
       go_meet
       case rel => exact ⟨_, (true), qT, H', ⟨qO⟩, ⟨qK BK192.out⟩, ⟨qB⟩⟩
   ·replace c9 := Bool.eq_false_iff.mpr c9
    subst c9
    have H1 : (mach_Check.j0 k true a0_0 a0_1 a0_2 a0_3 l0_4) = some r := by rw [if_neg (show ¬ (false = true) by decide)] at H; exact H
    clear H
    have H := H1
    clear H1
    have H' := Aside0.mk H
    clear H
    have z20_0 := bk5 BK192.out
    go_wp2_with (first | ((with_reducible refine gate_callee (f := 22) rfl ?_); refine goesL_ (some 17) rfl rfl Tryd.func22 (by kernel_rfl) rfl #[.int .i64 a0_1, .int .i64 5] rfl qL ?_; (with_reducible refine (mach_below.calls a0_1 5 false _ A8.out).mono ?_); rintro e w' ⟨rfl, ⟨nd, rfl⟩⟩; refine ⟨_, rfl, ?_⟩))
    go_meet
    case rel => exact ⟨_, (true), qT, H', ⟨qO⟩, ⟨qK BK192.out⟩, ⟨qB⟩⟩
  case rest =>
   clear HC4
   try clear c1; try clear c2; try clear p2; try clear c3; try clear c9; try clear c10; try clear c10b0; try clear c12; try clear c12b0; try clear c15; try clear c16; try clear c16b0 c16b1; try clear z11_0; try clear z13_0; try clear z17_0; try clear z18_0; try clear z19_0; try clear z20_0; try clear z6_0
   obtain ⟨kq, x46_3, rfl, HA, HJ3, BK192, HB⟩ := hcut
   cases kq with
   | zero => exact absurd HA.out (by simp [mach_Check.j0])
   | succ kj3 =>
    have H := HA.out
    clear HA
    simp only [mach_Check.j0] at H
    by_cases c21 : x46_3 = true
    ·subst c21
     have H1 : (some 71) = some r := by rw [if_pos rfl] at H; exact H
     clear H
     have H := H1
     clear H1
     obtain rfl := Option.some.inj H
     go_wp2
     go_ret
     exact ⟨qE, qB⟩
    ·replace c21 := Bool.eq_false_iff.mpr c21
     subst c21
     have H1 : (mach_Check.l0 kj3 1600 l0_4 (l0_4.length : Int) 0 a0_0 a0_1 a0_2 a0_3 l0_4) = some r := by rw [if_neg (show ¬ (false = true) by decide)] at H; exact H
     clear H
     have H := H1
     clear H1
     have H' := Aside0.mk H
     clear H
     have z22_0 := bk5 BK192.out
     go_wp2
     go_loopg [3, 50] kj3 (fun kq v3 v50 w' => ∃ (x3_2 : Int) (x50_2 : Int), v3 = .int .i64 x3_2 ∧ v50 = .int .i64 x50_2 ∧ Aside0 (mach_Check.l0 kq x3_2 l0_4 (l0_4.length : Int) x50_2 a0_0 a0_1 a0_2 a0_3 l0_4 = some r) ∧ Aside0 (kq ≤ kj3) ∧ Aside0 (w'.heap[gb192]? = some (.cells #[.string a0_0, .int .i64 a0_1, .int .i64 a0_2, .int .i64 a0_3, (.slice A0_4 l0_4.length c0_4)] 24 (0, 0))) ∧ Aside0 (Below w.heap.size w w'))
     case atStart => exact ⟨(1600), (0), qT, qT, H', ⟨Nat.le_refl _⟩, ⟨qK BK192.out⟩, ⟨qB⟩⟩
     case round =>
      clear H'
      try clear c1; try clear c2; try clear p2; try clear c3; try clear c9; try clear c10; try clear c10b0; try clear c12; try clear c12b0; try clear c15; try clear c16; try clear c16b0 c16b1; try clear c21; try clear c22; try clear z11_0; try clear z13_0; try clear z17_0; try clear z18_0; try clear z19_0; try clear z20_0; try clear z22_0; try clear z6_0
      obtain ⟨x3_2, x50_2, rfl, rfl, HA, HK2, BK192, HB⟩ := hrel
      cases gk with
      | zero => exact absurd HA.out (by simp [mach_Check.l0])
      | succ k2 =>
       have H := HA.out
       clear HA
       simp only [mach_Check.l0] at H
       by_cases c23 : x50_2 < (l0_4.length : Int)
       ·rw [if_pos c23] at H
        have c23b0 := decide_eq_true c23
        clear c23
        by_cases c24 : 0 ≤ x50_2
        ·rw [if_pos c24] at H
         have c24b0 := decide_eq_true c24
         clear c24
         by_cases c25 : x50_2 < (l0_4.length : Int)
         ·rw [if_pos c25] at H
          have c25b0 := decide_eq_true c25
          clear c25
          by_cases c26 : ((rd_LIns l0_4 x50_2).length : Int) = 0
          ·rw [if_pos c26] at H
           obtain ⟨c26b0, c26b1⟩ := qe c26; clear c26
           obtain rfl := Option.some.inj H
           have p196 : 0 ≤ (x50_2 : Int) := of_decide_eq_true qA
           have q196 : x50_2 < (l0_4.length : Int) := of_decide_eq_true qA
           obtain ⟨ad196, A196_0, c196_0, e196, hx196_0, hl196_0, hi196_0⟩ := at_LIns HR0_4.out x50_2 p196 q196
           cases e196
           replace hx196_0 := (HB.out.cell (World.block_lt_of_cell? w _ hx196_0)).trans hx196_0
           have HR196_0 := Aside0.mk hi196_0
           have HC196_0 := Aside0.mk hl196_0
           clear hi196_0 hl196_0
           replace p196 := eq_true p196
           replace q196 := eq_true q196
           go_wp2
           go_ret
           exact ⟨qE, qB⟩
          ·rw [if_neg c26] at H
           obtain ⟨c26b0, c26b1⟩ := qn c26
           have c26b2 : ¬ ((rd_LIns l0_4 x50_2) = []) := fun h_ => c26 (by rw [h_]; rfl)
           by_cases c27 : ((rd_LIns l0_4 x50_2).length : Int) > x3_2
           ·rw [if_pos c27] at H
            have c27b0 : decide (x3_2 < ((rd_LIns l0_4 x50_2).length : Int)) = true := decide_eq_true c27
            clear c27
            obtain rfl := Option.some.inj H
            have p196 : 0 ≤ (x50_2 : Int) := of_decide_eq_true qA
            have q196 : x50_2 < (l0_4.length : Int) := of_decide_eq_true qA
            obtain ⟨ad196, A196_0, c196_0, e196, hx196_0, hl196_0, hi196_0⟩ := at_LIns HR0_4.out x50_2 p196 q196
            cases e196
            replace hx196_0 := (HB.out.cell (World.block_lt_of_cell? w _ hx196_0)).trans hx196_0
            have HR196_0 := Aside0.mk hi196_0
            have HC196_0 := Aside0.mk hl196_0
            clear hi196_0 hl196_0
            replace p196 := eq_true p196
            replace q196 := eq_true q196
            go_wp2
            go_ret
            exact ⟨qE, qB⟩
           ·rw [if_neg c27] at H
            have c27b0 : decide (x3_2 < ((rd_LIns l0_4 x50_2).length : Int)) = false := decide_eq_false c27
            clear c27
            have H' := Aside0.mk H
            clear H
            have p196 : 0 ≤ (x50_2 : Int) := of_decide_eq_true qA
            have q196 : x50_2 < (l0_4.length : Int) := of_decide_eq_true qA
            obtain ⟨ad196, A196_0, c196_0, e196, hx196_0, hl196_0, hi196_0⟩ := at_LIns HR0_4.out x50_2 p196 q196
            cases e196
            replace hx196_0 := (HB.out.cell (World.block_lt_of_cell? w _ hx196_0)).trans hx196_0
            have HR196_0 := Aside0.mk hi196_0
            have HC196_0 := Aside0.mk hl196_0
            clear hi196_0 hl196_0
            replace p196 := eq_true p196
            replace q196 := eq_true q196
            go_wp2
            go_roundg k2
            case measure => have := HJ3.out; have := HK2.out; omega
            case rel => exact ⟨(wrap64 (x3_2 - ((rd_LIns l0_4 x50_2).length : Int))), (wrap64 (x50_2 + 1)), qT, qT, H', ⟨by have := HJ3.out; have := HK2.out; omega⟩, ⟨qK BK192.out⟩, ⟨qB⟩⟩
         ·rw [if_neg c25] at H
          exact absurd H (by simp)
        ·rw [if_neg c24] at H
         exact absurd H (by simp)
       ·rw [if_neg c23] at H
        have c23b0 := decide_eq_false c23
        clear c23
        have H' := Aside0.mk H
        clear H
        have z28_0 := bk5 BK192.out
        go_wp2
        go_loopg [71] k2 (fun kq v71 w' => ∃ (x71_3 : Int), v71 = .int .i64 x71_3 ∧ Aside0 (mach_Check.l1 kq l0_4 (l0_4.length : Int) x71_3 a0_0 a0_1 a0_2 a0_3 l0_4 = some r) ∧ Aside0 (kq ≤ k2) ∧ Aside0 (w'.heap[gb192]? = some (.cells #[.string a0_0, .int .i64 a0_1, .int .i64 a0_2, .int .i64 a0_3, (.slice A0_4 l0_4.length c0_4)] 24 (0, 0))) ∧ Aside0 (Below w.heap.size w w'))
        case atStart => exact ⟨(0), qT, H', ⟨Nat.le_refl _⟩, ⟨qK BK192.out⟩, ⟨qB⟩⟩
        case round =>
         clear H'
         try clear c1; try clear p1; try clear q1; try clear hx1; try clear c2; try clear p2; try clear c3; try clear p6; try clear c9; try clear c10; try clear c10b0; try clear c12; try clear c12b0; try clear c15; try clear c16; try clear c16b0 c16b1; try clear c19; try clear p19; try clear q19; try clear hx19; try clear c21; try clear c22; try clear c23b0; try clear c24; try clear c24b0; try clear c25; try clear c25b0; try clear c26; try clear c26b0 c26b1 c26b2; try clear c27; try clear c27b0; try clear z11_0; try clear z13_0; try clear z17_0; try clear z18_0; try clear z19_0; try clear z20_0; try clear z22_0; try clear z28_0; try clear z6_0; try clear hx196_0; try clear p196; try clear q196
         obtain ⟨x71_3, rfl, HA, HK3, BK192, HB⟩ := hrel
         cases gk with
         | zero => exact absurd HA.out (by simp [mach_Check.l1])
         | succ k3 =>
          have H := HA.out
          clear HA
          simp only [mach_Check.l1] at H
          by_cases c29 : x71_3 < (l0_4.length : Int)
          ·rw [if_pos c29] at H
           have c29b0 := decide_eq_true c29
           clear c29
           by_cases c30 : 0 ≤ x71_3
           ·rw [if_pos c30] at H
            have c30b0 := decide_eq_true c30
            clear c30
            by_cases c31 : x71_3 < (l0_4.length : Int)
            ·rw [if_pos c31] at H
             have c31b0 := decide_eq_true c31
             clear c31
             have H' := Aside0.mk H
             clear H
             have p197 : 0 ≤ (x71_3 : Int) := of_decide_eq_true qA
             have q197 : x71_3 < (l0_4.length : Int) := of_decide_eq_true qA
             obtain ⟨ad197, A197_0, c197_0, e197, hx197_0, hl197_0, hi197_0⟩ := at_LIns HR0_4.out x71_3 p197 q197
             cases e197
             replace hx197_0 := (HB.out.cell (World.block_lt_of_cell? w _ hx197_0)).trans hx197_0
             have HR197_0 := Aside0.mk hi197_0
             have HC197_0 := Aside0.mk hl197_0
             clear hi197_0 hl197_0
             replace p197 := eq_true p197
             replace q197 := eq_true q197
             go_wp2
             go_loopg [77] k3 (fun kq v77 w' => ∃ (x77_4 : Int), v77 = .int .i64 x77_4 ∧ Aside0 (mach_Check.l2 kq (rd_LIns l0_4 x71_3) l0_4 (l0_4.length : Int) x71_3 (rd_LIns l0_4 x71_3) ((rd_LIns l0_4 x71_3).length : Int) x77_4 a0_0 a0_1 a0_2 a0_3 l0_4 = some r) ∧ Aside0 (kq ≤ k3) ∧ Aside0 (w'.heap[gb192]? = some (.cells #[.string a0_0, .int .i64 a0_1, .int .i64 a0_2, .int .i64 a0_3, (.slice (some ad197) l0_4.length c0_4)] 24 (0, 0))) ∧ Aside0 (Below w.heap.size w w'))
             case atStart => exact ⟨(0), qT, H', ⟨Nat.le_refl _⟩, ⟨qK BK192.out⟩, ⟨qB⟩⟩
             case round =>
              clear H'
              try clear c1; try clear p1; try clear q1; try clear hx1; try clear c2; try clear p2; try clear c3; try clear p6; try clear c9; try clear c10; try clear c10b0; try clear c12; try clear c12b0; try clear c15; try clear c16; try clear c16b0 c16b1; try clear c19; try clear p19; try clear q19; try clear hx19; try clear c21; try clear c22; try clear c23b0; try clear c24; try clear c24b0; try clear c25; try clear c25b0; try clear c26; try clear c26b0 c26b1 c26b2; try clear c27; try clear c27b0; try clear c29b0; try clear c30b0; try clear c31b0; try clear z11_0; try clear z13_0; try clear z17_0; try clear z18_0; try clear z19_0; try clear z20_0; try clear z22_0; try clear z28_0; try clear z6_0; try clear hx196_0; try clear hx197_0; try clear p196; try clear p197; try clear q196; try clear q197
              obtain ⟨x77_4, rfl, HA, HK4, BK192, HB⟩ := hrel
              cases gk with
              | zero => exact absurd HA.out (by simp [mach_Check.l2])
              | succ k4 =>
               have H := HA.out
               clear HA
               simp only [mach_Check.l2] at H
               by_cases c32 : x77_4 < ((rd_LIns l0_4 x71_3).length : Int)
               ·rw [if_pos c32] at H
                have c32b0 := decide_eq_true c32
                clear c32
                by_cases c33 : 0 ≤ x77_4
                ·rw [if_pos c33] at H
                 have c33b0 := decide_eq_true c33
                 clear c33
                 by_cases c34 : x77_4 < ((rd_LIns l0_4 x71_3).length : Int)
                 ·rw [if_pos c34] at H
                  have c34b0 := decide_eq_true c34
                  clear c34
                  replace H := qb H; obtain ⟨t200, A35, H⟩ := H
                  by_cases c36 : t200 = 0
                  ·rw [if_pos c36] at H
                   obtain ⟨c36b0, c36b1⟩ := qe c36; clear c36
                   have H' := Aside0.mk H
                   clear H
                   have p198 : 0 ≤ (x77_4 : Int) := of_decide_eq_true qA
                   have q198 : x77_4 < ((rd_LIns l0_4 x71_3).length : Int) := of_decide_eq_true qA
                   obtain ⟨ad198, A198_5, c198_5, e198, hx198_0, hx198_1, hx198_2, hx198_3, hx198_4, hx198_5, hl198_5, hi198_5⟩ := at_TIns HR197_0.out x77_4 p198 q198
                   cases e198
                   replace hx198_0 := (HB.out.cell (World.block_lt_of_cell? w _ hx198_0)).trans hx198_0
                   replace hx198_1 := (HB.out.cell (World.block_lt_of_cell? w _ hx198_1)).trans hx198_1
                   replace hx198_2 := (HB.out.cell (World.block_lt_of_cell? w _ hx198_2)).trans hx198_2
                   replace hx198_3 := (HB.out.cell (World.block_lt_of_cell? w _ hx198_3)).trans hx198_3
                   replace hx198_4 := (HB.out.cell (World.block_lt_of_cell? w _ hx198_4)).trans hx198_4
                   replace hx198_5 := (HB.out.cell (World.block_lt_of_cell? w _ hx198_5)).trans hx198_5
                   have HR198_5 := Aside0.mk hi198_5
                   have HC198_5 := Aside0.mk hl198_5
                   clear hi198_5 hl198_5
                   replace p198 := eq_true p198
                   replace q198 := eq_true q198
                   go_wp2_with (first | ((with_reducible refine gate_dst (N := 9) rfl ?_); (try (refine gate_guard (by rfl) ?_; dsimp only)); refine box_event (by rfl) (N := 9) (by rfl) (cs := #[.int .i64 0, .int .i64 0, .int .i64 0, .int .i64 0, .string (⟨#[]⟩ : ByteArray), .slice none 0 0]) (t := 31) ?hr ?_; (case hr => first | (go_simp; done) | (go_simp; rfl)); intro gb199 hg w37 hbox hb; have BK199 := Aside0.mk (hbox); have GW199 := qG hg; have GE199 := GW199; replace HB := qH hb; have NB192_199 := Aside0.mk ((by rw [hg]; exact Nat.ne_of_lt (blk_lt (g := gb192) (o := .cells #[.string a0_0, .int .i64 a0_1, .int .i64 a0_2, .int .i64 a0_3, .slice (some ad197) l0_4.length c0_4] 24 (0, 0)) (qK BK192.out)) : gb192 ≠ gb199)); have NB199_192 := Aside0.mk ((by rw [hg]; exact Nat.ne_of_gt (blk_lt (g := gb192) (o := .cells #[.string a0_0, .int .i64 a0_1, .int .i64 a0_2, .int .i64 a0_3, .slice (some ad197) l0_4.length c0_4] 24 (0, 0)) (qK BK192.out)) : gb199 ≠ gb192)); replace BK192 := qW BK192 hb; clear hb hbox hg; have hnb38 := NB199_192.out; have hnc38 := NB192_199.out; have z39_0 := bk6 BK199.out) | ((with_reducible refine gate_store (t := 31) (p := 9) rfl ?_); refine store_event (t := 31) (p := 9) (v := ?vo_w40) (w1 := ((((((w37.setCell ⟨gb199, 0, none⟩ (.int .i64 ((rd_TIns (rd_LIns l0_4 x71_3) x77_4).f0))).setCell ⟨gb199, 1, none⟩ (.int .i64 ((rd_TIns (rd_LIns l0_4 x71_3) x77_4).f1))).setCell ⟨gb199, 2, none⟩ (.int .i64 ((rd_TIns (rd_LIns l0_4 x71_3) x77_4).f2))).setCell ⟨gb199, 3, none⟩ (.int .i64 ((rd_TIns (rd_LIns l0_4 x71_3) x77_4).f3))).setCell ⟨gb199, 4, none⟩ (.string ((rd_TIns (rd_LIns l0_4 x71_3) x77_4).f4))).setCell ⟨gb199, 5, none⟩ (.slice A198_5 ((rd_TIns (rd_LIns l0_4 x71_3) x77_4).f5).length c198_5))) (by rfl) (by rfl) (by rfl) ?hr ?_; (case hr => first | (go_simp; done) | (go_simp; rfl)); intro w40 hw; have n0_ : Aside0 (w40.heap[gb192]? = some (.cells #[.string a0_0, .int .i64 a0_1, .int .i64 a0_2, .int .i64 a0_3, .slice (some ad197) l0_4.length c0_4] 24 (0, 0))) := ⟨(by rw [hw]; exact (by (with_reducible repeat (first | refine blk_drewN ?_ _ | refine blk_drew ?_ | refine blk_alloc ?_ _)); refine blk_far ?_ NB192_199.out _; (with_reducible repeat (first | refine blk_drewN ?_ _ | refine blk_drew ?_ | refine blk_alloc ?_ _)); refine blk_far ?_ NB192_199.out _; (with_reducible repeat (first | refine blk_drewN ?_ _ | refine blk_drew ?_ | refine blk_alloc ?_ _)); refine blk_far ?_ NB192_199.out _; (with_reducible repeat (first | refine blk_drewN ?_ _ | refine blk_drew ?_ | refine blk_alloc ?_ _)); refine blk_far ?_ NB192_199.out _; (with_reducible repeat (first | refine blk_drewN ?_ _ | refine blk_drew ?_ | refine blk_alloc ?_ _)); refine blk_far ?_ NB192_199.out _; (with_reducible repeat (first | refine blk_drewN ?_ _ | refine blk_drew ?_ | refine blk_alloc ?_ _)); refine blk_far ?_ NB192_199.out _; (with_reducible repeat (first | refine blk_drewN ?_ _ | refine blk_drew ?_ | refine blk_alloc ?_ _)); exact BK192.out))⟩; have n1_ : Aside0 (w40.heap[gb199]? = some (.cells #[.int .i64 ((rd_TIns (rd_LIns l0_4 x71_3) x77_4).f0), .int .i64 ((rd_TIns (rd_LIns l0_4 x71_3) x77_4).f1), .int .i64 ((rd_TIns (rd_LIns l0_4 x71_3) x77_4).f2), .int .i64 ((rd_TIns (rd_LIns l0_4 x71_3) x77_4).f3), .string ((rd_TIns (rd_LIns l0_4 x71_3) x77_4).f4), .slice A198_5 ((rd_TIns (rd_LIns l0_4 x71_3) x77_4).f5).length c198_5] 31 (0, 0))) := ⟨(by rw [hw]; exact (by (with_reducible repeat (first | refine blk_drewN ?_ _ | refine blk_drew ?_ | refine blk_alloc ?_ _)); refine blk_put (cs := #[.int .i64 ((rd_TIns (rd_LIns l0_4 x71_3) x77_4).f0), .int .i64 ((rd_TIns (rd_LIns l0_4 x71_3) x77_4).f1), .int .i64 ((rd_TIns (rd_LIns l0_4 x71_3) x77_4).f2), .int .i64 ((rd_TIns (rd_LIns l0_4 x71_3) x77_4).f3), .string ((rd_TIns (rd_LIns l0_4 x71_3) x77_4).f4), .slice none 0 0]) ?_ 5 _ rfl; (with_reducible repeat (first | refine blk_drewN ?_ _ | refine blk_drew ?_ | refine blk_alloc ?_ _)); refine blk_put (cs := #[.int .i64 ((rd_TIns (rd_LIns l0_4 x71_3) x77_4).f0), .int .i64 ((rd_TIns (rd_LIns l0_4 x71_3) x77_4).f1), .int .i64 ((rd_TIns (rd_LIns l0_4 x71_3) x77_4).f2), .int .i64 ((rd_TIns (rd_LIns l0_4 x71_3) x77_4).f3), .string (⟨#[]⟩ : ByteArray), .slice none 0 0]) ?_ 4 _ rfl; (with_reducible repeat (first | refine blk_drewN ?_ _ | refine blk_drew ?_ | refine blk_alloc ?_ _)); refine blk_put (cs := #[.int .i64 ((rd_TIns (rd_LIns l0_4 x71_3) x77_4).f0), .int .i64 ((rd_TIns (rd_LIns l0_4 x71_3) x77_4).f1), .int .i64 ((rd_TIns (rd_LIns l0_4 x71_3) x77_4).f2), .int .i64 0, .string (⟨#[]⟩ : ByteArray), .slice none 0 0]) ?_ 3 _ rfl; (with_reducible repeat (first | refine blk_drewN ?_ _ | refine blk_drew ?_ | refine blk_alloc ?_ _)); refine blk_put (cs := #[.int .i64 ((rd_TIns (rd_LIns l0_4 x71_3) x77_4).f0), .int .i64 ((rd_TIns (rd_LIns l0_4 x71_3) x77_4).f1), .int .i64 0, .int .i64 0, .string (⟨#[]⟩ : ByteArray), .slice none 0 0]) ?_ 2 _ rfl; (with_reducible repeat (first | refine blk_drewN ?_ _ | refine blk_drew ?_ | refine blk_alloc ?_ _)); refine blk_put (cs := #[.int .i64 ((rd_TIns (rd_LIns l0_4 x71_3) x77_4).f0), .int .i64 0, .int .i64 0, .int .i64 0, .string (⟨#[]⟩ : ByteArray), .slice none 0 0]) ?_ 1 _ rfl; (with_reducible repeat (first | refine blk_drewN ?_ _ | refine blk_drew ?_ | refine blk_alloc ?_ _)); refine blk_put (cs := #[.int .i64 0, .int .i64 0, .int .i64 0, .int .i64 0, .string (⟨#[]⟩ : ByteArray), .slice none 0 0]) ?_ 0 _ rfl; (with_reducible repeat (first | refine blk_drewN ?_ _ | refine blk_drew ?_ | refine blk_alloc ?_ _)); exact BK199.out))⟩; have n2_ : Aside0 (Below w.heap.size w w40) := ⟨(by rw [hw]; exact qB)⟩; clear hw; clear BK192; clear BK199; clear HB; have BK192 := n0_; have BK199 := n1_; have HB := n2_; clear n0_ n1_ n2_; have z41_0 := bk5 BK192.out; have hcz42_0 : w40.cell? ⟨gb199, 0, none⟩ = some (.int .i64 ((rd_TIns (rd_LIns l0_4 x71_3) x77_4).f0)) := (blk_cell BK199.out 0).trans rfl; have hcz42_1 : w40.cell? ⟨gb199, 1, none⟩ = some (.int .i64 ((rd_TIns (rd_LIns l0_4 x71_3) x77_4).f1)) := (blk_cell BK199.out 1).trans rfl; have hcz42_2 : w40.cell? ⟨gb199, 2, none⟩ = some (.int .i64 ((rd_TIns (rd_LIns l0_4 x71_3) x77_4).f2)) := (blk_cell BK199.out 2).trans rfl; have hcz42_3 : w40.cell? ⟨gb199, 3, none⟩ = some (.int .i64 ((rd_TIns (rd_LIns l0_4 x71_3) x77_4).f3)) := (blk_cell BK199.out 3).trans rfl; have hcz42_4 : w40.cell? ⟨gb199, 4, none⟩ = some (.string ((rd_TIns (rd_LIns l0_4 x71_3) x77_4).f4)) := (blk_cell BK199.out 4).trans rfl; have hcz42_5 : w40.cell? ⟨gb199, 5, none⟩ = some (.slice A198_5 ((rd_TIns (rd_LIns l0_4 x71_3) x77_4).f5).length c198_5) := (blk_cell BK199.out 5).trans rfl; have hfz42_0 := blk_frozen BK199.out 0; have hfz42_1 := blk_frozen BK199.out 1; have hfz42_2 := blk_frozen BK199.out 2; have hfz42_3 := blk_frozen BK199.out 3; have hfz42_4 := blk_frozen BK199.out 4; have hfz42_5 := blk_frozen BK199.out 5) | ((with_reducible refine gate_callee (f := 23) rfl ?_); refine goesL_ (some 89) rfl rfl Tryd.func23 (by kernel_rfl) rfl #[.agg #[.string a0_0, .int .i64 a0_1, .int .i64 a0_2, .int .i64 a0_3, .slice (some ad197) l0_4.length c0_4], .agg #[.int .i64 ((rd_TIns (rd_LIns l0_4 x71_3) x77_4).f0), .int .i64 ((rd_TIns (rd_LIns l0_4 x71_3) x77_4).f1), .int .i64 ((rd_TIns (rd_LIns l0_4 x71_3) x77_4).f2), .int .i64 ((rd_TIns (rd_LIns l0_4 x71_3) x77_4).f3), .string ((rd_TIns (rd_LIns l0_4 x71_3) x77_4).f4), .slice A198_5 ((rd_TIns (rd_LIns l0_4 x71_3) x77_4).f5).length c198_5], .bool (x77_4 == (wrap64 (((rd_LIns l0_4 x71_3).length : Int) - 1)))] rfl qL ?_; (with_reducible refine (mach_one.calls k4 a0_0 a0_1 a0_2 a0_3 _ _ l0_4 ((rd_TIns (rd_LIns l0_4 x71_3) x77_4).f0) ((rd_TIns (rd_LIns l0_4 x71_3) x77_4).f1) ((rd_TIns (rd_LIns l0_4 x71_3) x77_4).f2) ((rd_TIns (rd_LIns l0_4 x71_3) x77_4).f3) ((rd_TIns (rd_LIns l0_4 x71_3) x77_4).f4) (fun k_ => k_ < w.heap.size) _ _ ((rd_TIns (rd_LIns l0_4 x71_3) x77_4).f5) (x77_4 == (wrap64 (((rd_LIns l0_4 x71_3).length : Int) - 1))) t200 _ ?side1 ?side2 ?side3 A35.out (hL := ?side99)).mono ?_); (case side1 => exact qCB HR0_4.out); (case side2 => exact HC0_4.out); (case side3 => exact Kd.V_mk HC198_5.out (Kd.F_below (Kd.C_F (Kd.heap_int .i64) HR198_5.out) qB)); (case side99 => exact LaidW.below HLd.out qB); rintro e w43 ⟨rfl, hb⟩; refine ⟨_, rfl, ?_⟩; replace BK192 := qW BK192 hb; replace BK199 := qW BK199 hb; replace HB := qH hb; (try clear hb)))
                   go_roundg k4
                   case measure => have := HJ3.out; have := HK2.out; have := HK3.out; have := HK4.out; omega
                   case rel => exact ⟨(wrap64 (x77_4 + 1)), qT, H', ⟨by have := HJ3.out; have := HK2.out; have := HK3.out; have := HK4.out; omega⟩, ⟨qK BK192.out⟩, ⟨qB⟩⟩
                  ·rw [if_neg c36] at H
                   obtain ⟨c36b0, c36b1⟩ := qn c36
                   obtain rfl := Option.some.inj H
                   have p198 : 0 ≤ (x77_4 : Int) := of_decide_eq_true qA
                   have q198 : x77_4 < ((rd_LIns l0_4 x71_3).length : Int) := of_decide_eq_true qA
                   obtain ⟨ad198, A198_5, c198_5, e198, hx198_0, hx198_1, hx198_2, hx198_3, hx198_4, hx198_5, hl198_5, hi198_5⟩ := at_TIns HR197_0.out x77_4 p198 q198
                   cases e198
                   replace hx198_0 := (HB.out.cell (World.block_lt_of_cell? w _ hx198_0)).trans hx198_0
                   replace hx198_1 := (HB.out.cell (World.block_lt_of_cell? w _ hx198_1)).trans hx198_1
                   replace hx198_2 := (HB.out.cell (World.block_lt_of_cell? w _ hx198_2)).trans hx198_2
                   replace hx198_3 := (HB.out.cell (World.block_lt_of_cell? w _ hx198_3)).trans hx198_3
                   replace hx198_4 := (HB.out.cell (World.block_lt_of_cell? w _ hx198_4)).trans hx198_4
                   replace hx198_5 := (HB.out.cell (World.block_lt_of_cell? w _ hx198_5)).trans hx198_5
                   have HR198_5 := Aside0.mk hi198_5
                   have HC198_5 := Aside0.mk hl198_5
                   clear hi198_5 hl198_5
                   replace p198 := eq_true p198
                   replace q198 := eq_true q198
                   go_wp2_with (first | ((with_reducible refine gate_dst (N := 9) rfl ?_); (try (refine gate_guard (by rfl) ?_; dsimp only)); refine box_event (by rfl) (N := 9) (by rfl) (cs := #[.int .i64 0, .int .i64 0, .int .i64 0, .int .i64 0, .string (⟨#[]⟩ : ByteArray), .slice none 0 0]) (t := 31) ?hr ?_; (case hr => first | (go_simp; done) | (go_simp; rfl)); intro gb199 hg w44 hbox hb; have BK199 := Aside0.mk (hbox); have GW199 := qG hg; have GE199 := GW199; replace HB := qH hb; have NB192_199 := Aside0.mk ((by rw [hg]; exact Nat.ne_of_lt (blk_lt (g := gb192) (o := .cells #[.string a0_0, .int .i64 a0_1, .int .i64 a0_2, .int .i64 a0_3, .slice (some ad197) l0_4.length c0_4] 24 (0, 0)) (qK BK192.out)) : gb192 ≠ gb199)); have NB199_192 := Aside0.mk ((by rw [hg]; exact Nat.ne_of_gt (blk_lt (g := gb192) (o := .cells #[.string a0_0, .int .i64 a0_1, .int .i64 a0_2, .int .i64 a0_3, .slice (some ad197) l0_4.length c0_4] 24 (0, 0)) (qK BK192.out)) : gb199 ≠ gb192)); replace BK192 := qW BK192 hb; clear hb hbox hg; have hnb45 := NB199_192.out; have hnc45 := NB192_199.out; have z46_0 := bk6 BK199.out) | ((with_reducible refine gate_store (t := 31) (p := 9) rfl ?_); refine store_event (t := 31) (p := 9) (v := ?vo_w47) (w1 := ((((((w44.setCell ⟨gb199, 0, none⟩ (.int .i64 ((rd_TIns (rd_LIns l0_4 x71_3) x77_4).f0))).setCell ⟨gb199, 1, none⟩ (.int .i64 ((rd_TIns (rd_LIns l0_4 x71_3) x77_4).f1))).setCell ⟨gb199, 2, none⟩ (.int .i64 ((rd_TIns (rd_LIns l0_4 x71_3) x77_4).f2))).setCell ⟨gb199, 3, none⟩ (.int .i64 ((rd_TIns (rd_LIns l0_4 x71_3) x77_4).f3))).setCell ⟨gb199, 4, none⟩ (.string ((rd_TIns (rd_LIns l0_4 x71_3) x77_4).f4))).setCell ⟨gb199, 5, none⟩ (.slice A198_5 ((rd_TIns (rd_LIns l0_4 x71_3) x77_4).f5).length c198_5))) (by rfl) (by rfl) (by rfl) ?hr ?_; (case hr => first | (go_simp; done) | (go_simp; rfl)); intro w47 hw; have n0_ : Aside0 (w47.heap[gb192]? = some (.cells #[.string a0_0, .int .i64 a0_1, .int .i64 a0_2, .int .i64 a0_3, .slice (some ad197) l0_4.length c0_4] 24 (0, 0))) := ⟨(by rw [hw]; exact (by (with_reducible repeat (first | refine blk_drewN ?_ _ | refine blk_drew ?_ | refine blk_alloc ?_ _)); refine blk_far ?_ NB192_199.out _; (with_reducible repeat (first | refine blk_drewN ?_ _ | refine blk_drew ?_ | refine blk_alloc ?_ _)); refine blk_far ?_ NB192_199.out _; (with_reducible repeat (first | refine blk_drewN ?_ _ | refine blk_drew ?_ | refine blk_alloc ?_ _)); refine blk_far ?_ NB192_199.out _; (with_reducible repeat (first | refine blk_drewN ?_ _ | refine blk_drew ?_ | refine blk_alloc ?_ _)); refine blk_far ?_ NB192_199.out _; (with_reducible repeat (first | refine blk_drewN ?_ _ | refine blk_drew ?_ | refine blk_alloc ?_ _)); refine blk_far ?_ NB192_199.out _; (with_reducible repeat (first | refine blk_drewN ?_ _ | refine blk_drew ?_ | refine blk_alloc ?_ _)); refine blk_far ?_ NB192_199.out _; (with_reducible repeat (first | refine blk_drewN ?_ _ | refine blk_drew ?_ | refine blk_alloc ?_ _)); exact BK192.out))⟩; have n1_ : Aside0 (w47.heap[gb199]? = some (.cells #[.int .i64 ((rd_TIns (rd_LIns l0_4 x71_3) x77_4).f0), .int .i64 ((rd_TIns (rd_LIns l0_4 x71_3) x77_4).f1), .int .i64 ((rd_TIns (rd_LIns l0_4 x71_3) x77_4).f2), .int .i64 ((rd_TIns (rd_LIns l0_4 x71_3) x77_4).f3), .string ((rd_TIns (rd_LIns l0_4 x71_3) x77_4).f4), .slice A198_5 ((rd_TIns (rd_LIns l0_4 x71_3) x77_4).f5).length c198_5] 31 (0, 0))) := ⟨(by rw [hw]; exact (by (with_reducible repeat (first | refine blk_drewN ?_ _ | refine blk_drew ?_ | refine blk_alloc ?_ _)); refine blk_put (cs := #[.int .i64 ((rd_TIns (rd_LIns l0_4 x71_3) x77_4).f0), .int .i64 ((rd_TIns (rd_LIns l0_4 x71_3) x77_4).f1), .int .i64 ((rd_TIns (rd_LIns l0_4 x71_3) x77_4).f2), .int .i64 ((rd_TIns (rd_LIns l0_4 x71_3) x77_4).f3), .string ((rd_TIns (rd_LIns l0_4 x71_3) x77_4).f4), .slice none 0 0]) ?_ 5 _ rfl; (with_reducible repeat (first | refine blk_drewN ?_ _ | refine blk_drew ?_ | refine blk_alloc ?_ _)); refine blk_put (cs := #[.int .i64 ((rd_TIns (rd_LIns l0_4 x71_3) x77_4).f0), .int .i64 ((rd_TIns (rd_LIns l0_4 x71_3) x77_4).f1), .int .i64 ((rd_TIns (rd_LIns l0_4 x71_3) x77_4).f2), .int .i64 ((rd_TIns (rd_LIns l0_4 x71_3) x77_4).f3), .string (⟨#[]⟩ : ByteArray), .slice none 0 0]) ?_ 4 _ rfl; (with_reducible repeat (first | refine blk_drewN ?_ _ | refine blk_drew ?_ | refine blk_alloc ?_ _)); refine blk_put (cs := #[.int .i64 ((rd_TIns (rd_LIns l0_4 x71_3) x77_4).f0), .int .i64 ((rd_TIns (rd_LIns l0_4 x71_3) x77_4).f1), .int .i64 ((rd_TIns (rd_LIns l0_4 x71_3) x77_4).f2), .int .i64 0, .string (⟨#[]⟩ : ByteArray), .slice none 0 0]) ?_ 3 _ rfl; (with_reducible repeat (first | refine blk_drewN ?_ _ | refine blk_drew ?_ | refine blk_alloc ?_ _)); refine blk_put (cs := #[.int .i64 ((rd_TIns (rd_LIns l0_4 x71_3) x77_4).f0), .int .i64 ((rd_TIns (rd_LIns l0_4 x71_3) x77_4).f1), .int .i64 0, .int .i64 0, .string (⟨#[]⟩ : ByteArray), .slice none 0 0]) ?_ 2 _ rfl; (with_reducible repeat (first | refine blk_drewN ?_ _ | refine blk_drew ?_ | refine blk_alloc ?_ _)); refine blk_put (cs := #[.int .i64 ((rd_TIns (rd_LIns l0_4 x71_3) x77_4).f0), .int .i64 0, .int .i64 0, .int .i64 0, .string (⟨#[]⟩ : ByteArray), .slice none 0 0]) ?_ 1 _ rfl; (with_reducible repeat (first | refine blk_drewN ?_ _ | refine blk_drew ?_ | refine blk_alloc ?_ _)); refine blk_put (cs := #[.int .i64 0, .int .i64 0, .int .i64 0, .int .i64 0, .string (⟨#[]⟩ : ByteArray), .slice none 0 0]) ?_ 0 _ rfl; (with_reducible repeat (first | refine blk_drewN ?_ _ | refine blk_drew ?_ | refine blk_alloc ?_ _)); exact BK199.out))⟩; have n2_ : Aside0 (Below w.heap.size w w47) := ⟨(by rw [hw]; exact qB)⟩; clear hw; clear BK192; clear BK199; clear HB; have BK192 := n0_; have BK199 := n1_; have HB := n2_; clear n0_ n1_ n2_; have z48_0 := bk5 BK192.out; have hcz49_0 : w47.cell? ⟨gb199, 0, none⟩ = some (.int .i64 ((rd_TIns (rd_LIns l0_4 x71_3) x77_4).f0)) := (blk_cell BK199.out 0).trans rfl; have hcz49_1 : w47.cell? ⟨gb199, 1, none⟩ = some (.int .i64 ((rd_TIns (rd_LIns l0_4 x71_3) x77_4).f1)) := (blk_cell BK199.out 1).trans rfl; have hcz49_2 : w47.cell? ⟨gb199, 2, none⟩ = some (.int .i64 ((rd_TIns (rd_LIns l0_4 x71_3) x77_4).f2)) := (blk_cell BK199.out 2).trans rfl; have hcz49_3 : w47.cell? ⟨gb199, 3, none⟩ = some (.int .i64 ((rd_TIns (rd_LIns l0_4 x71_3) x77_4).f3)) := (blk_cell BK199.out 3).trans rfl; have hcz49_4 : w47.cell? ⟨gb199, 4, none⟩ = some (.string ((rd_TIns (rd_LIns l0_4 x71_3) x77_4).f4)) := (blk_cell BK199.out 4).trans rfl; have hcz49_5 : w47.cell? ⟨gb199, 5, none⟩ = some (.slice A198_5 ((rd_TIns (rd_LIns l0_4 x71_3) x77_4).f5).length c198_5) := (blk_cell BK199.out 5).trans rfl; have hfz49_0 := blk_frozen BK199.out 0; have hfz49_1 := blk_frozen BK199.out 1; have hfz49_2 := blk_frozen BK199.out 2; have hfz49_3 := blk_frozen BK199.out 3; have hfz49_4 := blk_frozen BK199.out 4; have hfz49_5 := blk_frozen BK199.out 5) | ((with_reducible refine gate_callee (f := 23) rfl ?_); refine goesL_ (some 89) rfl rfl Tryd.func23 (by kernel_rfl) rfl #[.agg #[.string a0_0, .int .i64 a0_1, .int .i64 a0_2, .int .i64 a0_3, .slice (some ad197) l0_4.length c0_4], .agg #[.int .i64 ((rd_TIns (rd_LIns l0_4 x71_3) x77_4).f0), .int .i64 ((rd_TIns (rd_LIns l0_4 x71_3) x77_4).f1), .int .i64 ((rd_TIns (rd_LIns l0_4 x71_3) x77_4).f2), .int .i64 ((rd_TIns (rd_LIns l0_4 x71_3) x77_4).f3), .string ((rd_TIns (rd_LIns l0_4 x71_3) x77_4).f4), .slice A198_5 ((rd_TIns (rd_LIns l0_4 x71_3) x77_4).f5).length c198_5], .bool (x77_4 == (wrap64 (((rd_LIns l0_4 x71_3).length : Int) - 1)))] rfl qL ?_; (with_reducible refine (mach_one.calls k4 a0_0 a0_1 a0_2 a0_3 _ _ l0_4 ((rd_TIns (rd_LIns l0_4 x71_3) x77_4).f0) ((rd_TIns (rd_LIns l0_4 x71_3) x77_4).f1) ((rd_TIns (rd_LIns l0_4 x71_3) x77_4).f2) ((rd_TIns (rd_LIns l0_4 x71_3) x77_4).f3) ((rd_TIns (rd_LIns l0_4 x71_3) x77_4).f4) (fun k_ => k_ < w.heap.size) _ _ ((rd_TIns (rd_LIns l0_4 x71_3) x77_4).f5) (x77_4 == (wrap64 (((rd_LIns l0_4 x71_3).length : Int) - 1))) t200 _ ?side1 ?side2 ?side3 A35.out (hL := ?side99)).mono ?_); (case side1 => exact qCB HR0_4.out); (case side2 => exact HC0_4.out); (case side3 => exact Kd.V_mk HC198_5.out (Kd.F_below (Kd.C_F (Kd.heap_int .i64) HR198_5.out) qB)); (case side99 => exact LaidW.below HLd.out qB); rintro e w50 ⟨rfl, hb⟩; refine ⟨_, rfl, ?_⟩; replace BK192 := qW BK192 hb; replace BK199 := qW BK199 hb; replace HB := qH hb; (try clear hb)))
                   go_ret
                   exact ⟨qE, qB⟩
                 ·rw [if_neg c34] at H
                  exact absurd H (by simp)
                ·rw [if_neg c33] at H
                 exact absurd H (by simp)
               ·rw [if_neg c32] at H
                have c32b0 := decide_eq_false c32
                clear c32
                have H' := Aside0.mk H
                clear H
                go_wp2
                go_roundg k4
                case measure => have := HJ3.out; have := HK2.out; have := HK3.out; have := HK4.out; omega
                case rel => exact ⟨(wrap64 (x71_3 + 1)), qT, H', ⟨by have := HJ3.out; have := HK2.out; have := HK3.out; have := HK4.out; omega⟩, ⟨qK BK192.out⟩, ⟨qB⟩⟩
            ·rw [if_neg c31] at H
             exact absurd H (by simp)
           ·rw [if_neg c30] at H
            exact absurd H (by simp)
          ·rw [if_neg c29] at H
           have c29b0 := decide_eq_false c29
           clear c29
           obtain rfl := Option.some.inj H
           go_wp2
           go_ret
           exact ⟨qE, qB⟩
 ·replace c3 := Bool.eq_false_iff.mpr c3
  subst c3
  have H1 : (some 70) = some r := by rw [if_neg (show ¬ (false = true) by decide)] at H; exact H
  clear H
  have H := H1
  clear H1
  obtain rfl := Option.some.inj H
  go_enter Tryd.func10, Tryd.ntmps10
  go_wp2_with (first | ((with_reducible refine gate_dst (N := 1) rfl ?_); (try (refine gate_guard (by rfl) ?_; dsimp only)); refine box_event (by rfl) (N := 1) (by rfl) (cs := #[.string a0_0, .int .i64 a0_1, .int .i64 a0_2, .int .i64 a0_3, .slice A0_4 l0_4.length c0_4]) (t := 24) ?hr ?_; (case hr => first | (go_simp; done) | (go_simp; rfl)); intro gb192 hg w51 hbox hb; have BK192 := Aside0.mk (hbox); have GW192 := qG hg; have GE192 := GW192; replace HB := qH hb; clear hb hbox hg; have z52_0 := bk5 BK192.out) | ((with_reducible refine gate_callee (f := 21) rfl ?_); refine goesL_ (some 13) rfl rfl Tryd.func21 (by kernel_rfl) rfl #[.string a0_0] rfl qL ?_; (with_reducible refine (ir_Name.calls a0_0 false _ A2.out).mono ?_); rintro e w53 ⟨rfl, hb⟩; refine ⟨_, rfl, ?_⟩; replace BK192 := qW BK192 hb; replace HB := qH hb; (try clear hb)))
  go_ret
  exact ⟨qE, qB⟩

end Go.Proofs.YtbipipbfiekbgaaDoor.Q
