/- Lean functions that answer as the Go functions named below do, and the proofs of that. Written by a program out of the translation. -/
import Derived.Test.YtbipipbfiekbgaaDoorQ0
import Derived.Test.YtbipipbfiekbgaaDoorSq
import Derived.Test.YtbipipbfiekbgaaDoorQcubbyref07Name
import Derived.Test.YtbipipbfiekbgaaDoorQcubbyref13in
import Derived.Test.YtbipipbfiekbgaaDoorQcubbyref13one
namespace Go.Proofs.YtbipipbfiekbgaaDoor.Q
open Go.RowKit Go.Proofs.YtbipipbfiekbgaaDoorW.PrintWords Go.Proofs.YtbipipbfiekbgaaDoorW.PrintLast Go.Proofs.YtbipipbfiekbgaaDoorW.PrintMore
attribute [local go_sem] max2_int min2_int max_two min_two max_three min_three max_four min_four   -- for this text's walks alone
set_option linter.unusedVariables false
set_option linter.unusedSimpArgs false

/-! ### cubbyref13_Check: function 11 -/
mutual
def cubbyref13_Check.j0 : Nat → Bool → ByteArray → Int → Int → Int → List (List (SIns)) → Option (Int)
 | 0, _, _, _, _, _, _ => none
 | k + 1, x43, x267000, x267001, x267002, x267003, x267004 => if x43 = true then (some 71) else (cubbyref13_Check.l0 k 0 0 x267000 x267001 x267002 x267003 x267004)
def cubbyref13_Check.l0 : Nat → Int → Int → ByteArray → Int → Int → Int → List (List (SIns)) → Option (Int)
 | 0, _, _, _, _, _, _, _ => none
 | k + 1, x3, x4, x267000, x267001, x267002, x267003, x267004 => if x4 < (x267004.length : Int) then (if 0 ≤ x4 then (if ((rd_LIns x267004 x4).length : Int) = 0 then (some 71) else (if ((rd_LIns x267004 x4).length : Int) > 1600 then (some 71) else (cubbyref13_Check.l0 k (wrap64 (x3 + ((rd_LIns x267004 x4).length : Int))) (wrap64 (x4 + 1)) x267000 x267001 x267002 x267003 x267004))) else (none)) else (if x3 > 1600 then (some 71) else (cubbyref13_Check.l1 k 0 x267000 x267001 x267002 x267003 x267004))
def cubbyref13_Check.l1 : Nat → Int → ByteArray → Int → Int → Int → List (List (SIns)) → Option (Int)
 | 0, _, _, _, _, _, _ => none
 | k + 1, x5, x267000, x267001, x267002, x267003, x267004 => if x5 < (x267004.length : Int) then (cubbyref13_Check.l2 k x5 0 x267000 x267001 x267002 x267003 x267004) else (some 0)
def cubbyref13_Check.l2 : Nat → Int → Int → ByteArray → Int → Int → Int → List (List (SIns)) → Option (Int)
 | 0, _, _, _, _, _, _, _ => none
 | k + 1, x5, x6, x267000, x267001, x267002, x267003, x267004 => if 0 ≤ x5 then (if x5 < (x267004.length : Int) then (if x6 < ((rd_LIns x267004 x5).length : Int) then (if 0 ≤ x6 then ((cubbyref13_one.f k ((rd_TIns (rd_LIns x267004 x5) x6).f0) ((rd_TIns (rd_LIns x267004 x5) x6).f1) ((rd_TIns (rd_LIns x267004 x5) x6).f2) ((rd_TIns (rd_LIns x267004 x5) x6).f3) ((rd_TIns (rd_LIns x267004 x5) x6).f4) ((rd_TIns (rd_LIns x267004 x5) x6).f5) x267000 x267001 x267002 x267003 x267004 (x6 == (wrap64 (((rd_LIns x267004 x5).length : Int) - 1)))).bind fun t277 => (if t277 = 0 then (cubbyref13_Check.l2 k x5 (wrap64 (x6 + 1)) x267000 x267001 x267002 x267003 x267004) else (some t277))) else (none)) else (cubbyref13_Check.l1 k (wrap64 (x5 + 1)) x267000 x267001 x267002 x267003 x267004)) else (none)) else (none)
end
def cubbyref13_Check.f (k : Nat) (a0_0 : ByteArray) (a0_1 : Int) (a0_2 : Int) (a0_3 : Int) (l0_4 : List (List (SIns))) : Option (Int) := (cubbyref07_Name.f k a0_0).bind fun t267 => (if t267 = true then ((cubbyref13_in.f a0_1 5).bind fun t268 => (if t268 = true then (if a0_2 < 6 then (cubbyref13_Check.j0 k true a0_0 a0_1 a0_2 a0_3 l0_4) else (if a0_2 > 16 then (cubbyref13_Check.j0 k true a0_0 a0_1 a0_2 a0_3 l0_4) else ((cubbyref13_in.f a0_3 65).bind fun t269 => (if t269 = true then (if (l0_4.length : Int) < 1 then (cubbyref13_Check.j0 k true a0_0 a0_1 a0_2 a0_3 l0_4) else (cubbyref13_Check.j0 k (decide ((l0_4.length : Int) > 33)) a0_0 a0_1 a0_2 a0_3 l0_4)) else (cubbyref13_Check.j0 k true a0_0 a0_1 a0_2 a0_3 l0_4))))) else (cubbyref13_Check.j0 k true a0_0 a0_1 a0_2 a0_3 l0_4))) else (some 70))
theorem cubbyref13_Check.mono_l : ∀ k, (∀ y0 y1 y2 y3 y4 y5, LeO (cubbyref13_Check.j0 k y0 y1 y2 y3 y4 y5) (cubbyref13_Check.j0 (k + 1) y0 y1 y2 y3 y4 y5)) ∧ (∀ y0 y1 y2 y3 y4 y5 y6, LeO (cubbyref13_Check.l0 k y0 y1 y2 y3 y4 y5 y6) (cubbyref13_Check.l0 (k + 1) y0 y1 y2 y3 y4 y5 y6)) ∧ (∀ y0 y1 y2 y3 y4 y5, LeO (cubbyref13_Check.l1 k y0 y1 y2 y3 y4 y5) (cubbyref13_Check.l1 (k + 1) y0 y1 y2 y3 y4 y5)) ∧ (∀ y0 y1 y2 y3 y4 y5 y6, LeO (cubbyref13_Check.l2 k y0 y1 y2 y3 y4 y5 y6) (cubbyref13_Check.l2 (k + 1) y0 y1 y2 y3 y4 y5 y6))
 | 0 => ⟨fun _ _ _ _ _ _ r h => by simp [cubbyref13_Check.j0] at h, fun _ _ _ _ _ _ _ r h => by simp [cubbyref13_Check.l0] at h, fun _ _ _ _ _ _ r h => by simp [cubbyref13_Check.l1] at h, fun _ _ _ _ _ _ _ r h => by simp [cubbyref13_Check.l2] at h⟩
 | k + 1 => by
  obtain ⟨ih0, ih1, ih2, ih3⟩ := cubbyref13_Check.mono_l k
  refine ⟨?_, ?_, ?_, ?_⟩ <;> intros <;> (first | unfold cubbyref13_Check.j0 | unfold cubbyref13_Check.l0 | unfold cubbyref13_Check.l1 | unfold cubbyref13_Check.l2) <;> repeat' first | (with_reducible exact ih0 _ _ _ _ _ _) | (with_reducible exact ih1 _ _ _ _ _ _ _) | (with_reducible exact ih2 _ _ _ _ _ _) | (with_reducible exact ih3 _ _ _ _ _ _ _) | (with_reducible exact cubbyref07_Name.mono _ _) | (with_reducible exact cubbyref13_one.mono _ _ _ _ _ _ _ _ _ _ _ _ _) | (with_reducible exact LeO.refl _) | (with_reducible exact LeO.none _) | (with_reducible refine LeO.ite ?_ ?_) | (with_reducible refine LeO.bind ?_ (fun _ => ?_)) | exact LeO.none _ | refine LeO.ite ?_ ?_ | refine LeO.bind ?_ (fun _ => ?_)
theorem cubbyref13_Check.mono : ∀ a0 a1 a2 a3 a4 k, LeO (cubbyref13_Check.f k a0 a1 a2 a3 a4) (cubbyref13_Check.f (k + 1) a0 a1 a2 a3 a4) := by
 intro a0 a1 a2 a3 a4 k
 obtain ⟨ih0, ih1, ih2, ih3⟩ := cubbyref13_Check.mono_l k
 unfold cubbyref13_Check.f
 repeat' first | (with_reducible exact ih0 _ _ _ _ _ _) | (with_reducible exact ih1 _ _ _ _ _ _ _) | (with_reducible exact ih2 _ _ _ _ _ _) | (with_reducible exact ih3 _ _ _ _ _ _ _) | (with_reducible exact cubbyref07_Name.mono _ _) | (with_reducible exact cubbyref13_one.mono _ _ _ _ _ _ _ _ _ _ _ _ _) | (with_reducible exact LeO.refl _) | (with_reducible exact LeO.none _) | (with_reducible refine LeO.ite ?_ ?_) | (with_reducible refine LeO.bind ?_ (fun _ => ?_)) | exact LeO.none _ | refine LeO.ite ?_ ?_ | refine LeO.bind ?_ (fun _ => ?_)
def cubbyref13_Check.T20 : Bool × List (List Nat × List Nat) := (true, [([], []), ([0], [0]), ([], []), ([1, 2], [1, 2]), ([3], [3]), ([], []), ([4, 5], [4, 5]), ([6], [6]), ([], []), ([], []), ([], []), ([10], [10]), ([], []), ([11, 12], [11, 12]), ([13], [13]), ([14], [14]), ([15], [15]), ([9, 16], [9, 16]), ([7, 8, 17], [7, 8, 17]), ([18, 18, 0, 1, 2, 3, 4, 5, 6, 7, 8, 9, 10, 11, 12, 13, 14, 15, 16, 17, 18], [18])])
def cubbyref13_Check.B20 : List Nat := [0, 1, 0, 7, 15, 0, 63, 127, 0, 0, 0, 1024, 0, 7168, 15360, 31744, 64512, 130560, 262143, 524287]
theorem cubbyref13_Check.tab20 : rtab .any (opsOf Tryd.f11 20) = cubbyref13_Check.T20 := by kernel_rfl
theorem cubbyref13_Check.bits20 : waitsOk cubbyref13_Check.T20.2 cubbyref13_Check.B20 = true := by kernel_rfl
set_option maxHeartbeats 8000000 in
set_option maxRecDepth 100000 in
theorem cubbyref13_Check.calls (k : Nat) (a0_0 : ByteArray) (a0_1 : Int) (a0_2 : Int) (a0_3 : Int) (A0_4 : Option Addr) (c0_4 : Nat) (l0_4 : List (List (SIns))) (r : Int) (w : World) (hr0_4 : Kd.C (Kd.slice 31 kIns) w A0_4 l0_4.length l0_4) (hc0_4 : l0_4.length ≤ c0_4) (h : cubbyref13_Check.f k a0_0 a0_1 a0_2 a0_3 l0_4 = some r) :
  Calls Tryd.prog 11 #[.agg #[.string a0_0, .int .i64 a0_1, .int .i64 a0_2, .int .i64 a0_3, .slice A0_4 l0_4.length c0_4]] w fun e w' => e = .returned (.int .i64 r) ∧ Below w.heap.size w w' := by
 have hu24 := Tryd.underlying24
 have hu31 := Tryd.underlying31
 have HR0_4 := Aside0.mk hr0_4
 have HC0_4 := Aside0.mk hc0_4
 clear hr0_4 hc0_4
 have HB := Aside0.mk (Below.refl w.heap.size w)
 have H := h; clear h; unfold cubbyref13_Check.f at H
 replace H := qb H; obtain ⟨t267, A2, H⟩ := H
 by_cases c3 : t267 = true
 ·subst c3
  have H1 : ((cubbyref13_in.f a0_1 5).bind fun t268 => (if t268 = true then (if a0_2 < 6 then (cubbyref13_Check.j0 k true a0_0 a0_1 a0_2 a0_3 l0_4) else (if a0_2 > 16 then (cubbyref13_Check.j0 k true a0_0 a0_1 a0_2 a0_3 l0_4) else ((cubbyref13_in.f a0_3 65).bind fun t269 => (if t269 = true then (if (l0_4.length : Int) < 1 then (cubbyref13_Check.j0 k true a0_0 a0_1 a0_2 a0_3 l0_4) else (cubbyref13_Check.j0 k (decide ((l0_4.length : Int) > 33)) a0_0 a0_1 a0_2 a0_3 l0_4)) else (cubbyref13_Check.j0 k true a0_0 a0_1 a0_2 a0_3 l0_4))))) else (cubbyref13_Check.j0 k true a0_0 a0_1 a0_2 a0_3 l0_4))) = some r := by rw [if_pos rfl] at H; exact H
  clear H
  have H := H1
  clear H1
  have HC4 := Aside0.mk H
  clear H
  go_enter Tryd.func11, Tryd.ntmps11
  go_upto_region 3 with (first | ((with_reducible refine gate_dst (N := 1) rfl ?_); (try (refine gate_guard (by rfl) ?_; dsimp only)); refine box_event (by rfl) (N := 1) (by rfl) (cs := #[.string a0_0, .int .i64 a0_1, .int .i64 a0_2, .int .i64 a0_3, .slice A0_4 l0_4.length c0_4]) (t := 24) ?hr ?_; (case hr => first | (go_simp; done) | (go_simp; rfl)); intro gb266 hg w5 hbox hb; have BK266 := Aside0.mk (hbox); have GW266 := qG hg; have GE266 := GW266; replace HB := qH hb; clear hb hbox hg; have z6_0 := bk5 BK266.out) | ((with_reducible refine gate_callee (f := 16) rfl ?_); refine goesL_ (some 10) rfl rfl Tryd.func16 (by kernel_rfl) rfl #[.string a0_0] rfl qL ?_; (with_reducible refine (cubbyref07_Name.calls k a0_0 true _ A2.out).mono ?_); rintro e w' ⟨rfl, ⟨nd, rfl⟩⟩; refine ⟨_, rfl, ?_⟩))
  (try simp only [Act.put, List.setIfInBounds_toArray, List.set_cons_zero, List.set_cons_succ])
  go_cut [43] (fun v43 wc => ∃ (kq : Nat) (x43_3 : Bool), v43 = .bool x43_3 ∧ Aside0 (cubbyref13_Check.j0 kq x43_3 a0_0 a0_1 a0_2 a0_3 l0_4 = some r) ∧ Aside0 (kq ≤ k) ∧ Aside0 (wc.heap[gb266]? = some (.cells #[.string a0_0, .int .i64 a0_1, .int .i64 a0_2, .int .i64 a0_3, (.slice A0_4 l0_4.length c0_4)] 24 (0, 0))) ∧ Aside0 (Below w.heap.size w wc))
  case first =>
   have H := HC4.out
   clear HC4
   replace H := qb H; obtain ⟨t268, A7, H⟩ := H
   by_cases c8 : t268 = true
   ·subst c8
    have H1 : (if a0_2 < 6 then (cubbyref13_Check.j0 k true a0_0 a0_1 a0_2 a0_3 l0_4) else (if a0_2 > 16 then (cubbyref13_Check.j0 k true a0_0 a0_1 a0_2 a0_3 l0_4) else ((cubbyref13_in.f a0_3 65).bind fun t269 => (if t269 = true then (if (l0_4.length : Int) < 1 then (cubbyref13_Check.j0 k true a0_0 a0_1 a0_2 a0_3 l0_4) else (cubbyref13_Check.j0 k (decide ((l0_4.length : Int) > 33)) a0_0 a0_1 a0_2 a0_3 l0_4)) else (cubbyref13_Check.j0 k true a0_0 a0_1 a0_2 a0_3 l0_4))))) = some r := by rw [if_pos rfl] at H; exact H
    clear H
    have H := H1
    clear H1
    by_cases c9 : a0_2 < 6
    ·rw [if_pos c9] at H
     have c9b0 := decide_eq_true c9
     clear c9
     (first | rw [c9b0] | (simp only [i64_w, i32_w]; rw [c9b0]) | skip)
     have H' := Aside0.mk H
     clear H
     have z10_0 := bk5 BK266.out
     go_wp2_with (first | ((with_reducible refine gate_callee (f := 24) rfl ?_); refine goesL_ (some 14) rfl rfl Tryd.func24 (by kernel_rfl) rfl #[.int .i64 a0_1, .int .i64 5] rfl qL ?_; (with_reducible refine (cubbyref13_in.calls a0_1 5 true _ A7.out).mono ?_); rintro e w' ⟨rfl, ⟨nd, rfl⟩⟩; refine ⟨_, rfl, ?_⟩))
     go_meet
     case rel => exact ⟨_, (true), qT, H', ⟨qO⟩, ⟨qK BK266.out⟩, ⟨qB⟩⟩
    ·rw [if_neg c9] at H
     have c9b0 := decide_eq_false c9
     clear c9
     (first | rw [c9b0] | (simp only [i64_w, i32_w]; rw [c9b0]) | skip)
     by_cases c11 : a0_2 > 16
     ·rw [if_pos c11] at H
      have c11b0 : decide (16 < a0_2) = true := decide_eq_true c11
      clear c11
      have H' := Aside0.mk H
      clear H
      have z12_0 := bk5 BK266.out
      go_wp2_with (first | ((with_reducible refine gate_callee (f := 24) rfl ?_); refine goesL_ (some 14) rfl rfl Tryd.func24 (by kernel_rfl) rfl #[.int .i64 a0_1, .int .i64 5] rfl qL ?_; (with_reducible refine (cubbyref13_in.calls a0_1 5 true _ A7.out).mono ?_); rintro e w' ⟨rfl, ⟨nd, rfl⟩⟩; refine ⟨_, rfl, ?_⟩))
      go_meet
      case rel => exact ⟨_, (true), qT, H', ⟨qO⟩, ⟨qK BK266.out⟩, ⟨qB⟩⟩
     ·rw [if_neg c11] at H
      have c11b0 : decide (16 < a0_2) = false := decide_eq_false c11
      clear c11
      replace H := qb H; obtain ⟨t269, A13, H⟩ := H
      by_cases c14 : t269 = true
      ·subst c14
       have H1 : (if (l0_4.length : Int) < 1 then (cubbyref13_Check.j0 k true a0_0 a0_1 a0_2 a0_3 l0_4) else (cubbyref13_Check.j0 k (decide ((l0_4.length : Int) > 33)) a0_0 a0_1 a0_2 a0_3 l0_4)) = some r := by rw [if_pos rfl] at H; exact H
       clear H
       have H := H1
       clear H1
       by_cases c15 : (l0_4.length : Int) < 1
       ·rw [if_pos c15] at H
        have c15b0 := decide_eq_true c15
        have c15b1 : decide (l0_4.length < 1) = true := decide_eq_true (by omega)
        clear c15
        have H' := Aside0.mk H
        clear H
        have z16_0 := bk5 BK266.out
        go_wp2_with (first | ((with_reducible refine gate_callee (f := 24) rfl ?_); refine goesL_ (some 14) rfl rfl Tryd.func24 (by kernel_rfl) rfl #[.int .i64 a0_1, .int .i64 5] rfl qL ?_; (with_reducible refine (cubbyref13_in.calls a0_1 5 true _ A7.out).mono ?_); rintro e w' ⟨rfl, ⟨nd, rfl⟩⟩; refine ⟨_, rfl, ?_⟩) | (go_at_call 24; (with_reducible refine (cubbyref13_in.calls a0_3 65 true _ A13.out).mono ?_); (try clear A13); rintro e w' ⟨rfl, ⟨nd, rfl⟩⟩))
        go_meet
        case rel => exact ⟨_, (true), qT, H', ⟨qO⟩, ⟨qK BK266.out⟩, ⟨qB⟩⟩
       ·rw [if_neg c15] at H
        have c15b0 := decide_eq_false c15
        have c15b1 : decide (l0_4.length < 1) = false := decide_eq_false (by omega)
        clear c15
        have H' := Aside0.mk H
        clear H
        have z17_0 := bk5 BK266.out
        go_wp2_with (first | ((with_reducible refine gate_callee (f := 24) rfl ?_); refine goesL_ (some 14) rfl rfl Tryd.func24 (by kernel_rfl) rfl #[.int .i64 a0_1, .int .i64 5] rfl qL ?_; (with_reducible refine (cubbyref13_in.calls a0_1 5 true _ A7.out).mono ?_); rintro e w' ⟨rfl, ⟨nd, rfl⟩⟩; refine ⟨_, rfl, ?_⟩) | (go_at_call 24; (with_reducible refine (cubbyref13_in.calls a0_3 65 true _ A13.out).mono ?_); (try clear A13); rintro e w' ⟨rfl, ⟨nd, rfl⟩⟩))
        go_meet
        case rel => exact ⟨_, (decide ((l0_4.length : Int) > 33)), qT, H', ⟨qO⟩, ⟨qK BK266.out⟩, ⟨qB⟩⟩
      ·replace c14 := Bool.eq_false_iff.mpr c14
       subst c14
       have H1 : (cubbyref13_Check.j0 k true a0_0 a0_1 a0_2 a0_3 l0_4) = some r := by rw [if_neg (show ¬ (false = true) by decide)] at H; exact H
       clear H
       have H := H1
       clear H1
       have H' := Aside0.mk H
       clear H
       have z18_0 := bk5 BK266.out
       go_wp2_with (first | ((with_reducible refine gate_callee (f := 24) rfl ?_); refine goesL_ (some 14) rfl rfl Tryd.func24 (by kernel_rfl) rfl #[.int .i64 a0_1, .int .i64 5] rfl qL ?_; (with_reducible refine (cubbyref13_in.calls a0_1 5 true _ A7.out).mono ?_); rintro e w' ⟨rfl, ⟨nd, rfl⟩⟩; refine ⟨_, rfl, ?_⟩) | (go_at_call 24; (with_reducible refine (cubbyref13_in.calls a0_3 65 false _ A13.out).mono ?_); (try clear A13); rintro e w' ⟨rfl, ⟨nd, rfl⟩⟩))
       go_meet
       case rel => exact ⟨_, (true), qT, H', ⟨qO⟩, ⟨qK BK266.out⟩, ⟨qB⟩⟩
   ·replace c8 := Bool.eq_false_iff.mpr c8
    subst c8
    have H1 : (cubbyref13_Check.j0 k true a0_0 a0_1 a0_2 a0_3 l0_4) = some r := by rw [if_neg (show ¬ (false = true) by decide)] at H; exact H
    clear H
    have H := H1
    clear H1
    have H' := Aside0.mk H
    clear H
    have z19_0 := bk5 BK266.out
    go_wp2_with (first | ((with_reducible refine gate_callee (f := 24) rfl ?_); refine goesL_ (some 14) rfl rfl Tryd.func24 (by kernel_rfl) rfl #[.int .i64 a0_1, .int .i64 5] rfl qL ?_; (with_reducible refine (cubbyref13_in.calls a0_1 5 false _ A7.out).mono ?_); rintro e w' ⟨rfl, ⟨nd, rfl⟩⟩; refine ⟨_, rfl, ?_⟩))
    go_meet
    case rel => exact ⟨_, (true), qT, H', ⟨qO⟩, ⟨qK BK266.out⟩, ⟨qB⟩⟩
  case rest =>
   clear HC4
   try clear c1; try clear c2; try clear p2; try clear c3; try clear c8; try clear c9; try clear c9b0; try clear c11; try clear c11b0; try clear c14; try clear c15; try clear c15b0 c15b1; try clear c16; try clear z10_0; try clear z12_0; try clear z16_0; try clear z17_0; try clear z18_0; try clear z19_0; try clear z6_0
   obtain ⟨kq, x43_3, rfl, HA, HJ3, BK266, HB⟩ := hcut
   cases kq with
   | zero => exact absurd HA.out (by simp [cubbyref13_Check.j0])
   | succ kj3 =>
    have H := HA.out
    clear HA
    simp only [cubbyref13_Check.j0] at H
    by_cases c20 : x43_3 = true
    ·subst c20
     have H1 : (some 71) = some r := by rw [if_pos rfl] at H; exact H
     clear H
     have H := H1
     clear H1
     obtain rfl := Option.some.inj H
     go_wp2
     go_ret
     exact ⟨qE, qB⟩
    ·replace c20 := Bool.eq_false_iff.mpr c20
     subst c20
     have H1 : (cubbyref13_Check.l0 kj3 0 0 a0_0 a0_1 a0_2 a0_3 l0_4) = some r := by rw [if_neg (show ¬ (false = true) by decide)] at H; exact H
     clear H
     have H := H1
     clear H1
     have H' := Aside0.mk H
     clear H
     go_wp2
     go_loopg [3, 4] kj3 (fun kq v3 v4 w' => ∃ (x3_2 : Int) (x4_2 : Int), v3 = .int .i64 x3_2 ∧ v4 = .int .i64 x4_2 ∧ Aside0 (cubbyref13_Check.l0 kq x3_2 x4_2 a0_0 a0_1 a0_2 a0_3 l0_4 = some r) ∧ Aside0 (kq ≤ kj3) ∧ Aside0 (w'.heap[gb266]? = some (.cells #[.string a0_0, .int .i64 a0_1, .int .i64 a0_2, .int .i64 a0_3, (.slice A0_4 l0_4.length c0_4)] 24 (0, 0))) ∧ Aside0 (Below w.heap.size w w'))
     case atStart => exact ⟨(0), (0), qT, qT, H', ⟨Nat.le_refl _⟩, ⟨qK BK266.out⟩, ⟨qB⟩⟩
     case round =>
      clear H'
      try clear c1; try clear c2; try clear p2; try clear c3; try clear c8; try clear c9; try clear c9b0; try clear c11; try clear c11b0; try clear c14; try clear c15; try clear c15b0 c15b1; try clear c16; try clear c20; try clear z10_0; try clear z12_0; try clear z16_0; try clear z17_0; try clear z18_0; try clear z19_0; try clear z6_0
      obtain ⟨x3_2, x4_2, rfl, rfl, HA, HK2, BK266, HB⟩ := hrel
      cases gk with
      | zero => exact absurd HA.out (by simp [cubbyref13_Check.l0])
      | succ k2 =>
       have H := HA.out
       clear HA
       simp only [cubbyref13_Check.l0] at H
       by_cases c21 : x4_2 < (l0_4.length : Int)
       ·rw [if_pos c21] at H
        have c21b0 := decide_eq_true c21
        clear c21
        by_cases c22 : 0 ≤ x4_2
        ·rw [if_pos c22] at H
         have c22b0 := decide_eq_true c22
         clear c22
         by_cases c23 : ((rd_LIns l0_4 x4_2).length : Int) = 0
         ·rw [if_pos c23] at H
          obtain ⟨c23b0, c23b1⟩ := qe c23; clear c23
          obtain rfl := Option.some.inj H
          have z24_0 := bk5 BK266.out
          have p270 : 0 ≤ (x4_2 : Int) := of_decide_eq_true qA
          have q270 : x4_2 < (l0_4.length : Int) := of_decide_eq_true qA
          obtain ⟨ad270, A270_0, c270_0, e270, hx270_0, hl270_0, hi270_0⟩ := at_LIns HR0_4.out x4_2 p270 q270
          cases e270
          replace hx270_0 := (HB.out.cell (World.block_lt_of_cell? w _ hx270_0)).trans hx270_0
          have HR270_0 := Aside0.mk hi270_0
          have HC270_0 := Aside0.mk hl270_0
          clear hi270_0 hl270_0
          replace p270 := eq_true p270
          replace q270 := eq_true q270
          go_wp2
          go_ret
          exact ⟨qE, qB⟩
         ·rw [if_neg c23] at H
          obtain ⟨c23b0, c23b1⟩ := qn c23
          have c23b2 : ¬ ((rd_LIns l0_4 x4_2) = []) := fun h_ => c23 (by rw [h_]; rfl)
          by_cases c25 : ((rd_LIns l0_4 x4_2).length : Int) > 1600
          ·rw [if_pos c25] at H
           have c25b0 : decide (1600 < ((rd_LIns l0_4 x4_2).length : Int)) = true := decide_eq_true c25
           have c25b1 : decide (1600 < (rd_LIns l0_4 x4_2).length) = true := decide_eq_true (by omega)
           clear c25
           obtain rfl := Option.some.inj H
           have z26_0 := bk5 BK266.out
           have p270 : 0 ≤ (x4_2 : Int) := of_decide_eq_true qA
           have q270 : x4_2 < (l0_4.length : Int) := of_decide_eq_true qA
           obtain ⟨ad270, A270_0, c270_0, e270, hx270_0, hl270_0, hi270_0⟩ := at_LIns HR0_4.out x4_2 p270 q270
           cases e270
           replace hx270_0 := (HB.out.cell (World.block_lt_of_cell? w _ hx270_0)).trans hx270_0
           have HR270_0 := Aside0.mk hi270_0
           have HC270_0 := Aside0.mk hl270_0
           clear hi270_0 hl270_0
           replace p270 := eq_true p270
           replace q270 := eq_true q270
           have p271 : 0 ≤ (x4_2 : Int) := of_decide_eq_true qA
           have q271 : x4_2 < (l0_4.length : Int) := of_decide_eq_true qA
           obtain ⟨ad271, A271_0, c271_0, e271, hx271_0, hl271_0, hi271_0⟩ := at_LIns HR0_4.out x4_2 p271 q271
           obtain rfl : ad270 = ad271 := (by injection e271)
           replace hx271_0 := (HB.out.cell (World.block_lt_of_cell? w _ hx271_0)).trans hx271_0
           have HR271_0 := Aside0.mk hi271_0
           have HC271_0 := Aside0.mk hl271_0
           clear hi271_0 hl271_0
           replace p271 := eq_true p271
           replace q271 := eq_true q271
           have ea_ := Option.some.inj (hx270_0.symm.trans hx271_0)
           injection ea_ with ea_ en_ ec_
           subst ea_
           subst ec_
           clear en_
           go_wp2
           go_ret
           exact ⟨qE, qB⟩
          ·rw [if_neg c25] at H
           have c25b0 : decide (1600 < ((rd_LIns l0_4 x4_2).length : Int)) = false := decide_eq_false c25
           have c25b1 : decide (1600 < (rd_LIns l0_4 x4_2).length) = false := decide_eq_false (by omega)
           clear c25
           have H' := Aside0.mk H
           clear H
           have z27_0 := bk5 BK266.out
           have p270 : 0 ≤ (x4_2 : Int) := of_decide_eq_true qA
           have q270 : x4_2 < (l0_4.length : Int) := of_decide_eq_true qA
           obtain ⟨ad270, A270_0, c270_0, e270, hx270_0, hl270_0, hi270_0⟩ := at_LIns HR0_4.out x4_2 p270 q270
           cases e270
           replace hx270_0 := (HB.out.cell (World.block_lt_of_cell? w _ hx270_0)).trans hx270_0
           have HR270_0 := Aside0.mk hi270_0
           have HC270_0 := Aside0.mk hl270_0
           clear hi270_0 hl270_0
           replace p270 := eq_true p270
           replace q270 := eq_true q270
           have p271 : 0 ≤ (x4_2 : Int) := of_decide_eq_true qA
           have q271 : x4_2 < (l0_4.length : Int) := of_decide_eq_true qA
           obtain ⟨ad271, A271_0, c271_0, e271, hx271_0, hl271_0, hi271_0⟩ := at_LIns HR0_4.out x4_2 p271 q271
           obtain rfl : ad270 = ad271 := (by injection e271)
           replace hx271_0 := (HB.out.cell (World.block_lt_of_cell? w _ hx271_0)).trans hx271_0
           have HR271_0 := Aside0.mk hi271_0
           have HC271_0 := Aside0.mk hl271_0
           clear hi271_0 hl271_0
           replace p271 := eq_true p271
           replace q271 := eq_true q271
           have ea_ := Option.some.inj (hx270_0.symm.trans hx271_0)
           injection ea_ with ea_ en_ ec_
           subst ea_
           subst ec_
           clear en_
           have p272 : 0 ≤ (x4_2 : Int) := of_decide_eq_true qA
           have q272 : x4_2 < (l0_4.length : Int) := of_decide_eq_true qA
           obtain ⟨ad272, A272_0, c272_0, e272, hx272_0, hl272_0, hi272_0⟩ := at_LIns HR0_4.out x4_2 p272 q272
           obtain rfl : ad270 = ad272 := (by injection e272)
           replace hx272_0 := (HB.out.cell (World.block_lt_of_cell? w _ hx272_0)).trans hx272_0
           have HR272_0 := Aside0.mk hi272_0
           have HC272_0 := Aside0.mk hl272_0
           clear hi272_0 hl272_0
           replace p272 := eq_true p272
           replace q272 := eq_true q272
           have ea_ := Option.some.inj (hx270_0.symm.trans hx272_0)
           injection ea_ with ea_ en_ ec_
           subst ea_
           subst ec_
           clear en_
           go_wp2
           go_roundg k2
           case measure => have := HJ3.out; have := HK2.out; omega
           case rel => exact ⟨(wrap64 (x3_2 + ((rd_LIns l0_4 x4_2).length : Int))), (wrap64 (x4_2 + 1)), qT, qT, H', ⟨by have := HJ3.out; have := HK2.out; omega⟩, ⟨qK BK266.out⟩, ⟨qB⟩⟩
        ·rw [if_neg c22] at H
         exact absurd H (by simp)
       ·rw [if_neg c21] at H
        have c21b0 := decide_eq_false c21
        clear c21
        by_cases c28 : x3_2 > 1600
        ·rw [if_pos c28] at H
         have c28b0 : decide (1600 < x3_2) = true := decide_eq_true c28
         clear c28
         obtain rfl := Option.some.inj H
         have z29_0 := bk5 BK266.out
         go_wp2
         go_ret
         exact ⟨qE, qB⟩
        ·rw [if_neg c28] at H
         have c28b0 : decide (1600 < x3_2) = false := decide_eq_false c28
         clear c28
         have H' := Aside0.mk H
         clear H
         have z30_0 := bk5 BK266.out
         go_wp2
         go_loopg [5] k2 (fun kq v5 w' => ∃ (x5_3 : Int), v5 = .int .i64 x5_3 ∧ Aside0 (cubbyref13_Check.l1 kq x5_3 a0_0 a0_1 a0_2 a0_3 l0_4 = some r) ∧ Aside0 (kq ≤ k2) ∧ Aside0 (w'.heap[gb266]? = some (.cells #[.string a0_0, .int .i64 a0_1, .int .i64 a0_2, .int .i64 a0_3, (.slice A0_4 l0_4.length c0_4)] 24 (0, 0))) ∧ Aside0 (Below w.heap.size w w'))
         case atStart => exact ⟨(0), qT, H', ⟨Nat.le_refl _⟩, ⟨qK BK266.out⟩, ⟨qB⟩⟩
         case round =>
          clear H'
          try clear c1; try clear c2; try clear p2; try clear q2; try clear hx2; try clear c3; try clear p6; try clear c8; try clear c9; try clear c9b0; try clear c11; try clear c11b0; try clear c14; try clear c15; try clear c15b0 c15b1; try clear c16; try clear c20; try clear c21b0; try clear c22; try clear c22b0; try clear c23; try clear c23b0 c23b1 c23b2; try clear c24; try clear c25; try clear c25b0 c25b1; try clear c27; try clear p27; try clear q27; try clear hx27; try clear c28b0; try clear z10_0; try clear z12_0; try clear z16_0; try clear z17_0; try clear z18_0; try clear z19_0; try clear z24_0; try clear z26_0; try clear z27_0; try clear z29_0; try clear z30_0; try clear z6_0; try clear hx270_0; try clear hx271_0; try clear hx272_0; try clear p270; try clear p271; try clear p272; try clear q270; try clear q271; try clear q272
          obtain ⟨x5_3, rfl, HA, HK3, BK266, HB⟩ := hrel
          cases gk with
          | zero => exact absurd HA.out (by simp [cubbyref13_Check.l1])
          | succ k3 =>
           have H := HA.out
           clear HA
           simp only [cubbyref13_Check.l1] at H
           by_cases c31 : x5_3 < (l0_4.length : Int)
           ·rw [if_pos c31] at H
            have c31b0 := decide_eq_true c31
            clear c31
            have H' := Aside0.mk H
            clear H
            have z32_0 := bk5 BK266.out
            go_wp2
            go_loopg [6] k3 (fun kq v6 w' => ∃ (x6_4 : Int), v6 = .int .i64 x6_4 ∧ Aside0 (cubbyref13_Check.l2 kq x5_3 x6_4 a0_0 a0_1 a0_2 a0_3 l0_4 = some r) ∧ Aside0 (kq ≤ k3) ∧ Aside0 (w'.heap[gb266]? = some (.cells #[.string a0_0, .int .i64 a0_1, .int .i64 a0_2, .int .i64 a0_3, (.slice A0_4 l0_4.length c0_4)] 24 (0, 0))) ∧ Aside0 (Below w.heap.size w w'))
            case atStart => exact ⟨(0), qT, H', ⟨Nat.le_refl _⟩, ⟨qK BK266.out⟩, ⟨qB⟩⟩
            case round =>
             clear H'
             try clear c1; try clear c2; try clear p2; try clear q2; try clear hx2; try clear c3; try clear p6; try clear c8; try clear c9; try clear c9b0; try clear c11; try clear c11b0; try clear c14; try clear c15; try clear c15b0 c15b1; try clear c16; try clear c20; try clear c21b0; try clear c22; try clear c22b0; try clear c23; try clear c23b0 c23b1 c23b2; try clear c24; try clear c25; try clear c25b0 c25b1; try clear c27; try clear p27; try clear q27; try clear hx27; try clear c28b0; try clear c31b0; try clear z10_0; try clear z12_0; try clear z16_0; try clear z17_0; try clear z18_0; try clear z19_0; try clear z24_0; try clear z26_0; try clear z27_0; try clear z29_0; try clear z30_0; try clear z32_0; try clear z6_0; try clear hx270_0; try clear hx271_0; try clear hx272_0; try clear p270; try clear p271; try clear p272; try clear q270; try clear q271; try clear q272
             obtain ⟨x6_4, rfl, HA, HK4, BK266, HB⟩ := hrel
             cases gk with
             | zero => exact absurd HA.out (by simp [cubbyref13_Check.l2])
             | succ k4 =>
              have H := HA.out
              clear HA
              simp only [cubbyref13_Check.l2] at H
              by_cases c33 : 0 ≤ x5_3
              ·rw [if_pos c33] at H
               have c33b0 := decide_eq_true c33
               clear c33
               by_cases c34 : x5_3 < (l0_4.length : Int)
               ·rw [if_pos c34] at H
                have c34b0 := decide_eq_true c34
                clear c34
                by_cases c35 : x6_4 < ((rd_LIns l0_4 x5_3).length : Int)
                ·rw [if_pos c35] at H
                 have c35b0 := decide_eq_true c35
                 clear c35
                 by_cases c36 : 0 ≤ x6_4
                 ·rw [if_pos c36] at H
                  have c36b0 := decide_eq_true c36
                  clear c36
                  replace H := qb H; obtain ⟨t277, A37, H⟩ := H
                  by_cases c38 : t277 = 0
                  ·rw [if_pos c38] at H
                   obtain ⟨c38b0, c38b1⟩ := qe c38; clear c38
                   have H' := Aside0.mk H
                   clear H
                   have z39_0 := bk5 BK266.out
                   have p273 : 0 ≤ (x5_3 : Int) := of_decide_eq_true qA
                   have q273 : x5_3 < (l0_4.length : Int) := of_decide_eq_true qA
                   obtain ⟨ad273, A273_0, c273_0, e273, hx273_0, hl273_0, hi273_0⟩ := at_LIns HR0_4.out x5_3 p273 q273
                   cases e273
                   replace hx273_0 := (HB.out.cell (World.block_lt_of_cell? w _ hx273_0)).trans hx273_0
                   have HR273_0 := Aside0.mk hi273_0
                   have HC273_0 := Aside0.mk hl273_0
                   clear hi273_0 hl273_0
                   replace p273 := eq_true p273
                   replace q273 := eq_true q273
                   try go_wp2
                   have n0_ := Aside0.mk (blk_drew BK266.out)
                   have n1_ := Aside0.mk (below_drew1 HB.out)
                   clear BK266
                   clear HB
                   have BK266 := n0_
                   have HB := n1_
                   clear n0_ n1_
                   have p274 : 0 ≤ (x5_3 : Int) := of_decide_eq_true qA
                   have q274 : x5_3 < (l0_4.length : Int) := of_decide_eq_true qA
                   obtain ⟨ad274, A274_0, c274_0, e274, hx274_0, hl274_0, hi274_0⟩ := at_LIns HR0_4.out x5_3 p274 q274
                   have hw274_0 := hx274_0
                   obtain rfl : ad273 = ad274 := (by injection e274)
                   replace hx274_0 := (HB.out.cell (World.block_lt_of_cell? w _ hx274_0)).trans hx274_0
                   have HR274_0 := Aside0.mk hi274_0
                   have HC274_0 := Aside0.mk hl274_0
                   clear hi274_0 hl274_0
                   replace p274 := eq_true p274
                   replace q274 := eq_true q274
                   have p275 : 0 ≤ (x6_4 : Int) := of_decide_eq_true qA
                   have q275 : x6_4 < ((rd_LIns l0_4 x5_3).length : Int) := of_decide_eq_true qA
                   obtain ⟨ad275, A275_5, c275_5, e275, hx275_0, hx275_1, hx275_2, hx275_3, hx275_4, hx275_5, hl275_5, hi275_5⟩ := at_TIns HR274_0.out x6_4 p275 q275
                   have hw275_5 := hx275_5
                   have hw275_4 := hx275_4
                   have hw275_3 := hx275_3
                   have hw275_2 := hx275_2
                   have hw275_1 := hx275_1
                   have hw275_0 := hx275_0
                   cases e275
                   replace hx275_0 := (HB.out.cell (World.block_lt_of_cell? w _ hx275_0)).trans hx275_0
                   replace hx275_1 := (HB.out.cell (World.block_lt_of_cell? w _ hx275_1)).trans hx275_1
                   replace hx275_2 := (HB.out.cell (World.block_lt_of_cell? w _ hx275_2)).trans hx275_2
                   replace hx275_3 := (HB.out.cell (World.block_lt_of_cell? w _ hx275_3)).trans hx275_3
                   replace hx275_4 := (HB.out.cell (World.block_lt_of_cell? w _ hx275_4)).trans hx275_4
                   replace hx275_5 := (HB.out.cell (World.block_lt_of_cell? w _ hx275_5)).trans hx275_5
                   have HR275_5 := Aside0.mk hi275_5
                   have HC275_5 := Aside0.mk hl275_5
                   clear hi275_5 hl275_5
                   replace p275 := eq_true p275
                   replace q275 := eq_true q275
                   have p276 : 0 ≤ (x5_3 : Int) := of_decide_eq_true qA
                   have q276 : x5_3 < (l0_4.length : Int) := of_decide_eq_true qA
                   obtain ⟨ad276, A276_0, c276_0, e276, hx276_0, hl276_0, hi276_0⟩ := at_LIns HR0_4.out x5_3 p276 q276
                   have hw276_0 := hx276_0
                   obtain rfl : ad273 = ad276 := (by injection e276)
                   replace hx276_0 := (HB.out.cell (World.block_lt_of_cell? w _ hx276_0)).trans hx276_0
                   have HR276_0 := Aside0.mk hi276_0
                   have HC276_0 := Aside0.mk hl276_0
                   clear hi276_0 hl276_0
                   replace p276 := eq_true p276
                   replace q276 := eq_true q276
                   have ea_ := Option.some.inj (hx274_0.symm.trans hx276_0)
                   injection ea_ with ea_ en_ ec_
                   subst ea_
                   subst ec_
                   clear en_
                   refine start_ (n := 20) (S := fun w' => w'.cell? ⟨gb266, 0, none⟩ = some (.string a0_0) ∧ w'.cell? ⟨gb266, 1, none⟩ = some (.int .i64 a0_1) ∧ w'.cell? ⟨gb266, 2, none⟩ = some (.int .i64 a0_2) ∧ w'.cell? ⟨gb266, 3, none⟩ = some (.int .i64 a0_3) ∧ w'.cell? ⟨gb266, 4, none⟩ = some (.slice (some ad273) l0_4.length c0_4) ∧ w'.cell? (ad273.add (x5_3).toNat) = some (.slice (some ad275) (rd_LIns l0_4 x5_3).length c274_0) ∧ w'.cell? (ad275.add ((x6_4).toNat * 6)) = some (.int .i64 ((rd_TIns (rd_LIns l0_4 x5_3) x6_4).f0)) ∧ w'.cell? ⟨(ad275.add ((x6_4).toNat * 6)).block, (ad275.add ((x6_4).toNat * 6)).off + 1, none⟩ = some (.int .i64 ((rd_TIns (rd_LIns l0_4 x5_3) x6_4).f1)) ∧ w'.cell? ⟨(ad275.add ((x6_4).toNat * 6)).block, (ad275.add ((x6_4).toNat * 6)).off + 2, none⟩ = some (.int .i64 ((rd_TIns (rd_LIns l0_4 x5_3) x6_4).f2)) ∧ w'.cell? ⟨(ad275.add ((x6_4).toNat * 6)).block, (ad275.add ((x6_4).toNat * 6)).off + 3, none⟩ = some (.int .i64 ((rd_TIns (rd_LIns l0_4 x5_3) x6_4).f3)) ∧ w'.cell? ⟨(ad275.add ((x6_4).toNat * 6)).block, (ad275.add ((x6_4).toNat * 6)).off + 4, none⟩ = some (.string ((rd_TIns (rd_LIns l0_4 x5_3) x6_4).f4)) ∧ w'.cell? ⟨(ad275.add ((x6_4).toNat * 6)).block, (ad275.add ((x6_4).toNat * 6)).off + 5, none⟩ = some (.slice A275_5 ((rd_TIns (rd_LIns l0_4 x5_3) x6_4).f5).length c275_5) ∧ w'.cell? (ad273.add (x5_3).toNat) = some (.slice (some ad275) (rd_LIns l0_4 x5_3).length c274_0)) (ds := []) (bA 20 0) (by kernel_rfl) rfl rfl ⟨(blk_cell BK266.out 0).trans rfl, (blk_cell BK266.out 1).trans rfl, (blk_cell BK266.out 2).trans rfl, (blk_cell BK266.out 3).trans rfl, (blk_cell BK266.out 4).trans rfl, ((HB.out.cell (World.block_lt_of_cell? w _ hw274_0)).trans hw274_0), ((HB.out.cell (World.block_lt_of_cell? w _ hw275_0)).trans hw275_0), ((HB.out.cell (World.block_lt_of_cell? w _ hw275_1)).trans hw275_1), ((HB.out.cell (World.block_lt_of_cell? w _ hw275_2)).trans hw275_2), ((HB.out.cell (World.block_lt_of_cell? w _ hw275_3)).trans hw275_3), ((HB.out.cell (World.block_lt_of_cell? w _ hw275_4)).trans hw275_4), ((HB.out.cell (World.block_lt_of_cell? w _ hw275_5)).trans hw275_5), ((HB.out.cell (World.block_lt_of_cell? w _ hw276_0)).trans hw276_0)⟩ (fun hHeld => ?_); refine with_tabW cubbyref13_Check.tab20 cubbyref13_Check.bits20 (fun HT_ HW_ => ?_)
                   generalize wr.drew = w40 at BK266 HB HR274_0 HR275_5 HR276_0 hx274_0 hx275_0 hx275_1 hx275_2 hx275_3 hx275_4 hx275_5 hx276_0 hHeld ⊢
                   refine pu_ (i := 0) (N := some 94) (bA 20 1) ?_
                   refine pu_ (i := 2) (N := some 96) (bA 20 5) ?_
                   refine pu_ (i := 5) (N := some 99) (bA 20 37) ?_
                   refine pu_ (i := 9) (N := some 103) (bA 20 549) ?_
                   refine pu_ (i := 10) (N := some 104) (bA 20 1573) ?_
                   refine pu_ (i := 12) (N := some 106) (bA 20 5669) ?_
                   refine tk_ (i := 1) (N := some 95) (bA 20 5671) ?_
                   refine pu_ (i := 3) (N := some 97) (bA 20 5679) ?_
                   refine tk_ (i := 4) (N := some 98) (bA 20 5695) ?_
                   refine pu_ (i := 6) (N := some 100) (bA 20 5759) ?_
                   refine tk_ (i := 7) (N := some 101) (bA 20 5887) ?_
                   refine tk_ (i := 8) (N := some 102) (bA 20 6143) ?_
                   refine tk_ (i := 11) (N := some 105) (bA 20 8191) ?_
                   refine pu_ (i := 13) (N := some 107) (bA 20 16383) ?_
                   refine tk_ (i := 14) (N := some 108) (bA 20 32767) ?_
                   refine pu_ (i := 15) (N := some 109) (bA 20 65535) ?_
                   refine pu_ (i := 16) (N := some 110) (bA 20 131071) ?_
                   refine pu_ (i := 17) (N := some 111) (bA 20 262143) ?_
                   refine one_ (i := 18) (N := some 112) (bA 20 524287) rfl rfl (one_of HT_.out (by kernel_rfl)) (by decide) (fun K hK => ?_)
                   refine goes_ Tryd.func25 (by kernel_rfl) rfl #[.agg #[.int .i64 ((rd_TIns (rd_LIns l0_4 x5_3) x6_4).f0), .int .i64 ((rd_TIns (rd_LIns l0_4 x5_3) x6_4).f1), .int .i64 ((rd_TIns (rd_LIns l0_4 x5_3) x6_4).f2), .int .i64 ((rd_TIns (rd_LIns l0_4 x5_3) x6_4).f3), .string ((rd_TIns (rd_LIns l0_4 x5_3) x6_4).f4), .slice A275_5 ((rd_TIns (rd_LIns l0_4 x5_3) x6_4).f5).length c275_5], .agg #[.string a0_0, .int .i64 a0_1, .int .i64 a0_2, .int .i64 a0_3, .slice (some ad273) l0_4.length c0_4], .bool (x6_4 == (wrap64 (((rd_LIns l0_4 x5_3).length : Int) - 1)))] (by rfl) rfl rfl qL ?_
                   with_reducible refine (cubbyref13_one.calls k4 ((rd_TIns (rd_LIns l0_4 x5_3) x6_4).f0) ((rd_TIns (rd_LIns l0_4 x5_3) x6_4).f1) ((rd_TIns (rd_LIns l0_4 x5_3) x6_4).f2) ((rd_TIns (rd_LIns l0_4 x5_3) x6_4).f3) ((rd_TIns (rd_LIns l0_4 x5_3) x6_4).f4) _ _ ((rd_TIns (rd_LIns l0_4 x5_3) x6_4).f5) a0_0 a0_1 a0_2 a0_3 _ _ l0_4 (x6_4 == (wrap64 (((rd_LIns l0_4 x5_3).length : Int) - 1))) t277 _ ?side1 ?side2 ?side3 ?side4 A37.out).mono ?_
                   (case side1 => exact qCB HR275_5.out)
                   (case side2 => exact HC275_5.out)
                   (case side3 => exact qCB HR0_4.out)
                   (case side4 => exact HC0_4.out)
                   rintro e w41 ⟨rfl, hb⟩
                   refine ⟨_, rfl, ?_⟩
                   have n0_ := qW BK266 hb
                   have n1_ := qH hb
                   clear BK266
                   clear HB
                   have BK266 := n0_
                   have HB := n1_
                   clear n0_ n1_
                   (try clear hb)
                   (try clear hb2)
                   (try clear hk)
                   (try clear hi)
                   refine hK.out _ _ ⟨(blk_cell BK266.out 0).trans rfl, (blk_cell BK266.out 1).trans rfl, (blk_cell BK266.out 2).trans rfl, (blk_cell BK266.out 3).trans rfl, (blk_cell BK266.out 4).trans rfl, ((HB.out.cell (World.block_lt_of_cell? w _ hw274_0)).trans hw274_0), ((HB.out.cell (World.block_lt_of_cell? w _ hw275_0)).trans hw275_0), ((HB.out.cell (World.block_lt_of_cell? w _ hw275_1)).trans hw275_1), ((HB.out.cell (World.block_lt_of_cell? w _ hw275_2)).trans hw275_2), ((HB.out.cell (World.block_lt_of_cell? w _ hw275_3)).trans hw275_3), ((HB.out.cell (World.block_lt_of_cell? w _ hw275_4)).trans hw275_4), ((HB.out.cell (World.block_lt_of_cell? w _ hw275_5)).trans hw275_5), ((HB.out.cell (World.block_lt_of_cell? w _ hw276_0)).trans hw276_0)⟩ (fun hHeld => ?_)
                   clear hK K
                   refine norm_ (a' := ?_) ?_ ?_
                   rotate_left
                   ·show Act.put _ (some 112) _ = _
                    simp only [Act.put, List.setIfInBounds_toArray, List.set_cons_zero, List.set_cons_succ, i64_w, i32_w]
                    rfl
                   refine pu_ (i := 19) (N := some 7) (bA 20 1048575) ?_
                   refine done_ (done_of HT_.out (by kernel_rfl)) ?_
                   try go_wp2
                   go_roundg k4
                   case measure => have := HJ3.out; have := HK2.out; have := HK3.out; have := HK4.out; omega
                   case rel => exact ⟨(wrap64 (x6_4 + 1)), qT, H', ⟨by have := HJ3.out; have := HK2.out; have := HK3.out; have := HK4.out; omega⟩, ⟨qK BK266.out⟩, ⟨qB⟩⟩
                  ·rw [if_neg c38] at H
                   obtain ⟨c38b0, c38b1⟩ := qn c38
                   obtain rfl := Option.some.inj H
                   have z42_0 := bk5 BK266.out
                   have p273 : 0 ≤ (x5_3 : Int) := of_decide_eq_true qA
                   have q273 : x5_3 < (l0_4.length : Int) := of_decide_eq_true qA
                   obtain ⟨ad273, A273_0, c273_0, e273, hx273_0, hl273_0, hi273_0⟩ := at_LIns HR0_4.out x5_3 p273 q273
                   cases e273
                   replace hx273_0 := (HB.out.cell (World.block_lt_of_cell? w _ hx273_0)).trans hx273_0
                   have HR273_0 := Aside0.mk hi273_0
                   have HC273_0 := Aside0.mk hl273_0
                   clear hi273_0 hl273_0
                   replace p273 := eq_true p273
                   replace q273 := eq_true q273
                   try go_wp2
                   have n0_ := Aside0.mk (blk_drew BK266.out)
                   have n1_ := Aside0.mk (below_drew1 HB.out)
                   clear BK266
                   clear HB
                   have BK266 := n0_
                   have HB := n1_
                   clear n0_ n1_
                   have p274 : 0 ≤ (x5_3 : Int) := of_decide_eq_true qA
                   have q274 : x5_3 < (l0_4.length : Int) := of_decide_eq_true qA
                   obtain ⟨ad274, A274_0, c274_0, e274, hx274_0, hl274_0, hi274_0⟩ := at_LIns HR0_4.out x5_3 p274 q274
                   have hw274_0 := hx274_0
                   obtain rfl : ad273 = ad274 := (by injection e274)
                   replace hx274_0 := (HB.out.cell (World.block_lt_of_cell? w _ hx274_0)).trans hx274_0
                   have HR274_0 := Aside0.mk hi274_0
                   have HC274_0 := Aside0.mk hl274_0
                   clear hi274_0 hl274_0
                   replace p274 := eq_true p274
                   replace q274 := eq_true q274
                   have p275 : 0 ≤ (x6_4 : Int) := of_decide_eq_true qA
                   have q275 : x6_4 < ((rd_LIns l0_4 x5_3).length : Int) := of_decide_eq_true qA
                   obtain ⟨ad275, A275_5, c275_5, e275, hx275_0, hx275_1, hx275_2, hx275_3, hx275_4, hx275_5, hl275_5, hi275_5⟩ := at_TIns HR274_0.out x6_4 p275 q275
                   have hw275_5 := hx275_5
                   have hw275_4 := hx275_4
                   have hw275_3 := hx275_3
                   have hw275_2 := hx275_2
                   have hw275_1 := hx275_1
                   have hw275_0 := hx275_0
                   cases e275
                   replace hx275_0 := (HB.out.cell (World.block_lt_of_cell? w _ hx275_0)).trans hx275_0
                   replace hx275_1 := (HB.out.cell (World.block_lt_of_cell? w _ hx275_1)).trans hx275_1
                   replace hx275_2 := (HB.out.cell (World.block_lt_of_cell? w _ hx275_2)).trans hx275_2
                   replace hx275_3 := (HB.out.cell (World.block_lt_of_cell? w _ hx275_3)).trans hx275_3
                   replace hx275_4 := (HB.out.cell (World.block_lt_of_cell? w _ hx275_4)).trans hx275_4
                   replace hx275_5 := (HB.out.cell (World.block_lt_of_cell? w _ hx275_5)).trans hx275_5
                   have HR275_5 := Aside0.mk hi275_5
                   have HC275_5 := Aside0.mk hl275_5
                   clear hi275_5 hl275_5
                   replace p275 := eq_true p275
                   replace q275 := eq_true q275
                   have p276 : 0 ≤ (x5_3 : Int) := of_decide_eq_true qA
                   have q276 : x5_3 < (l0_4.length : Int) := of_decide_eq_true qA
                   obtain ⟨ad276, A276_0, c276_0, e276, hx276_0, hl276_0, hi276_0⟩ := at_LIns HR0_4.out x5_3 p276 q276
                   have hw276_0 := hx276_0
                   obtain rfl : ad273 = ad276 := (by injection e276)
                   replace hx276_0 := (HB.out.cell (World.block_lt_of_cell? w _ hx276_0)).trans hx276_0
                   have HR276_0 := Aside0.mk hi276_0
                   have HC276_0 := Aside0.mk hl276_0
                   clear hi276_0 hl276_0
                   replace p276 := eq_true p276
                   replace q276 := eq_true q276
                   have ea_ := Option.some.inj (hx274_0.symm.trans hx276_0)
                   injection ea_ with ea_ en_ ec_
                   subst ea_
                   subst ec_
                   clear en_
                   refine start_ (n := 20) (S := fun w' => w'.cell? ⟨gb266, 0, none⟩ = some (.string a0_0) ∧ w'.cell? ⟨gb266, 1, none⟩ = some (.int .i64 a0_1) ∧ w'.cell? ⟨gb266, 2, none⟩ = some (.int .i64 a0_2) ∧ w'.cell? ⟨gb266, 3, none⟩ = some (.int .i64 a0_3) ∧ w'.cell? ⟨gb266, 4, none⟩ = some (.slice (some ad273) l0_4.length c0_4) ∧ w'.cell? (ad273.add (x5_3).toNat) = some (.slice (some ad275) (rd_LIns l0_4 x5_3).length c274_0) ∧ w'.cell? (ad275.add ((x6_4).toNat * 6)) = some (.int .i64 ((rd_TIns (rd_LIns l0_4 x5_3) x6_4).f0)) ∧ w'.cell? ⟨(ad275.add ((x6_4).toNat * 6)).block, (ad275.add ((x6_4).toNat * 6)).off + 1, none⟩ = some (.int .i64 ((rd_TIns (rd_LIns l0_4 x5_3) x6_4).f1)) ∧ w'.cell? ⟨(ad275.add ((x6_4).toNat * 6)).block, (ad275.add ((x6_4).toNat * 6)).off + 2, none⟩ = some (.int .i64 ((rd_TIns (rd_LIns l0_4 x5_3) x6_4).f2)) ∧ w'.cell? ⟨(ad275.add ((x6_4).toNat * 6)).block, (ad275.add ((x6_4).toNat * 6)).off + 3, none⟩ = some (.int .i64 ((rd_TIns (rd_LIns l0_4 x5_3) x6_4).f3)) ∧ w'.cell? ⟨(ad275.add ((x6_4).toNat * 6)).block, (ad275.add ((x6_4).toNat * 6)).off + 4, none⟩ = some (.string ((rd_TIns (rd_LIns l0_4 x5_3) x6_4).f4)) ∧ w'.cell? ⟨(ad275.add ((x6_4).toNat * 6)).block, (ad275.add ((x6_4).toNat * 6)).off + 5, none⟩ = some (.slice A275_5 ((rd_TIns (rd_LIns l0_4 x5_3) x6_4).f5).length c275_5) ∧ w'.cell? (ad273.add (x5_3).toNat) = some (.slice (some ad275) (rd_LIns l0_4 x5_3).length c274_0)) (ds := []) (bA 20 0) (by kernel_rfl) rfl rfl ⟨(blk_cell BK266.out 0).trans rfl, (blk_cell BK266.out 1).trans rfl, (blk_cell BK266.out 2).trans rfl, (blk_cell BK266.out 3).trans rfl, (blk_cell BK266.out 4).trans rfl, ((HB.out.cell (World.block_lt_of_cell? w _ hw274_0)).trans hw274_0), ((HB.out.cell (World.block_lt_of_cell? w _ hw275_0)).trans hw275_0), ((HB.out.cell (World.block_lt_of_cell? w _ hw275_1)).trans hw275_1), ((HB.out.cell (World.block_lt_of_cell? w _ hw275_2)).trans hw275_2), ((HB.out.cell (World.block_lt_of_cell? w _ hw275_3)).trans hw275_3), ((HB.out.cell (World.block_lt_of_cell? w _ hw275_4)).trans hw275_4), ((HB.out.cell (World.block_lt_of_cell? w _ hw275_5)).trans hw275_5), ((HB.out.cell (World.block_lt_of_cell? w _ hw276_0)).trans hw276_0)⟩ (fun hHeld => ?_); refine with_tabW cubbyref13_Check.tab20 cubbyref13_Check.bits20 (fun HT_ HW_ => ?_)
                   generalize wr.drew = w43 at BK266 HB HR274_0 HR275_5 HR276_0 hx274_0 hx275_0 hx275_1 hx275_2 hx275_3 hx275_4 hx275_5 hx276_0 hHeld ⊢
                   refine pu_ (i := 0) (N := some 94) (bA 20 1) ?_
                   refine pu_ (i := 2) (N := some 96) (bA 20 5) ?_
                   refine pu_ (i := 5) (N := some 99) (bA 20 37) ?_
                   refine pu_ (i := 9) (N := some 103) (bA 20 549) ?_
                   refine pu_ (i := 10) (N := some 104) (bA 20 1573) ?_
                   refine pu_ (i := 12) (N := some 106) (bA 20 5669) ?_
                   refine tk_ (i := 1) (N := some 95) (bA 20 5671) ?_
                   refine pu_ (i := 3) (N := some 97) (bA 20 5679) ?_
                   refine tk_ (i := 4) (N := some 98) (bA 20 5695) ?_
                   refine pu_ (i := 6) (N := some 100) (bA 20 5759) ?_
                   refine tk_ (i := 7) (N := some 101) (bA 20 5887) ?_
                   refine tk_ (i := 8) (N := some 102) (bA 20 6143) ?_
                   refine tk_ (i := 11) (N := some 105) (bA 20 8191) ?_
                   refine pu_ (i := 13) (N := some 107) (bA 20 16383) ?_
                   refine tk_ (i := 14) (N := some 108) (bA 20 32767) ?_
                   refine pu_ (i := 15) (N := some 109) (bA 20 65535) ?_
                   refine pu_ (i := 16) (N := some 110) (bA 20 131071) ?_
                   refine pu_ (i := 17) (N := some 111) (bA 20 262143) ?_
                   refine one_ (i := 18) (N := some 112) (bA 20 524287) rfl rfl (one_of HT_.out (by kernel_rfl)) (by decide) (fun K hK => ?_)
                   refine goes_ Tryd.func25 (by kernel_rfl) rfl #[.agg #[.int .i64 ((rd_TIns (rd_LIns l0_4 x5_3) x6_4).f0), .int .i64 ((rd_TIns (rd_LIns l0_4 x5_3) x6_4).f1), .int .i64 ((rd_TIns (rd_LIns l0_4 x5_3) x6_4).f2), .int .i64 ((rd_TIns (rd_LIns l0_4 x5_3) x6_4).f3), .string ((rd_TIns (rd_LIns l0_4 x5_3) x6_4).f4), .slice A275_5 ((rd_TIns (rd_LIns l0_4 x5_3) x6_4).f5).length c275_5], .agg #[.string a0_0, .int .i64 a0_1, .int .i64 a0_2, .int .i64 a0_3, .slice (some ad273) l0_4.length c0_4], .bool (x6_4 == (wrap64 (((rd_LIns l0_4 x5_3).length : Int) - 1)))] (by rfl) rfl rfl qL ?_
                   with_reducible refine (cubbyref13_one.calls k4 ((rd_TIns (rd_LIns l0_4 x5_3) x6_4).f0) ((rd_TIns (rd_LIns l0_4 x5_3) x6_4).f1) ((rd_TIns (rd_LIns l0_4 x5_3) x6_4).f2) ((rd_TIns (rd_LIns l0_4 x5_3) x6_4).f3) ((rd_TIns (rd_LIns l0_4 x5_3) x6_4).f4) _ _ ((rd_TIns (rd_LIns l0_4 x5_3) x6_4).f5) a0_0 a0_1 a0_2 a0_3 _ _ l0_4 (x6_4 == (wrap64 (((rd_LIns l0_4 x5_3).length : Int) - 1))) t277 _ ?side1 ?side2 ?side3 ?side4 A37.out).mono ?_
                   (case side1 => exact qCB HR275_5.out)
                   (case side2 => exact HC275_5.out)
                   (case side3 => exact qCB HR0_4.out)
                   (case side4 => exact HC0_4.out)
                   rintro e w44 ⟨rfl, hb⟩
                   refine ⟨_, rfl, ?_⟩
                   have n0_ := qW BK266 hb
                   have n1_ := qH hb
                   clear BK266
                   clear HB
                   have BK266 := n0_
                   have HB := n1_
                   clear n0_ n1_
                   (try clear hb)
                   (try clear hb2)
                   (try clear hk)
                   (try clear hi)
                   refine hK.out _ _ ⟨(blk_cell BK266.out 0).trans rfl, (blk_cell BK266.out 1).trans rfl, (blk_cell BK266.out 2).trans rfl, (blk_cell BK266.out 3).trans rfl, (blk_cell BK266.out 4).trans rfl, ((HB.out.cell (World.block_lt_of_cell? w _ hw274_0)).trans hw274_0), ((HB.out.cell (World.block_lt_of_cell? w _ hw275_0)).trans hw275_0), ((HB.out.cell (World.block_lt_of_cell? w _ hw275_1)).trans hw275_1), ((HB.out.cell (World.block_lt_of_cell? w _ hw275_2)).trans hw275_2), ((HB.out.cell (World.block_lt_of_cell? w _ hw275_3)).trans hw275_3), ((HB.out.cell (World.block_lt_of_cell? w _ hw275_4)).trans hw275_4), ((HB.out.cell (World.block_lt_of_cell? w _ hw275_5)).trans hw275_5), ((HB.out.cell (World.block_lt_of_cell? w _ hw276_0)).trans hw276_0)⟩ (fun hHeld => ?_)
                   clear hK K
                   refine norm_ (a' := ?_) ?_ ?_
                   rotate_left
                   ·show Act.put _ (some 112) _ = _
                    simp only [Act.put, List.setIfInBounds_toArray, List.set_cons_zero, List.set_cons_succ, i64_w, i32_w]
                    rfl
                   refine pu_ (i := 19) (N := some 7) (bA 20 1048575) ?_
                   refine done_ (done_of HT_.out (by kernel_rfl)) ?_
                   try go_wp2
                   go_ret
                   exact ⟨qE, qB⟩
                 ·rw [if_neg c36] at H
                  exact absurd H (by simp)
                ·rw [if_neg c35] at H
                 have c35b0 := decide_eq_false c35
                 clear c35
                 have H' := Aside0.mk H
                 clear H
                 have z45_0 := bk5 BK266.out
                 have p273 : 0 ≤ (x5_3 : Int) := of_decide_eq_true qA
                 have q273 : x5_3 < (l0_4.length : Int) := of_decide_eq_true qA
                 obtain ⟨ad273, A273_0, c273_0, e273, hx273_0, hl273_0, hi273_0⟩ := at_LIns HR0_4.out x5_3 p273 q273
                 cases e273
                 replace hx273_0 := (HB.out.cell (World.block_lt_of_cell? w _ hx273_0)).trans hx273_0
                 have HR273_0 := Aside0.mk hi273_0
                 have HC273_0 := Aside0.mk hl273_0
                 clear hi273_0 hl273_0
                 replace p273 := eq_true p273
                 replace q273 := eq_true q273
                 go_wp2
                 go_roundg k4
                 case measure => have := HJ3.out; have := HK2.out; have := HK3.out; have := HK4.out; omega
                 case rel => exact ⟨(wrap64 (x5_3 + 1)), qT, H', ⟨by have := HJ3.out; have := HK2.out; have := HK3.out; have := HK4.out; omega⟩, ⟨qK BK266.out⟩, ⟨qB⟩⟩
               ·rw [if_neg c34] at H
                exact absurd H (by simp)
              ·rw [if_neg c33] at H
               exact absurd H (by simp)
           ·rw [if_neg c31] at H
            have c31b0 := decide_eq_false c31
            clear c31
            obtain rfl := Option.some.inj H
            have z46_0 := bk5 BK266.out
            go_wp2
            go_ret
            exact ⟨qE, qB⟩
 ·replace c3 := Bool.eq_false_iff.mpr c3
  subst c3
  have H1 : (some 70) = some r := by rw [if_neg (show ¬ (false = true) by decide)] at H; exact H
  clear H
  have H := H1
  clear H1
  obtain rfl := Option.some.inj H
  go_enter Tryd.func11, Tryd.ntmps11
  go_wp2_with (first | ((with_reducible refine gate_dst (N := 1) rfl ?_); (try (refine gate_guard (by rfl) ?_; dsimp only)); refine box_event (by rfl) (N := 1) (by rfl) (cs := #[.string a0_0, .int .i64 a0_1, .int .i64 a0_2, .int .i64 a0_3, .slice A0_4 l0_4.length c0_4]) (t := 24) ?hr ?_; (case hr => first | (go_simp; done) | (go_simp; rfl)); intro gb266 hg w47 hbox hb; have BK266 := Aside0.mk (hbox); have GW266 := qG hg; have GE266 := GW266; replace HB := qH hb; clear hb hbox hg; have z48_0 := bk5 BK266.out) | ((with_reducible refine gate_callee (f := 16) rfl ?_); refine goesL_ (some 10) rfl rfl Tryd.func16 (by kernel_rfl) rfl #[.string a0_0] rfl qL ?_; (with_reducible refine (cubbyref07_Name.calls k a0_0 false _ A2.out).mono ?_); rintro e w' ⟨rfl, ⟨nd, rfl⟩⟩; refine ⟨_, rfl, ?_⟩))
  go_ret
  exact ⟨qE, qB⟩

end Go.Proofs.YtbipipbfiekbgaaDoor.Q
