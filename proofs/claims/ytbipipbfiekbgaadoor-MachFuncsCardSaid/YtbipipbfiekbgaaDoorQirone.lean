/- Lean functions that answer as the Go functions named below do, and the proofs of that. Written by a program out of the translation. -/
import Derived.Test.YtbipipbfiekbgaaDoorQ0
import Derived.Test.YtbipipbfiekbgaaDoorSq
import Derived.Test.YtbipipbfiekbgaaDoorClo
import Derived.Test.YtbipipbfiekbgaaDoorLaid
import Derived.Test.YtbipipbfiekbgaaDoorQirLast
import Derived.Test.YtbipipbfiekbgaaDoorQirName
import Derived.Test.YtbipipbfiekbgaaDoorQirTargets
namespace Go.Proofs.YtbipipbfiekbgaaDoor.Q
open Go.RowKit Go.Proofs.YtbipipbfiekbgaaDoorW.PrintWords Go.Proofs.YtbipipbfiekbgaaDoorW.PrintLast Go.Proofs.YtbipipbfiekbgaaDoorW.PrintMore
attribute [local go_sem] max2_int min2_int max_two min_two max_three min_three max_four min_four   -- for this text's walks alone
set_option linter.unusedVariables false
set_option linter.unusedSimpArgs false

/-! ### ir_one: function 33 -/
mutual
def ir_one.j0 : Nat → ByteArray → Bool → ByteArray → Int → Int → List (List (SIns)) → Int → Int → Int → Int → ByteArray → List Int → Option (Int)
 | 0, _, _, _, _, _, _, _, _, _, _, _, _ => none
 | k + 1, x7, x45, x118000, x118001, x118002, x118003, x119000, x119001, x119002, x119003, x119004, x119005 => if x45 = true then (some 72) else ((some (([x119001, x119002, x119003] : List Int) : List Int)).bind fun y121 => (ir_one.l0 k x7 y121 y121 (y121.length : Int) 0 x118000 x118001 x118002 x118003 x119000 x119001 x119002 x119003 x119004 x119005))
def ir_one.l0 : Nat → ByteArray → List Int → List Int → Int → Int → ByteArray → Int → Int → List (List (SIns)) → Int → Int → Int → Int → ByteArray → List Int → Option (Int)
 | 0, _, _, _, _, _, _, _, _, _, _, _, _, _, _, _ => none
 | k + 1, x7, x8, x53, x54, x55, x118000, x118001, x118002, x118003, x119000, x119001, x119002, x119003, x119004, x119005 => if x55 < x54 then (if 0 ≤ x55 then (if x55 < (x53.length : Int) then (if x55 < (x7.size : Int) then (if (bt x7 x55) = 32 then (if (rd x53 x55) = 0 then (ir_one.l0 k x7 x8 x53 x54 (wrap64 (x55 + 1)) x118000 x118001 x118002 x118003 x119000 x119001 x119002 x119003 x119004 x119005) else (some 72)) else (ir_one.l0 k x7 x8 x53 x54 (wrap64 (x55 + 1)) x118000 x118001 x118002 x118003 x119000 x119001 x119002 x119003 x119004 x119005)) else (none)) else (none)) else (none)) else (ir_one.l1 k x7 x8 x8 (x8.length : Int) 0 x118000 x118001 x118002 x118003 x119000 x119001 x119002 x119003 x119004 x119005)
def ir_one.l1 : Nat → ByteArray → List Int → List Int → Int → Int → ByteArray → Int → Int → List (List (SIns)) → Int → Int → Int → Int → ByteArray → List Int → Option (Int)
 | 0, _, _, _, _, _, _, _, _, _, _, _, _, _, _, _ => none
 | k + 1, x7, x8, x70, x71, x72, x118000, x118001, x118002, x118003, x119000, x119001, x119002, x119003, x119004, x119005 => if x72 < x71 then (if 0 ≤ x72 then (if x72 < (x70.length : Int) then (if x72 < (x7.size : Int) then (if (bt x7 x72) = 114 then ((ir_one_1.f (rd x70 x72) x118000 x118001 x118002 x118003).bind fun t126 => (if t126 = true then (some 73) else (ir_one.l1 k x7 x8 x70 x71 (wrap64 (x72 + 1)) x118000 x118001 x118002 x118003 x119000 x119001 x119002 x119003 x119004 x119005))) else (ir_one.l1 k x7 x8 x70 x71 (wrap64 (x72 + 1)) x118000 x118001 x118002 x118003 x119000 x119001 x119002 x119003 x119004 x119005)) else (none)) else (none)) else (none)) else ((slices_ContainsFunc_int_int.f x119005 x118000 x118001 x118002 x118003).bind fun t127 => (if t127 = true then (some 73) else (ir_one.l2 k x7 x8 (x8.length : Int) 0 x118000 x118001 x118002 x118003 x119000 x119001 x119002 x119003 x119004 x119005)))
def ir_one.l2 : Nat → ByteArray → List Int → Int → Int → ByteArray → Int → Int → List (List (SIns)) → Int → Int → Int → Int → ByteArray → List Int → Option (Int)
 | 0, _, _, _, _, _, _, _, _, _, _, _, _, _, _ => none
 | k + 1, x7, x91, x92, x93, x118000, x118001, x118002, x118003, x119000, x119001, x119002, x119003, x119004, x119005 => if x93 < x92 then (if 0 ≤ x93 then (if x93 < (x91.length : Int) then (if x93 < (x7.size : Int) then (if (bt x7 x93) = 110 then (if (rd x91 x93) < 0 then (some 81) else (if (rd x91 x93) ≥ 65536 then (some 81) else (ir_one.l2 k x7 x91 x92 (wrap64 (x93 + 1)) x118000 x118001 x118002 x118003 x119000 x119001 x119002 x119003 x119004 x119005))) else (ir_one.l2 k x7 x91 x92 (wrap64 (x93 + 1)) x118000 x118001 x118002 x118003 x119000 x119001 x119002 x119003 x119004 x119005)) else (none)) else (none)) else (none)) else ((ir_Targets.f x119000 x119001 x119002 x119003 x119004 x119005).bind fun t129 => (ir_one.l3 k t129 (t129.length : Int) 0 x118000 x118001 x118002 x118003 x119000 x119001 x119002 x119003 x119004 x119005))
def ir_one.l3 : Nat → List Int → Int → Int → ByteArray → Int → Int → List (List (SIns)) → Int → Int → Int → Int → ByteArray → List Int → Option (Int)
 | 0, _, _, _, _, _, _, _, _, _, _, _, _, _ => none
 | k + 1, x112, x113, x114, x118000, x118001, x118002, x118003, x119000, x119001, x119002, x119003, x119004, x119005 => if x114 < x113 then (if 0 ≤ x114 then (if x114 < (x112.length : Int) then (if (rd x112 x114) < 0 then (some 74) else (if (rd x112 x114) ≥ (x118003.length : Int) then (some 74) else (ir_one.l3 k x112 x113 (wrap64 (x114 + 1)) x118000 x118001 x118002 x118003 x119000 x119001 x119002 x119003 x119004 x119005))) else (none)) else (none)) else (if x119000 = 11 then ((ir_Name.f x119004).bind fun t133 => (ir_one.j5 k (!t133) x119000 x119001 x119002 x119003 x119004 x119005)) else (ir_one.j5 k false x119000 x119001 x119002 x119003 x119004 x119005))
def ir_one.j5 : Nat → Bool → Int → Int → Int → Int → ByteArray → List Int → Option (Int)
 | 0, _, _, _, _, _, _, _ => none
 | k + 1, x128, x119000, x119001, x119002, x119003, x119004, x119005 => if x128 = true then (some 70) else (if (x119005.length : Int) > 4 then (some 192) else (some 0))
end
def ir_one.f (k : Nat) (a0_0 : ByteArray) (a0_1 : Int) (a0_2 : Int) (l0_3 : List (List (SIns))) (a1_0 : Int) (a1_1 : Int) (a1_2 : Int) (a1_3 : Int) (a1_4 : ByteArray) (l1_5 : List Int) (a2 : Bool) : Option (Int) := (ir_shape.f a1_0).bind fun t119 => (if t119.toList = ([] : List UInt8) then (ir_one.j0 k t119 true a0_0 a0_1 a0_2 l0_3 a1_0 a1_1 a1_2 a1_3 a1_4 l1_5) else ((ir_Last.f a1_0).bind fun t120 => (if (t120 != a2) = true then (ir_one.j0 k t119 true a0_0 a0_1 a0_2 l0_3 a1_0 a1_1 a1_2 a1_3 a1_4 l1_5) else (if a1_0 = 11 then (ir_one.j0 k t119 false a0_0 a0_1 a0_2 l0_3 a1_0 a1_1 a1_2 a1_3 a1_4 l1_5) else (if a1_4.toList = ([] : List UInt8) then (ir_one.j0 k t119 (decide ((l1_5.length : Int) > 0)) a0_0 a0_1 a0_2 l0_3 a1_0 a1_1 a1_2 a1_3 a1_4 l1_5) else (ir_one.j0 k t119 true a0_0 a0_1 a0_2 l0_3 a1_0 a1_1 a1_2 a1_3 a1_4 l1_5))))))
theorem ir_one.mono_l : ∀ k, (∀ y0 y1 y2 y3 y4 y5 y6 y7 y8 y9 y10 y11, LeO (ir_one.j0 k y0 y1 y2 y3 y4 y5 y6 y7 y8 y9 y10 y11) (ir_one.j0 (k + 1) y0 y1 y2 y3 y4 y5 y6 y7 y8 y9 y10 y11)) ∧ (∀ y0 y1 y2 y3 y4 y5 y6 y7 y8 y9 y10 y11 y12 y13 y14, LeO (ir_one.l0 k y0 y1 y2 y3 y4 y5 y6 y7 y8 y9 y10 y11 y12 y13 y14) (ir_one.l0 (k + 1) y0 y1 y2 y3 y4 y5 y6 y7 y8 y9 y10 y11 y12 y13 y14)) ∧ (∀ y0 y1 y2 y3 y4 y5 y6 y7 y8 y9 y10 y11 y12 y13 y14, LeO (ir_one.l1 k y0 y1 y2 y3 y4 y5 y6 y7 y8 y9 y10 y11 y12 y13 y14) (ir_one.l1 (k + 1) y0 y1 y2 y3 y4 y5 y6 y7 y8 y9 y10 y11 y12 y13 y14)) ∧ (∀ y0 y1 y2 y3 y4 y5 y6 y7 y8 y9 y10 y11 y12 y13, LeO (ir_one.l2 k y0 y1 y2 y3 y4 y5 y6 y7 y8 y9 y10 y11 y12 y13) (ir_one.l2 (k + 1) y0 y1 y2 y3 y4 y5 y6 y7 y8 y9 y10 y11 y12 y13)) ∧ (∀ y0 y1 y2 y3 y4 y5 y6 y7 y8 y9 y10 y11 y12, LeO (ir_one.l3 k y0 y1 y2 y3 y4 y5 y6 y7 y8 y9 y10 y11 y12) (ir_one.l3 (k + 1) y0 y1 y2 y3 y4 y5 y6 y7 y8 y9 y10 y11 y12)) ∧ (∀ y0 y1 y2 y3 y4 y5 y6, LeO (ir_one.j5 k y0 y1 y2 y3 y4 y5 y6) (ir_one.j5 (k + 1) y0 y1 y2 y3 y4 y5 y6))
 | 0 => ⟨fun _ _ _ _ _ _ _ _ _ _ _ _ r h => by simp [ir_one.j0] at h, fun _ _ _ _ _ _ _ _ _ _ _ _ _ _ _ r h => by simp [ir_one.l0] at h, fun _ _ _ _ _ _ _ _ _ _ _ _ _ _ _ r h => by simp [ir_one.l1] at h, fun _ _ _ _ _ _ _ _ _ _ _ _ _ _ r h => by simp [ir_one.l2] at h, fun _ _ _ _ _ _ _ _ _ _ _ _ _ r h => by simp [ir_one.l3] at h, fun _ _ _ _ _ _ _ r h => by simp [ir_one.j5] at h⟩
 | k + 1 => by
  obtain ⟨ih0, ih1, ih2, ih3, ih4, ih5⟩ := ir_one.mono_l k
  refine ⟨?_, ?_, ?_, ?_, ?_, ?_⟩ <;> intros <;> (first | unfold ir_one.j0 | unfold ir_one.l0 | unfold ir_one.l1 | unfold ir_one.l2 | unfold ir_one.l3 | unfold ir_one.j5) <;> repeat' first | (with_reducible exact ih0 _ _ _ _ _ _ _ _ _ _ _ _) | (with_reducible exact ih1 _ _ _ _ _ _ _ _ _ _ _ _ _ _ _) | (with_reducible exact ih2 _ _ _ _ _ _ _ _ _ _ _ _ _ _ _) | (with_reducible exact ih3 _ _ _ _ _ _ _ _ _ _ _ _ _ _) | (with_reducible exact ih4 _ _ _ _ _ _ _ _ _ _ _ _ _) | (with_reducible exact ih5 _ _ _ _ _ _ _) | (with_reducible exact LeO.refl _) | (with_reducible exact LeO.none _) | (with_reducible refine LeO.ite ?_ ?_) | (with_reducible refine LeO.bind ?_ (fun _ => ?_)) | exact LeO.none _ | refine LeO.ite ?_ ?_ | refine LeO.bind ?_ (fun _ => ?_)
theorem ir_one.mono : ∀ a0 a1 a2 a3 a4 a5 a6 a7 a8 a9 a10 k, LeO (ir_one.f k a0 a1 a2 a3 a4 a5 a6 a7 a8 a9 a10) (ir_one.f (k + 1) a0 a1 a2 a3 a4 a5 a6 a7 a8 a9 a10) := by
 intro a0 a1 a2 a3 a4 a5 a6 a7 a8 a9 a10 k
 obtain ⟨ih0, ih1, ih2, ih3, ih4, ih5⟩ := ir_one.mono_l k
 unfold ir_one.f
 repeat' first | (with_reducible exact ih0 _ _ _ _ _ _ _ _ _ _ _ _) | (with_reducible exact ih1 _ _ _ _ _ _ _ _ _ _ _ _ _ _ _) | (with_reducible exact ih2 _ _ _ _ _ _ _ _ _ _ _ _ _ _ _) | (with_reducible exact ih3 _ _ _ _ _ _ _ _ _ _ _ _ _ _) | (with_reducible exact ih4 _ _ _ _ _ _ _ _ _ _ _ _ _) | (with_reducible exact ih5 _ _ _ _ _ _ _) | (with_reducible exact LeO.refl _) | (with_reducible exact LeO.none _) | (with_reducible refine LeO.ite ?_ ?_) | (with_reducible refine LeO.bind ?_ (fun _ => ?_)) | exact LeO.none _ | refine LeO.ite ?_ ?_ | refine LeO.bind ?_ (fun _ => ?_)
set_option maxHeartbeats 8000000 in
set_option maxRecDepth 100000 in
theorem ir_one.calls (k : Nat) (a0_0 : ByteArray) (a0_1 : Int) (a0_2 : Int) (A0_3 : Option Addr) (c0_3 : Nat) (l0_3 : List (List (SIns))) (a1_0 : Int) (a1_1 : Int) (a1_2 : Int) (a1_3 : Int) (a1_4 : ByteArray) (A1_5 : Option Addr) (c1_5 : Nat) (l1_5 : List Int) (a2 : Bool) (r : Int) (w : World) (hL : LaidW w) (hr0_3 : Kd.C (Kd.slice 31 kIns) w A0_3 l0_3.length l0_3) (hc0_3 : l0_3.length ≤ c0_3) (hr1_5 : Kd.C (Kd.int .i64) w A1_5 l1_5.length l1_5) (hc1_5 : l1_5.length ≤ c1_5) (h : ir_one.f k a0_0 a0_1 a0_2 l0_3 a1_0 a1_1 a1_2 a1_3 a1_4 l1_5 a2 = some r) :
  Calls Tryd.prog 33 #[.agg #[.string a0_0, .int .i64 a0_1, .int .i64 a0_2, .slice A0_3 l0_3.length c0_3], .agg #[.int .i64 a1_0, .int .i64 a1_1, .int .i64 a1_2, .int .i64 a1_3, .string a1_4, .slice A1_5 l1_5.length c1_5], .bool a2] w fun e w' => e = .returned (.int .i64 r) ∧ Below w.heap.size w w' := by
 have hu34 := Tryd.underlying34
 have hu31 := Tryd.underlying31
 have HR0_3 := Aside0.mk hr0_3
 have HC0_3 := Aside0.mk hc0_3
 clear hr0_3 hc0_3
 have HR1_5 := Aside0.mk hr1_5
 have HC1_5 := Aside0.mk hc1_5
 clear hr1_5 hc1_5
 have HB := Aside0.mk (Below.refl w.heap.size w)
 have HLd := Aside0.mk hL
 clear hL
 have H := h; clear h; unfold ir_one.f at H
 replace H := qb H; obtain ⟨t119, A4, H⟩ := H
 have HC5 := Aside0.mk H
 clear H
 go_enter Tryd.func33, Tryd.ntmps33
 go_upto_region 2 with (first | ((with_reducible refine gate_dst (N := 3) rfl ?_); (try (refine gate_guard (by rfl) ?_; dsimp only)); refine box_event (by rfl) (N := 3) (by rfl) (cs := #[.string a0_0, .int .i64 a0_1, .int .i64 a0_2, .slice A0_3 l0_3.length c0_3]) (t := 34) ?hr ?_; (case hr => first | (go_simp; done) | (go_simp; rfl)); intro gb117 hg w6 hbox hb; have BK117 := Aside0.mk (hbox); have GW117 := qG hg; have GE117 := GW117; replace HB := qH hb; clear hb hbox hg) | ((with_reducible refine gate_dst (N := 4) rfl ?_); (try (refine gate_guard (by rfl) ?_; dsimp only)); refine box_event (by rfl) (N := 4) (by rfl) (cs := #[.int .i64 a1_0, .int .i64 a1_1, .int .i64 a1_2, .int .i64 a1_3, .string a1_4, .slice A1_5 l1_5.length c1_5]) (t := 31) ?hr ?_; (case hr => first | (go_simp; done) | (go_simp; rfl)); intro gb118 hg w7 hbox hb; have BK118 := Aside0.mk (hbox); have GW118 := qG hg; have GE118 := GW118; replace HB := qH hb; have NB117_118 := Aside0.mk ((by rw [hg]; exact Nat.ne_of_lt (blk_lt (g := gb117) (o := .cells #[.string a0_0, .int .i64 a0_1, .int .i64 a0_2, .slice A0_3 l0_3.length c0_3] 34 (0, 0)) (qK BK117.out)) : gb117 ≠ gb118)); have NB118_117 := Aside0.mk ((by rw [hg]; exact Nat.ne_of_gt (blk_lt (g := gb117) (o := .cells #[.string a0_0, .int .i64 a0_1, .int .i64 a0_2, .slice A0_3 l0_3.length c0_3] 34 (0, 0)) (qK BK117.out)) : gb118 ≠ gb117)); replace BK117 := qW BK117 hb; clear hb hbox hg; have hnb8 := NB118_117.out; have hnc8 := NB117_118.out; have z9_0 := bk6 BK118.out) | ((with_reducible refine gate_callee (f := 42) rfl ?_); refine goesL_ (some 20) rfl rfl Tryd.func42 (by kernel_rfl) rfl #[.int .i64 a1_0] rfl qL ?_; (with_reducible refine (ir_shape.calls a1_0 t119 _ A4.out (hL := ?side99)).mono ?_); (case side99 => exact LaidW.below HLd.out qB); rintro e w' ⟨rfl, ⟨nd, rfl⟩⟩; refine ⟨_, rfl, ?_⟩))
 (try simp only [Act.put, List.setIfInBounds_toArray, List.set_cons_zero, List.set_cons_succ])
 go_cut [45] (fun v45 wc => ∃ (kq : Nat) (x45_4 : Bool), v45 = .bool x45_4 ∧ Aside0 (ir_one.j0 kq t119 x45_4 a0_0 a0_1 a0_2 l0_3 a1_0 a1_1 a1_2 a1_3 a1_4 l1_5 = some r) ∧ Aside0 (kq ≤ k) ∧ Aside0 (wc.heap[gb117]? = some (.cells #[.string a0_0, .int .i64 a0_1, .int .i64 a0_2, (.slice A0_3 l0_3.length c0_3)] 34 (0, 0))) ∧ Aside0 (wc.heap[gb118]? = some (.cells #[.int .i64 a1_0, .int .i64 a1_1, .int .i64 a1_2, .int .i64 a1_3, .string a1_4, (.slice A1_5 l1_5.length c1_5)] 31 (0, 0))) ∧ Aside0 (Below w.heap.size w wc))
 case first =>
  have H := HC5.out
  clear HC5
  by_cases c10 : t119.toList = ([] : List UInt8)
  ·rw [if_pos c10] at H
   obtain ⟨c10b0, c10b1⟩ := qe c10; clear c10
   (first | rw [c10b0] | (simp only [i64_w, i32_w]; rw [c10b0]) | skip)
   have H' := Aside0.mk H
   clear H
   go_wp2
   go_meet
   case rel => exact ⟨_, (true), qT, H', ⟨qO⟩, ⟨qK BK117.out⟩, ⟨qK BK118.out⟩, ⟨qB⟩⟩
  ·rw [if_neg c10] at H
   obtain ⟨c10b0, c10b1⟩ := qn c10
   (first | rw [c10b0] | (simp only [i64_w, i32_w]; rw [c10b0]) | skip)
   replace H := qb H; obtain ⟨t120, A11, H⟩ := H
   by_cases c12 : (t120 != a2) = true
   ·rw [if_pos c12] at H
    have c12b0 : (t120 != a2) = true := c12
    (try (have c12b1 : decide (t120 = a2) = false := by simpa using c12))
    (try (have c12b2 : (t120 == a2) = false := by simpa using c12))
    (try (have c12b3 : ¬ (t120 = a2) := by simpa using c12))
    clear c12
    have H' := Aside0.mk H
    clear H
    have hnb13 := NB118_117.out
    have hnc13 := NB117_118.out
    have z14_0 := bk6 BK118.out
    go_wp2_with (first | (go_at_call 45; (with_reducible refine (ir_Last.calls a1_0 t120 _ A11.out).mono ?_); (try clear A11); rintro e w' ⟨rfl, ⟨nd, rfl⟩⟩))
    go_meet
    case rel => exact ⟨_, (true), qT, H', ⟨qO⟩, ⟨qK BK117.out⟩, ⟨qK BK118.out⟩, ⟨qB⟩⟩
   ·rw [if_neg c12] at H
    have c12b0 : (t120 != a2) = false := by simpa using c12
    (try (have c12b1 : decide (t120 = a2) = true := by simpa using c12))
    (try (have c12b2 : (t120 == a2) = true := by simpa using c12))
    clear c12
    by_cases c15 : a1_0 = 11
    ·rw [if_pos c15] at H
     obtain ⟨c15b0, c15b1⟩ := qe c15; clear c15
     have H' := Aside0.mk H
     clear H
     have hnb16 := NB118_117.out
     have hnc16 := NB117_118.out
     have z17_0 := bk6 BK118.out
     go_wp2_with (first | (go_at_call 45; (with_reducible refine (ir_Last.calls a1_0 t120 _ A11.out).mono ?_); (try clear A11); rintro e w' ⟨rfl, ⟨nd, rfl⟩⟩))
     go_meet
     case rel => exact ⟨_, (false), qT, H', ⟨qO⟩, ⟨qK BK117.out⟩, ⟨qK BK118.out⟩, ⟨qB⟩⟩
    ·rw [if_neg c15] at H
     obtain ⟨c15b0, c15b1⟩ := qn c15
     by_cases c18 : a1_4.toList = ([] : List UInt8)
     ·rw [if_pos c18] at H
      obtain ⟨c18b0, c18b1⟩ := qe c18; clear c18
      have H' := Aside0.mk H
      clear H
      have hnb19 := NB118_117.out
      have hnc19 := NB117_118.out
      have z20_0 := bk6 BK118.out
      go_wp2_with (first | (go_at_call 45; (with_reducible refine (ir_Last.calls a1_0 t120 _ A11.out).mono ?_); (try clear A11); rintro e w' ⟨rfl, ⟨nd, rfl⟩⟩))
      go_meet
      case rel => exact ⟨_, (decide ((l1_5.length : Int) > 0)), qT, H', ⟨qO⟩, ⟨qK BK117.out⟩, ⟨qK BK118.out⟩, ⟨qB⟩⟩
     ·rw [if_neg c18] at H
      obtain ⟨c18b0, c18b1⟩ := qn c18
      have H' := Aside0.mk H
      clear H
      have hnb21 := NB118_117.out
      have hnc21 := NB117_118.out
      have z22_0 := bk6 BK118.out
      go_wp2_with (first | (go_at_call 45; (with_reducible refine (ir_Last.calls a1_0 t120 _ A11.out).mono ?_); (try clear A11); rintro e w' ⟨rfl, ⟨nd, rfl⟩⟩))
      go_meet
      case rel => exact ⟨_, (true), qT, H', ⟨qO⟩, ⟨qK BK117.out⟩, ⟨qK BK118.out⟩, ⟨qB⟩⟩
 case rest =>
  clear HC5
  try clear c1; try clear c2; try clear p2; try clear c3; try clear c4; try clear c8; try clear c10; try clear c10b0 c10b1; try clear c12; try clear c12b0 c12b1 c12b2; try clear c13; try clear c15; try clear c15b0 c15b1; try clear c16; try clear c18; try clear c18b0 c18b1; try clear c19; try clear c21; try clear z14_0; try clear z17_0; try clear z20_0; try clear z22_0; try clear z9_0
  obtain ⟨kq, x45_4, rfl, HA, HJ4, BK117, BK118, HB⟩ := hcut
  cases kq with
  | zero => exact absurd HA.out (by simp [ir_one.j0])
  | succ kj4 =>
   have H := HA.out
   clear HA
   simp only [ir_one.j0] at H
   by_cases c23 : x45_4 = true
   ·subst c23
    have H1 : (some 72) = some r := by rw [if_pos rfl] at H; exact H
    clear H
    have H := H1
    clear H1
    obtain rfl := Option.some.inj H
    go_wp2
    go_ret
    exact ⟨qE, qB⟩
   ·replace c23 := Bool.eq_false_iff.mpr c23
    subst c23
    have H1 : ((some (([a1_1, a1_2, a1_3] : List Int) : List Int)).bind fun y121 => (ir_one.l0 kj4 t119 y121 y121 (y121.length : Int) 0 a0_0 a0_1 a0_2 l0_3 a1_0 a1_1 a1_2 a1_3 a1_4 l1_5)) = some r := by rw [if_neg (show ¬ (false = true) by decide)] at H; exact H
    clear H
    have H := H1
    clear H1
    obtain ⟨y121, hy121⟩ : ∃ y_ : List Int, y_ = (([a1_1, a1_2, a1_3] : List Int)) := ⟨_, rfl⟩
    replace H : (ir_one.l0 kj4 t119 y121 y121 (y121.length : Int) 0 a0_0 a0_1 a0_2 l0_3 a1_0 a1_1 a1_2 a1_3 a1_4 l1_5) = some r := by first | (rw [hy121]; with_reducible exact H) | (have H2_ := (Option.bind_some _ _).symm.trans H; rw [hy121]; with_reducible exact H2_) | (have H2_ := (Option.bind_some _ _).symm.trans H; with_reducible exact H2_) | with_reducible exact H | (rw [hy121]; exact H) | exact H
    have Ny121 := Aside0.mk hy121
    clear hy121
    have H' := Aside0.mk H
    clear H
    have hnb24 := NB118_117.out
    have hnc24 := NB117_118.out
    have z25_0 := bk6 BK118.out
    go_wp2_with (first | ((with_reducible refine gate_dst (N := 52) rfl ?_); (try (refine gate_guard (by rfl) ?_; dsimp only)); refine Kd.R_lit (Kd.int .i64) _ 3 (by rfl) (N := 52) (by rfl) (xs := ([a1_1, a1_2, a1_3] : List Int)) (inner := [.int .i64 a1_1, .int .i64 a1_2, .int .i64 a1_3]) (ok := fun _ => True) (okp := fun _ => True) ?hr ?hp (fun _ hk => hk) trivial (Below.refl _ _) (Nat.le_refl _) (by simp) ?_; (case hr => first | (go_simp; done) | (go_simp; rfl)); (case hp => exact (Reps.one (show Kd.M (Kd.int .i64) _ _ _ a1_1 [.int .i64 a1_1] from rfl) (Reps.one (show Kd.M (Kd.int .i64) _ _ _ a1_2 [.int .i64 a1_2] from rfl) (Reps.one (show Kd.M (Kd.int .i64) _ _ _ a1_3 [.int .i64 a1_3] from rfl) (Reps.none _ _))))); intro v122 w26 ho27 hb hg_ hnew_; clear hg_ hnew_; (first | rw [← Ny121.out] at ho27 | (simp only [Int.reduceToNat] at ho27; rw [← Ny121.out] at ho27)); have HO123 := Aside0.mk (Kd.R_lower ho27 (below_size qB)); replace BK117 := qW BK117 hb; replace BK118 := qW BK118 hb; replace HB := qH hb; clear hb ho27; obtain ⟨Ao28, co28, eo28⟩ := Kd.R_slice HO123.out; subst eo28))
    go_loopg [55] kj4 (fun kq v55 w' => ∃ (x55_2 : Int), v55 = .int .i64 x55_2 ∧ Aside0 (ir_one.l0 kq t119 y121 y121 (y121.length : Int) x55_2 a0_0 a0_1 a0_2 l0_3 a1_0 a1_1 a1_2 a1_3 a1_4 l1_5 = some r) ∧ Aside0 (kq ≤ kj4) ∧ Aside0 (Kd.R (Kd.int .i64) 3 w' w.heap.size (fun _ => True) (.slice Ao28 y121.length co28) y121) ∧ Aside0 (Kd.R (Kd.int .i64) 3 w' w.heap.size (fun _ => True) (.slice Ao28 y121.length co28) y121) ∧ Aside0 (w'.heap[gb117]? = some (.cells #[.string a0_0, .int .i64 a0_1, .int .i64 a0_2, (.slice A0_3 l0_3.length c0_3)] 34 (0, 0))) ∧ Aside0 (w'.heap[gb118]? = some (.cells #[.int .i64 a1_0, .int .i64 a1_1, .int .i64 a1_2, .int .i64 a1_3, .string a1_4, (.slice A1_5 l1_5.length c1_5)] 31 (0, 0))) ∧ Aside0 (Below w.heap.size w w'))
    case atStart => exact ⟨(0), qT, H', ⟨Nat.le_refl _⟩, ⟨qR HO123.out⟩, ⟨qR HO123.out⟩, ⟨qK BK117.out⟩, ⟨qK BK118.out⟩, ⟨qB⟩⟩
    case round =>
     clear H'
     try clear c1; try clear c2; try clear p2; try clear c3; try clear c4; try clear c8; try clear c10; try clear c10b0 c10b1; try clear c12; try clear c12b0 c12b1 c12b2; try clear c13; try clear c15; try clear c15b0 c15b1; try clear c16; try clear c18; try clear c18b0 c18b1; try clear c19; try clear c21; try clear c23; try clear c24; try clear z14_0; try clear z17_0; try clear z20_0; try clear z22_0; try clear z25_0; try clear z9_0
     obtain ⟨x55_2, rfl, HA, HK2, HO_8, HO_53, BK117, BK118, HB⟩ := hrel
     cases gk with
     | zero => exact absurd HA.out (by simp [ir_one.l0])
     | succ k2 =>
      have H := HA.out
      clear HA
      simp only [ir_one.l0] at H
      by_cases c29 : x55_2 < (y121.length : Int)
      ·rw [if_pos c29] at H
       have c29b0 := decide_eq_true c29
       clear c29
       by_cases c30 : 0 ≤ x55_2
       ·rw [if_pos c30] at H
        have c30b0 := decide_eq_true c30
        clear c30
        by_cases c31 : x55_2 < (y121.length : Int)
        ·rw [if_pos c31] at H
         have c31b0 := decide_eq_true c31
         clear c31
         by_cases c32 : x55_2 < (t119.size : Int)
         ·rw [if_pos c32] at H
          have c32b0 := decide_eq_true c32
          clear c32
          by_cases c34 : (bt t119 x55_2) = 32
          ·rw [if_pos c34] at H
           obtain ⟨c34b0, c34b1⟩ := qe c34; clear c34
           by_cases c35 : (rd y121 x55_2) = 0
           ·rw [if_pos c35] at H
            obtain ⟨c35b0, c35b1⟩ := qe c35; clear c35
            have H' := Aside0.mk H
            clear H
            have p124 : 0 ≤ (x55_2 : Int) := of_decide_eq_true qA
            have q124 : x55_2 < (y121.length : Int) := of_decide_eq_true qA
            obtain ⟨ad124, e124, hx124_0⟩ := Kd.at_int (Kd.R_reads' HO_53.out).2.2 x55_2 p124 q124
            cases e124
            replace p124 := eq_true p124
            replace q124 := eq_true q124
            have p33 : 0 ≤ (x55_2 : Int) := of_decide_eq_true qA
            have q33 : x55_2 < (t119.size : Int) := of_decide_eq_true qA
            have hx33 := bt_at t119 x55_2
            replace p33 := eq_true p33
            replace q33 := eq_true q33
            go_wp2
            go_roundg k2
            case measure => have := HJ4.out; have := HK2.out; omega
            case rel => exact ⟨(wrap64 (x55_2 + 1)), qT, H', ⟨by have := HJ4.out; have := HK2.out; omega⟩, ⟨qR HO_8.out⟩, ⟨qR HO_53.out⟩, ⟨qK BK117.out⟩, ⟨qK BK118.out⟩, ⟨qB⟩⟩
           ·rw [if_neg c35] at H
            obtain ⟨c35b0, c35b1⟩ := qn c35
            obtain rfl := Option.some.inj H
            have p124 : 0 ≤ (x55_2 : Int) := of_decide_eq_true qA
            have q124 : x55_2 < (y121.length : Int) := of_decide_eq_true qA
            obtain ⟨ad124, e124, hx124_0⟩ := Kd.at_int (Kd.R_reads' HO_53.out).2.2 x55_2 p124 q124
            cases e124
            replace p124 := eq_true p124
            replace q124 := eq_true q124
            have p33 : 0 ≤ (x55_2 : Int) := of_decide_eq_true qA
            have q33 : x55_2 < (t119.size : Int) := of_decide_eq_true qA
            have hx33 := bt_at t119 x55_2
            replace p33 := eq_true p33
            replace q33 := eq_true q33
            go_wp2
            go_ret
            exact ⟨qE, qB⟩
          ·rw [if_neg c34] at H
           obtain ⟨c34b0, c34b1⟩ := qn c34
           have H' := Aside0.mk H
           clear H
           have p124 : 0 ≤ (x55_2 : Int) := of_decide_eq_true qA
           have q124 : x55_2 < (y121.length : Int) := of_decide_eq_true qA
           obtain ⟨ad124, e124, hx124_0⟩ := Kd.at_int (Kd.R_reads' HO_53.out).2.2 x55_2 p124 q124
           cases e124
           replace p124 := eq_true p124
           replace q124 := eq_true q124
           have p33 : 0 ≤ (x55_2 : Int) := of_decide_eq_true qA
           have q33 : x55_2 < (t119.size : Int) := of_decide_eq_true qA
           have hx33 := bt_at t119 x55_2
           replace p33 := eq_true p33
           replace q33 := eq_true q33
           go_wp2
           go_roundg k2
           case measure => have := HJ4.out; have := HK2.out; omega
           case rel => exact ⟨(wrap64 (x55_2 + 1)), qT, H', ⟨by have := HJ4.out; have := HK2.out; omega⟩, ⟨qR HO_8.out⟩, ⟨qR HO_53.out⟩, ⟨qK BK117.out⟩, ⟨qK BK118.out⟩, ⟨qB⟩⟩
         ·rw [if_neg c32] at H
          exact absurd H (by simp)
        ·rw [if_neg c31] at H
         exact absurd H (by simp)
       ·rw [if_neg c30] at H
        exact absurd H (by simp)
      ·rw [if_neg c29] at H
       have c29b0 := decide_eq_false c29
       clear c29
       have H' := Aside0.mk H
       clear H
       go_wp2
       go_loopg [72] k2 (fun kq v72 w' => ∃ (x72_3 : Int), v72 = .int .i64 x72_3 ∧ Aside0 (ir_one.l1 kq t119 y121 y121 (y121.length : Int) x72_3 a0_0 a0_1 a0_2 l0_3 a1_0 a1_1 a1_2 a1_3 a1_4 l1_5 = some r) ∧ Aside0 (kq ≤ k2) ∧ Aside0 (Kd.R (Kd.int .i64) 3 w' w.heap.size (fun _ => True) (.slice Ao28 y121.length co28) y121) ∧ Aside0 (Kd.R (Kd.int .i64) 3 w' w.heap.size (fun _ => True) (.slice Ao28 y121.length co28) y121) ∧ Aside0 (w'.heap[gb117]? = some (.cells #[.string a0_0, .int .i64 a0_1, .int .i64 a0_2, (.slice A0_3 l0_3.length c0_3)] 34 (0, 0))) ∧ Aside0 (w'.heap[gb118]? = some (.cells #[.int .i64 a1_0, .int .i64 a1_1, .int .i64 a1_2, .int .i64 a1_3, .string a1_4, (.slice A1_5 l1_5.length c1_5)] 31 (0, 0))) ∧ Aside0 (Below w.heap.size w w'))
       case atStart => exact ⟨(0), qT, H', ⟨Nat.le_refl _⟩, ⟨qR HO_8.out⟩, ⟨qR HO_8.out⟩, ⟨qK BK117.out⟩, ⟨qK BK118.out⟩, ⟨qB⟩⟩
       case round =>
        clear H'
        try clear c1; try clear p1; try clear q1; try clear hx1; try clear c2; try clear p2; try clear c3; try clear p3; try clear q3; try clear hx3; try clear c4; try clear p6; try clear c8; try clear c10; try clear c10b0 c10b1; try clear c12; try clear c12b0 c12b1 c12b2; try clear p12; try clear q12; try clear hx12; try clear c13; try clear c15; try clear c15b0 c15b1; try clear c16; try clear c18; try clear c18b0 c18b1; try clear c19; try clear c21; try clear c23; try clear c24; try clear c29b0; try clear c30; try clear c30b0; try clear c31; try clear c31b0; try clear c32; try clear c32b0; try clear c33; try clear p33; try clear q33; try clear hx33; try clear c34; try clear c34b0 c34b1; try clear c35; try clear c35b0 c35b1; try clear z14_0; try clear z17_0; try clear z20_0; try clear z22_0; try clear z25_0; try clear z9_0; try clear hx124_0; try clear p124; try clear q124
        obtain ⟨x72_3, rfl, HA, HK3, HO_8, HO_70, BK117, BK118, HB⟩ := hrel
        cases gk with
        | zero => exact absurd HA.out (by simp [ir_one.l1])
        | succ k3 =>
         have H := HA.out
         clear HA
         simp only [ir_one.l1] at H
         by_cases c36 : x72_3 < (y121.length : Int)
         ·rw [if_pos c36] at H
          have c36b0 := decide_eq_true c36
          clear c36
          by_cases c37 : 0 ≤ x72_3
          ·rw [if_pos c37] at H
           have c37b0 := decide_eq_true c37
           clear c37
           by_cases c38 : x72_3 < (y121.length : Int)
           ·rw [if_pos c38] at H
            have c38b0 := decide_eq_true c38
            clear c38
            by_cases c39 : x72_3 < (t119.size : Int)
            ·rw [if_pos c39] at H
             have c39b0 := decide_eq_true c39
             clear c39
             by_cases c41 : (bt t119 x72_3) = 114
             ·rw [if_pos c41] at H
              obtain ⟨c41b0, c41b1⟩ := qe c41; clear c41
              replace H := qb H; obtain ⟨t126, A42, H⟩ := H
              by_cases c43 : t126 = true
              ·subst c43
               have H1 : (some 73) = some r := by rw [if_pos rfl] at H; exact H
               clear H
               have H := H1
               clear H1
               obtain rfl := Option.some.inj H
               have p125 : 0 ≤ (x72_3 : Int) := of_decide_eq_true qA
               have q125 : x72_3 < (y121.length : Int) := of_decide_eq_true qA
               obtain ⟨ad125, e125, hx125_0⟩ := Kd.at_int (Kd.R_reads' HO_70.out).2.2 x72_3 p125 q125
               cases e125
               replace p125 := eq_true p125
               replace q125 := eq_true q125
               have p40 : 0 ≤ (x72_3 : Int) := of_decide_eq_true qA
               have q40 : x72_3 < (t119.size : Int) := of_decide_eq_true qA
               have hx40 := bt_at t119 x72_3
               replace p40 := eq_true p40
               replace q40 := eq_true q40
               have hnb44 := NB117_118.out
               have hnc44 := NB118_117.out
               have z45_0 := bk4 BK117.out
               go_wp2_with (first | (go_at_call 46; (refine (ir_one_1.calls (rd y121 x72_3) a0_0 a0_1 a0_2 (A0_3) (c0_3) l0_3 true _ ?side1 ?side2 A42.out (hbk := ?side98) (gb_ := gb117)).mono ?_); (case side1 => repeat (first | exact (Kd.C_below HR0_3.out HB.out) | (refine Kd.C_alloc ?_ _) | (refine Kd.C_drewN ?_ _) | (refine Kd.C_drew ?_))); (case side2 => exact HC0_3.out); (case side98 => exact qK BK117.out); (try clear A42); rintro e w46 ⟨rfl, hb⟩; replace HO_8 := Aside0.mk (Kd.R_below (qR HO_8.out) hb); replace HO_70 := Aside0.mk (Kd.R_below (qR HO_70.out) hb); replace BK117 := qW BK117 hb; replace BK118 := qW BK118 hb; replace HB := qH hb; (try clear hb)))
               go_ret
               exact ⟨qE, qB⟩
              ·replace c43 := Bool.eq_false_iff.mpr c43
               subst c43
               have H1 : (ir_one.l1 k3 t119 y121 y121 (y121.length : Int) (wrap64 (x72_3 + 1)) a0_0 a0_1 a0_2 l0_3 a1_0 a1_1 a1_2 a1_3 a1_4 l1_5) = some r := by rw [if_neg (show ¬ (false = true) by decide)] at H; exact H
               clear H
               have H := H1
               clear H1
               have H' := Aside0.mk H
               clear H
               have p125 : 0 ≤ (x72_3 : Int) := of_decide_eq_true qA
               have q125 : x72_3 < (y121.length : Int) := of_decide_eq_true qA
               obtain ⟨ad125, e125, hx125_0⟩ := Kd.at_int (Kd.R_reads' HO_70.out).2.2 x72_3 p125 q125
               cases e125
               replace p125 := eq_true p125
               replace q125 := eq_true q125
               have p40 : 0 ≤ (x72_3 : Int) := of_decide_eq_true qA
               have q40 : x72_3 < (t119.size : Int) := of_decide_eq_true qA
               have hx40 := bt_at t119 x72_3
               replace p40 := eq_true p40
               replace q40 := eq_true q40
               have hnb47 := NB117_118.out
               have hnc47 := NB118_117.out
               have z48_0 := bk4 BK117.out
               go_wp2_with (first | (go_at_call 46; (refine (ir_one_1.calls (rd y121 x72_3) a0_0 a0_1 a0_2 (A0_3) (c0_3) l0_3 false _ ?side1 ?side2 A42.out (hbk := ?side98) (gb_ := gb117)).mono ?_); (case side1 => repeat (first | exact (Kd.C_below HR0_3.out HB.out) | (refine Kd.C_alloc ?_ _) | (refine Kd.C_drewN ?_ _) | (refine Kd.C_drew ?_))); (case side2 => exact HC0_3.out); (case side98 => exact qK BK117.out); (try clear A42); rintro e w49 ⟨rfl, hb⟩; replace HO_8 := Aside0.mk (Kd.R_below (qR HO_8.out) hb); replace HO_70 := Aside0.mk (Kd.R_below (qR HO_70.out) hb); replace BK117 := qW BK117 hb; replace BK118 := qW BK118 hb; replace HB := qH hb; (try clear hb)))
               go_roundg k3
               case measure => have := HJ4.out; have := HK2.out; have := HK3.out; omega
               case rel => exact ⟨(wrap64 (x72_3 + 1)), qT, H', ⟨by have := HJ4.out; have := HK2.out; have := HK3.out; omega⟩, ⟨qR HO_8.out⟩, ⟨qR HO_70.out⟩, ⟨qK BK117.out⟩, ⟨qK BK118.out⟩, ⟨qB⟩⟩
             ·rw [if_neg c41] at H
              obtain ⟨c41b0, c41b1⟩ := qn c41
              have H' := Aside0.mk H
              clear H
              have p125 : 0 ≤ (x72_3 : Int) := of_decide_eq_true qA
              have q125 : x72_3 < (y121.length : Int) := of_decide_eq_true qA
              obtain ⟨ad125, e125, hx125_0⟩ := Kd.at_int (Kd.R_reads' HO_70.out).2.2 x72_3 p125 q125
              cases e125
              replace p125 := eq_true p125
              replace q125 := eq_true q125
              have p40 : 0 ≤ (x72_3 : Int) := of_decide_eq_true qA
              have q40 : x72_3 < (t119.size : Int) := of_decide_eq_true qA
              have hx40 := bt_at t119 x72_3
              replace p40 := eq_true p40
              replace q40 := eq_true q40
              go_wp2
              go_roundg k3
              case measure => have := HJ4.out; have := HK2.out; have := HK3.out; omega
              case rel => exact ⟨(wrap64 (x72_3 + 1)), qT, H', ⟨by have := HJ4.out; have := HK2.out; have := HK3.out; omega⟩, ⟨qR HO_8.out⟩, ⟨qR HO_70.out⟩, ⟨qK BK117.out⟩, ⟨qK BK118.out⟩, ⟨qB⟩⟩
            ·rw [if_neg c39] at H
             exact absurd H (by simp)
           ·rw [if_neg c38] at H
            exact absurd H (by simp)
          ·rw [if_neg c37] at H
           exact absurd H (by simp)
         ·rw [if_neg c36] at H
          have c36b0 := decide_eq_false c36
          clear c36
          replace H := qb H; obtain ⟨t127, A50, H⟩ := H
          by_cases c51 : t127 = true
          ·subst c51
           have H1 : (some 73) = some r := by rw [if_pos rfl] at H; exact H
           clear H
           have H := H1
           clear H1
           obtain rfl := Option.some.inj H
           have hnb52 := NB118_117.out
           have hnc52 := NB117_118.out
           have z53_0 := bk6 BK118.out
           have z54_0 := bk4 BK117.out
           go_wp2_with (first | ((with_reducible refine gate_callee (f := 47) rfl ?_); refine goesL_ (some 90) rfl rfl Tryd.func47 (by kernel_rfl) rfl #[.slice A1_5 l1_5.length c1_5, .func (.func 46) #[] #[.pointer (some ⟨gb117, 0, none⟩)]] rfl qL ?_; (refine (slices_ContainsFunc_int_int.calls (A1_5) (c1_5) l1_5 a0_0 a0_1 a0_2 (A0_3) (c0_3) l0_3 true _ ?side1 ?side2 ?side3 ?side4 A50.out (hbk := ?side98) (gb_ := gb117)).mono ?_); (case side1 => repeat (first | exact (Kd.C_below HR1_5.out HB.out) | (refine Kd.C_alloc ?_ _) | (refine Kd.C_drewN ?_ _) | (refine Kd.C_drew ?_))); (case side2 => exact HC1_5.out); (case side3 => repeat (first | exact (Kd.C_below HR0_3.out HB.out) | (refine Kd.C_alloc ?_ _) | (refine Kd.C_drewN ?_ _) | (refine Kd.C_drew ?_))); (case side4 => exact HC0_3.out); (case side98 => exact qK BK117.out); rintro e w55 ⟨rfl, hb⟩; refine ⟨_, rfl, ?_⟩; replace HO_8 := Aside0.mk (Kd.R_below (qR HO_8.out) hb); replace HO_70 := Aside0.mk (Kd.R_below (qR HO_70.out) hb); replace BK117 := qW BK117 hb; replace BK118 := qW BK118 hb; replace HB := qH hb; (try clear hb)))
           go_ret
           exact ⟨qE, qB⟩
          ·replace c51 := Bool.eq_false_iff.mpr c51
           subst c51
           have H1 : (ir_one.l2 k3 t119 y121 (y121.length : Int) 0 a0_0 a0_1 a0_2 l0_3 a1_0 a1_1 a1_2 a1_3 a1_4 l1_5) = some r := by rw [if_neg (show ¬ (false = true) by decide)] at H; exact H
           clear H
           have H := H1
           clear H1
           have H' := Aside0.mk H
           clear H
           have hnb56 := NB118_117.out
           have hnc56 := NB117_118.out
           have z57_0 := bk6 BK118.out
           have z58_0 := bk4 BK117.out
           go_wp2_with (first | ((with_reducible refine gate_callee (f := 47) rfl ?_); refine goesL_ (some 90) rfl rfl Tryd.func47 (by kernel_rfl) rfl #[.slice A1_5 l1_5.length c1_5, .func (.func 46) #[] #[.pointer (some ⟨gb117, 0, none⟩)]] rfl qL ?_; (refine (slices_ContainsFunc_int_int.calls (A1_5) (c1_5) l1_5 a0_0 a0_1 a0_2 (A0_3) (c0_3) l0_3 false _ ?side1 ?side2 ?side3 ?side4 A50.out (hbk := ?side98) (gb_ := gb117)).mono ?_); (case side1 => repeat (first | exact (Kd.C_below HR1_5.out HB.out) | (refine Kd.C_alloc ?_ _) | (refine Kd.C_drewN ?_ _) | (refine Kd.C_drew ?_))); (case side2 => exact HC1_5.out); (case side3 => repeat (first | exact (Kd.C_below HR0_3.out HB.out) | (refine Kd.C_alloc ?_ _) | (refine Kd.C_drewN ?_ _) | (refine Kd.C_drew ?_))); (case side4 => exact HC0_3.out); (case side98 => exact qK BK117.out); rintro e w59 ⟨rfl, hb⟩; refine ⟨_, rfl, ?_⟩; replace HO_8 := Aside0.mk (Kd.R_below (qR HO_8.out) hb); replace HO_70 := Aside0.mk (Kd.R_below (qR HO_70.out) hb); replace BK117 := qW BK117 hb; replace BK118 := qW BK118 hb; replace HB := qH hb; (try clear hb)))
           go_loopg [93] k3 (fun kq v93 w' => ∃ (x93_4 : Int), v93 = .int .i64 x93_4 ∧ Aside0 (ir_one.l2 kq t119 y121 (y121.length : Int) x93_4 a0_0 a0_1 a0_2 l0_3 a1_0 a1_1 a1_2 a1_3 a1_4 l1_5 = some r) ∧ Aside0 (kq ≤ k3) ∧ Aside0 (Kd.R (Kd.int .i64) 3 w' w.heap.size (fun _ => True) (.slice Ao28 y121.length co28) y121) ∧ Aside0 (w'.heap[gb117]? = some (.cells #[.string a0_0, .int .i64 a0_1, .int .i64 a0_2, (.slice A0_3 l0_3.length c0_3)] 34 (0, 0))) ∧ Aside0 (w'.heap[gb118]? = some (.cells #[.int .i64 a1_0, .int .i64 a1_1, .int .i64 a1_2, .int .i64 a1_3, .string a1_4, (.slice A1_5 l1_5.length c1_5)] 31 (0, 0))) ∧ Aside0 (Below w.heap.size w w'))
           case atStart => exact ⟨(0), qT, H', ⟨Nat.le_refl _⟩, ⟨qR HO_8.out⟩, ⟨qK BK117.out⟩, ⟨qK BK118.out⟩, ⟨qB⟩⟩
           case round =>
            clear H'
            try clear c1; try clear p1; try clear q1; try clear hx1; try clear c2; try clear p2; try clear c3; try clear p3; try clear q3; try clear hx3; try clear c4; try clear p4; try clear q4; try clear hx4; try clear c5; try clear p6; try clear c8; try clear c10; try clear c10b0 c10b1; try clear c12; try clear c12b0 c12b1 c12b2; try clear p12; try clear q12; try clear hx12; try clear c13; try clear c15; try clear c15b0 c15b1; try clear c16; try clear c18; try clear c18b0 c18b1; try clear c19; try clear c21; try clear c23; try clear c24; try clear c29b0; try clear c30; try clear c30b0; try clear c31; try clear c31b0; try clear c32; try clear c32b0; try clear c33; try clear p33; try clear q33; try clear hx33; try clear c34; try clear c34b0 c34b1; try clear c35; try clear c35b0 c35b1; try clear c36b0; try clear c37; try clear c37b0; try clear c38; try clear c38b0; try clear c39; try clear c39b0; try clear p40; try clear q40; try clear hx40; try clear c41; try clear c41b0 c41b1; try clear c43; try clear c44; try clear c47; try clear c51; try clear c52; try clear c56; try clear z14_0; try clear z17_0; try clear z20_0; try clear z22_0; try clear z25_0; try clear z45_0; try clear z48_0; try clear z53_0; try clear z54_0; try clear z57_0; try clear z58_0; try clear z9_0; try clear hx124_0; try clear hx125_0; try clear p124; try clear p125; try clear q124; try clear q125
            obtain ⟨x93_4, rfl, HA, HK4, HO_91, BK117, BK118, HB⟩ := hrel
            cases gk with
            | zero => exact absurd HA.out (by simp [ir_one.l2])
            | succ k4 =>
             have H := HA.out
             clear HA
             simp only [ir_one.l2] at H
             by_cases c60 : x93_4 < (y121.length : Int)
             ·rw [if_pos c60] at H
              have c60b0 := decide_eq_true c60
              clear c60
              by_cases c61 : 0 ≤ x93_4
              ·rw [if_pos c61] at H
               have c61b0 := decide_eq_true c61
               clear c61
               by_cases c62 : x93_4 < (y121.length : Int)
               ·rw [if_pos c62] at H
                have c62b0 := decide_eq_true c62
                clear c62
                by_cases c63 : x93_4 < (t119.size : Int)
                ·rw [if_pos c63] at H
                 have c63b0 := decide_eq_true c63
                 clear c63
                 by_cases c65 : (bt t119 x93_4) = 110
                 ·rw [if_pos c65] at H
                  obtain ⟨c65b0, c65b1⟩ := qe c65; clear c65
                  by_cases c66 : (rd y121 x93_4) < 0
                  ·rw [if_pos c66] at H
                   have c66b0 := decide_eq_true c66
                   clear c66
                   obtain rfl := Option.some.inj H
                   have p128 : 0 ≤ (x93_4 : Int) := of_decide_eq_true qA
                   have q128 : x93_4 < (y121.length : Int) := of_decide_eq_true qA
                   obtain ⟨ad128, e128, hx128_0⟩ := Kd.at_int (Kd.R_reads' HO_91.out).2.2 x93_4 p128 q128
                   cases e128
                   replace p128 := eq_true p128
                   replace q128 := eq_true q128
                   have p64 : 0 ≤ (x93_4 : Int) := of_decide_eq_true qA
                   have q64 : x93_4 < (t119.size : Int) := of_decide_eq_true qA
                   have hx64 := bt_at t119 x93_4
                   replace p64 := eq_true p64
                   replace q64 := eq_true q64
                   go_wp2
                   go_ret
                   exact ⟨qE, qB⟩
                  ·rw [if_neg c66] at H
                   have c66b0 := decide_eq_false c66
                   clear c66
                   by_cases c67 : (rd y121 x93_4) ≥ 65536
                   ·rw [if_pos c67] at H
                    have c67b0 : decide (65536 ≤ (rd y121 x93_4)) = true := decide_eq_true c67
                    clear c67
                    obtain rfl := Option.some.inj H
                    have p128 : 0 ≤ (x93_4 : Int) := of_decide_eq_true qA
                    have q128 : x93_4 < (y121.length : Int) := of_decide_eq_true qA
                    obtain ⟨ad128, e128, hx128_0⟩ := Kd.at_int (Kd.R_reads' HO_91.out).2.2 x93_4 p128 q128
                    cases e128
                    replace p128 := eq_true p128
                    replace q128 := eq_true q128
                    have p64 : 0 ≤ (x93_4 : Int) := of_decide_eq_true qA
                    have q64 : x93_4 < (t119.size : Int) := of_decide_eq_true qA
                    have hx64 := bt_at t119 x93_4
                    replace p64 := eq_true p64
                    replace q64 := eq_true q64
                    go_wp2
                    go_ret
                    exact ⟨qE, qB⟩
                   ·rw [if_neg c67] at H
                    have c67b0 : decide (65536 ≤ (rd y121 x93_4)) = false := decide_eq_false c67
                    clear c67
                    have H' := Aside0.mk H
                    clear H
                    have p128 : 0 ≤ (x93_4 : Int) := of_decide_eq_true qA
                    have q128 : x93_4 < (y121.length : Int) := of_decide_eq_true qA
                    obtain ⟨ad128, e128, hx128_0⟩ := Kd.at_int (Kd.R_reads' HO_91.out).2.2 x93_4 p128 q128
                    cases e128
                    replace p128 := eq_true p128
                    replace q128 := eq_true q128
                    have p64 : 0 ≤ (x93_4 : Int) := of_decide_eq_true qA
                    have q64 : x93_4 < (t119.size : Int) := of_decide_eq_true qA
                    have hx64 := bt_at t119 x93_4
                    replace p64 := eq_true p64
                    replace q64 := eq_true q64
                    go_wp2
                    go_roundg k4
                    case measure => have := HJ4.out; have := HK2.out; have := HK3.out; have := HK4.out; omega
                    case rel => exact ⟨(wrap64 (x93_4 + 1)), qT, H', ⟨by have := HJ4.out; have := HK2.out; have := HK3.out; have := HK4.out; omega⟩, ⟨qR HO_91.out⟩, ⟨qK BK117.out⟩, ⟨qK BK118.out⟩, ⟨qB⟩⟩
                 ·rw [if_neg c65] at H
                  obtain ⟨c65b0, c65b1⟩ := qn c65
                  have H' := Aside0.mk H
                  clear H
                  have p128 : 0 ≤ (x93_4 : Int) := of_decide_eq_true qA
                  have q128 : x93_4 < (y121.length : Int) := of_decide_eq_true qA
                  obtain ⟨ad128, e128, hx128_0⟩ := Kd.at_int (Kd.R_reads' HO_91.out).2.2 x93_4 p128 q128
                  cases e128
                  replace p128 := eq_true p128
                  replace q128 := eq_true q128
                  have p64 : 0 ≤ (x93_4 : Int) := of_decide_eq_true qA
                  have q64 : x93_4 < (t119.size : Int) := of_decide_eq_true qA
                  have hx64 := bt_at t119 x93_4
                  replace p64 := eq_true p64
                  replace q64 := eq_true q64
                  go_wp2
                  go_roundg k4
                  case measure => have := HJ4.out; have := HK2.out; have := HK3.out; have := HK4.out; omega
                  case rel => exact ⟨(wrap64 (x93_4 + 1)), qT, H', ⟨by have := HJ4.out; have := HK2.out; have := HK3.out; have := HK4.out; omega⟩, ⟨qR HO_91.out⟩, ⟨qK BK117.out⟩, ⟨qK BK118.out⟩, ⟨qB⟩⟩
                ·rw [if_neg c63] at H
                 exact absurd H (by simp)
               ·rw [if_neg c62] at H
                exact absurd H (by simp)
              ·rw [if_neg c61] at H
               exact absurd H (by simp)
             ·rw [if_neg c60] at H
              have c60b0 := decide_eq_false c60
              clear c60
              replace H := qb H; obtain ⟨t129, A68, H⟩ := H
              have H' := Aside0.mk H
              clear H
              have hnb69 := NB118_117.out
              have hnc69 := NB117_118.out
              have z70_0 := bk6 BK118.out
              go_wp2_with (first | ((with_reducible refine gate_callee (f := 48) rfl ?_); refine goesL_ (some 112) rfl rfl Tryd.func48 (by kernel_rfl) rfl #[.agg #[.int .i64 a1_0, .int .i64 a1_1, .int .i64 a1_2, .int .i64 a1_3, .string a1_4, .slice A1_5 l1_5.length c1_5]] rfl qL ?_; (with_reducible refine (ir_Targets.calls a1_0 a1_1 a1_2 a1_3 a1_4 _ _ l1_5 t129 _ ?side1 ?side2 A68.out).mono ?_); (case side1 => exact qCB HR1_5.out); (case side2 => exact HC1_5.out); rintro e w71 ⟨v130, rfl, ho0, hb⟩; refine ⟨_, rfl, ?_⟩; have HO131 := Aside0.mk (Kd.R_lower (Kd.R_new' ho0 (Kd.R_lt (qR HO_91.out))) (below_size qB)); replace HO_91 := Aside0.mk (Kd.R_elder' (qR HO_91.out) (Kd.R_base ho0) hb); replace BK117 := qW BK117 hb; replace BK118 := qW BK118 hb; replace HB := qH hb; (try clear hb); (try clear ho0); obtain ⟨Ao72, co72, eo72⟩ := Kd.R_slice HO131.out; subst eo72))
              go_loopg [114] k4 (fun kq v114 w' => ∃ (x114_5 : Int), v114 = .int .i64 x114_5 ∧ Aside0 (ir_one.l3 kq t129 (t129.length : Int) x114_5 a0_0 a0_1 a0_2 l0_3 a1_0 a1_1 a1_2 a1_3 a1_4 l1_5 = some r) ∧ Aside0 (kq ≤ k4) ∧ Aside0 (Kd.R (Kd.int .i64) 3 w' w.heap.size (fun _ => True) (.slice Ao72 t129.length co72) t129) ∧ Aside0 (w'.heap[gb117]? = some (.cells #[.string a0_0, .int .i64 a0_1, .int .i64 a0_2, (.slice A0_3 l0_3.length c0_3)] 34 (0, 0))) ∧ Aside0 (w'.heap[gb118]? = some (.cells #[.int .i64 a1_0, .int .i64 a1_1, .int .i64 a1_2, .int .i64 a1_3, .string a1_4, (.slice A1_5 l1_5.length c1_5)] 31 (0, 0))) ∧ Aside0 (Below w.heap.size w w'))
              case atStart => exact ⟨(0), qT, H', ⟨Nat.le_refl _⟩, ⟨by (with_reducible repeat (first | apply Kd.R_alloc | apply Kd.R_drewN | apply Kd.R_drew)); exact Kd.R_mono HO131.out (fun _ hk => trivial)⟩, ⟨qK BK117.out⟩, ⟨qK BK118.out⟩, ⟨qB⟩⟩
              case round =>
               clear H'
               try clear c1; try clear p1; try clear q1; try clear hx1; try clear c2; try clear p2; try clear c3; try clear p3; try clear q3; try clear hx3; try clear c4; try clear p4; try clear q4; try clear hx4; try clear c5; try clear c6; try clear p6; try clear q6; try clear hx6; try clear c8; try clear c10; try clear c10b0 c10b1; try clear c12; try clear c12b0 c12b1 c12b2; try clear p12; try clear q12; try clear hx12; try clear c13; try clear c15; try clear c15b0 c15b1; try clear c16; try clear c18; try clear c18b0 c18b1; try clear c19; try clear c21; try clear c23; try clear c24; try clear c29b0; try clear c30; try clear c30b0; try clear c31; try clear c31b0; try clear c32; try clear c32b0; try clear c33; try clear p33; try clear q33; try clear hx33; try clear c34; try clear c34b0 c34b1; try clear c35; try clear c35b0 c35b1; try clear c36b0; try clear c37; try clear c37b0; try clear c38; try clear c38b0; try clear c39; try clear c39b0; try clear p40; try clear q40; try clear hx40; try clear c41; try clear c41b0 c41b1; try clear c43; try clear c44; try clear c47; try clear c48; try clear c51; try clear c52; try clear c56; try clear c60b0; try clear c61; try clear c61b0; try clear c62; try clear c62b0; try clear c63; try clear c63b0; try clear p64; try clear q64; try clear hx64; try clear c65; try clear c65b0 c65b1; try clear c66; try clear c66b0; try clear c67; try clear c67b0; try clear c69; try clear z14_0; try clear z17_0; try clear z20_0; try clear z22_0; try clear z25_0; try clear z45_0; try clear z48_0; try clear z53_0; try clear z54_0; try clear z57_0; try clear z58_0; try clear z70_0; try clear z9_0; try clear hx124_0; try clear hx125_0; try clear hx128_0; try clear p124; try clear p125; try clear p128; try clear q124; try clear q125; try clear q128
               obtain ⟨x114_5, rfl, HA, HK5, HO_112, BK117, BK118, HB⟩ := hrel
               cases gk with
               | zero => exact absurd HA.out (by simp [ir_one.l3])
               | succ k5 =>
                have H := HA.out
                clear HA
                simp only [ir_one.l3] at H
                by_cases c73 : x114_5 < (t129.length : Int)
                ·rw [if_pos c73] at H
                 have c73b0 := decide_eq_true c73
                 clear c73
                 by_cases c74 : 0 ≤ x114_5
                 ·rw [if_pos c74] at H
                  have c74b0 := decide_eq_true c74
                  clear c74
                  by_cases c75 : x114_5 < (t129.length : Int)
                  ·rw [if_pos c75] at H
                   have c75b0 := decide_eq_true c75
                   clear c75
                   by_cases c76 : (rd t129 x114_5) < 0
                   ·rw [if_pos c76] at H
                    have c76b0 := decide_eq_true c76
                    clear c76
                    obtain rfl := Option.some.inj H
                    have p132 : 0 ≤ (x114_5 : Int) := of_decide_eq_true qA
                    have q132 : x114_5 < (t129.length : Int) := of_decide_eq_true qA
                    obtain ⟨ad132, e132, hx132_0⟩ := Kd.at_int (Kd.R_reads' HO_112.out).2.2 x114_5 p132 q132
                    cases e132
                    replace p132 := eq_true p132
                    replace q132 := eq_true q132
                    go_wp2
                    go_ret
                    exact ⟨qE, qB⟩
                   ·rw [if_neg c76] at H
                    have c76b0 := decide_eq_false c76
                    clear c76
                    by_cases c77 : (rd t129 x114_5) ≥ (l0_3.length : Int)
                    ·rw [if_pos c77] at H
                     have c77b0 : decide ((l0_3.length : Int) ≤ (rd t129 x114_5)) = true := decide_eq_true c77
                     clear c77
                     obtain rfl := Option.some.inj H
                     have p132 : 0 ≤ (x114_5 : Int) := of_decide_eq_true qA
                     have q132 : x114_5 < (t129.length : Int) := of_decide_eq_true qA
                     obtain ⟨ad132, e132, hx132_0⟩ := Kd.at_int (Kd.R_reads' HO_112.out).2.2 x114_5 p132 q132
                     cases e132
                     replace p132 := eq_true p132
                     replace q132 := eq_true q132
                     have hnb78 := NB117_118.out
                     have hnc78 := NB118_117.out
                     have z79_0 := bk4 BK117.out
                     go_wp2
                     go_ret
                     exact ⟨qE, qB⟩
                    ·rw [if_neg c77] at H
                     have c77b0 : decide ((l0_3.length : Int) ≤ (rd t129 x114_5)) = false := decide_eq_false c77
                     clear c77
                     have H' := Aside0.mk H
                     clear H
                     have p132 : 0 ≤ (x114_5 : Int) := of_decide_eq_true qA
                     have q132 : x114_5 < (t129.length : Int) := of_decide_eq_true qA
                     obtain ⟨ad132, e132, hx132_0⟩ := Kd.at_int (Kd.R_reads' HO_112.out).2.2 x114_5 p132 q132
                     cases e132
                     replace p132 := eq_true p132
                     replace q132 := eq_true q132
                     have hnb80 := NB117_118.out
                     have hnc80 := NB118_117.out
                     have z81_0 := bk4 BK117.out
                     go_wp2
                     go_roundg k5
                     case measure => have := HJ4.out; have := HK2.out; have := HK3.out; have := HK4.out; have := HK5.out; omega
                     case rel => exact ⟨(wrap64 (x114_5 + 1)), qT, H', ⟨by have := HJ4.out; have := HK2.out; have := HK3.out; have := HK4.out; have := HK5.out; omega⟩, ⟨qR HO_112.out⟩, ⟨qK BK117.out⟩, ⟨qK BK118.out⟩, ⟨qB⟩⟩
                  ·rw [if_neg c75] at H
                   exact absurd H (by simp)
                 ·rw [if_neg c74] at H
                  exact absurd H (by simp)
                ·rw [if_neg c73] at H
                 have c73b0 := decide_eq_false c73
                 clear c73
                 have HC82 := Aside0.mk H
                 clear H
                 go_upto_region 32 with (fail)
                 go_cut [128] (fun v128 wc => ∃ (kq : Nat) (x128_81 : Bool), v128 = .bool x128_81 ∧ Aside0 (ir_one.j5 kq x128_81 a1_0 a1_1 a1_2 a1_3 a1_4 l1_5 = some r) ∧ Aside0 (kq ≤ k5) ∧ Aside0 (wc.heap[gb117]? = some (.cells #[.string a0_0, .int .i64 a0_1, .int .i64 a0_2, (.slice A0_3 l0_3.length c0_3)] 34 (0, 0))) ∧ Aside0 (wc.heap[gb118]? = some (.cells #[.int .i64 a1_0, .int .i64 a1_1, .int .i64 a1_2, .int .i64 a1_3, .string a1_4, (.slice A1_5 l1_5.length c1_5)] 31 (0, 0))) ∧ Aside0 (Below w.heap.size w wc))
                 case first =>
                  have H := HC82.out
                  clear HC82
                  by_cases c83 : a1_0 = 11
                  ·rw [if_pos c83] at H
                   obtain ⟨c83b0, c83b1⟩ := qe c83; clear c83
                   (first | rw [c83b0] | (simp only [i64_w, i32_w]; rw [c83b0]) | skip)
                   replace H := qb H; obtain ⟨t133, A84, H⟩ := H
                   have H' := Aside0.mk H
                   clear H
                   have hnb85 := NB118_117.out
                   have hnc85 := NB117_118.out
                   have z86_0 := bk6 BK118.out
                   go_wp2_with (first | (go_at_call 21; (with_reducible refine (ir_Name.calls a1_4 t133 _ A84.out).mono ?_); (try clear A84); rintro e w87 ⟨rfl, hb⟩; replace HO_112 := Aside0.mk (Kd.R_below (qR HO_112.out) hb); replace BK117 := qW BK117 hb; replace BK118 := qW BK118 hb; replace HB := qH hb; (try clear hb)))
                   go_meet
                   case rel => exact ⟨_, (!t133), qT, H', ⟨by have := HJ4.out; have := HK2.out; have := HK3.out; have := HK4.out; have := HK5.out; first | omega | exact Nat.le_refl _⟩, ⟨qK BK117.out⟩, ⟨qK BK118.out⟩, ⟨qB⟩⟩
                  ·rw [if_neg c83] at H
                   obtain ⟨c83b0, c83b1⟩ := qn c83
                   (first | rw [c83b0] | (simp only [i64_w, i32_w]; rw [c83b0]) | skip)
                   have H' := Aside0.mk H
                   clear H
                   have hnb88 := NB118_117.out
                   have hnc88 := NB117_118.out
                   have z89_0 := bk6 BK118.out
                   go_wp2
                   go_meet
                   case rel => exact ⟨_, (false), qT, H', ⟨by have := HJ4.out; have := HK2.out; have := HK3.out; have := HK4.out; have := HK5.out; first | omega | exact Nat.le_refl _⟩, ⟨qK BK117.out⟩, ⟨qK BK118.out⟩, ⟨qB⟩⟩
                 case rest =>
                  clear HC82
                  try clear c1; try clear p1; try clear q1; try clear hx1; try clear c2; try clear p2; try clear c3; try clear p3; try clear q3; try clear hx3; try clear c4; try clear p4; try clear q4; try clear hx4; try clear c5; try clear c6; try clear p6; try clear q6; try clear hx6; try clear c7; try clear c8; try clear c10; try clear c10b0 c10b1; try clear c12; try clear c12b0 c12b1 c12b2; try clear p12; try clear q12; try clear hx12; try clear c13; try clear p13; try clear q13; try clear hx13; try clear c15; try clear c15b0 c15b1; try clear c16; try clear c18; try clear c18b0 c18b1; try clear c19; try clear c21; try clear c23; try clear c24; try clear c29b0; try clear c30; try clear c30b0; try clear c31; try clear c31b0; try clear c32; try clear c32b0; try clear c33; try clear p33; try clear q33; try clear hx33; try clear c34; try clear c34b0 c34b1; try clear c35; try clear c35b0 c35b1; try clear c36b0; try clear c37; try clear c37b0; try clear c38; try clear c38b0; try clear c39; try clear c39b0; try clear p40; try clear q40; try clear hx40; try clear c41; try clear c41b0 c41b1; try clear c43; try clear c44; try clear c47; try clear c48; try clear c51; try clear c52; try clear c56; try clear c60b0; try clear c61; try clear c61b0; try clear c62; try clear c62b0; try clear c63; try clear c63b0; try clear p64; try clear q64; try clear hx64; try clear c65; try clear c65b0 c65b1; try clear c66; try clear c66b0; try clear c67; try clear c67b0; try clear c69; try clear c73b0; try clear c74; try clear c74b0; try clear c75; try clear c75b0; try clear c76; try clear c76b0; try clear c77; try clear c77b0; try clear c78; try clear c80; try clear c83; try clear c83b0 c83b1; try clear c85; try clear c88; try clear z14_0; try clear z17_0; try clear z20_0; try clear z22_0; try clear z25_0; try clear z45_0; try clear z48_0; try clear z53_0; try clear z54_0; try clear z57_0; try clear z58_0; try clear z70_0; try clear z79_0; try clear z81_0; try clear z86_0; try clear z89_0; try clear z9_0; try clear hx124_0; try clear hx125_0; try clear hx128_0; try clear hx132_0; try clear p124; try clear p125; try clear p128; try clear p132; try clear q124; try clear q125; try clear q128; try clear q132
                  obtain ⟨kq, x128_81, rfl, HA, HJ81, BK117, BK118, HB⟩ := hcut
                  cases kq with
                  | zero => exact absurd HA.out (by simp [ir_one.j5])
                  | succ kj81 =>
                   have H := HA.out
                   clear HA
                   simp only [ir_one.j5] at H
                   by_cases c90 : x128_81 = true
                   ·subst c90
                    have H1 : (some 70) = some r := by rw [if_pos rfl] at H; exact H
                    clear H
                    have H := H1
                    clear H1
                    obtain rfl := Option.some.inj H
                    go_wp2
                    go_ret
                    exact ⟨qE, qB⟩
                   ·replace c90 := Bool.eq_false_iff.mpr c90
                    subst c90
                    have H1 : (if (l1_5.length : Int) > 4 then (some 192) else (some 0)) = some r := by rw [if_neg (show ¬ (false = true) by decide)] at H; exact H
                    clear H
                    have H := H1
                    clear H1
                    by_cases c91 : (l1_5.length : Int) > 4
                    ·rw [if_pos c91] at H
                     have c91b0 : decide (4 < (l1_5.length : Int)) = true := decide_eq_true c91
                     have c91b1 : decide (4 < l1_5.length) = true := decide_eq_true (by omega)
                     clear c91
                     obtain rfl := Option.some.inj H
                     have hnb92 := NB118_117.out
                     have hnc92 := NB117_118.out
                     have z93_0 := bk6 BK118.out
                     go_wp2
                     go_ret
                     exact ⟨qE, qB⟩
                    ·rw [if_neg c91] at H
                     have c91b0 : decide (4 < (l1_5.length : Int)) = false := decide_eq_false c91
                     have c91b1 : decide (4 < l1_5.length) = false := decide_eq_false (by omega)
                     clear c91
                     obtain rfl := Option.some.inj H
                     have hnb94 := NB118_117.out
                     have hnc94 := NB117_118.out
                     have z95_0 := bk6 BK118.out
                     go_wp2
                     go_ret
                     exact ⟨qE, qB⟩

end Go.Proofs.YtbipipbfiekbgaaDoor.Q
