/- Lean functions that answer as the Go functions named below do, and the proofs of that. Written by a program out of the translation. -/
import Derived.Test.YtbipipbfiekbgaaDoorQ0
import Derived.Test.YtbipipbfiekbgaaDoorSq
import Derived.Test.YtbipipbfiekbgaaDoorQcubbyref07Name
import Derived.Test.YtbipipbfiekbgaaDoorQcubbyref07One
import Derived.Test.YtbipipbfiekbgaaDoorQcubbyref13in
namespace Go.Proofs.YtbipipbfiekbgaaDoor.Q
open Go.RowKit Go.Proofs.YtbipipbfiekbgaaDoorW.PrintWords Go.Proofs.YtbipipbfiekbgaaDoorW.PrintLast Go.Proofs.YtbipipbfiekbgaaDoorW.PrintMore
attribute [local go_sem] max2_int min2_int max_two min_two max_three min_three max_four min_four   -- for this text's walks alone
set_option linter.unusedVariables false
set_option linter.unusedSimpArgs false

/-! ### cubbyref13_one: function 25 -/
mutual
def cubbyref13_one.j0 : Nat → Bool → Int → Bool → Int → Int → Int → Int → ByteArray → List Int → ByteArray → Int → Int → Int → List (List (SIns)) → Option (Int)
 | 0, _, _, _, _, _, _, _, _, _, _, _, _, _, _ => none
 | k + 1, x2, x8, x9, x256000, x256001, x256002, x256003, x256004, x256005, x257000, x257001, x257002, x257003, x257004 => if x9 = true then (if x2 = true then (cubbyref13_one.j1 k true x256000 x256001 x256002 x256003 x256004 x256005 x257000 x257001 x257002 x257003 x257004) else (if x256003 = 0 then (if x256004.toList = ([] : List UInt8) then (cubbyref13_one.j1 k (decide ((x256005.length : Int) > 0)) x256000 x256001 x256002 x256003 x256004 x256005 x257000 x257001 x257002 x257003 x257004) else (cubbyref13_one.j1 k true x256000 x256001 x256002 x256003 x256004 x256005 x257000 x257001 x257002 x257003 x257004)) else (cubbyref13_one.j1 k true x256000 x256001 x256002 x256003 x256004 x256005 x257000 x257001 x257002 x257003 x257004))) else (if x8 = 11 then (if x2 = true then (cubbyref13_one.j2 k true x256000 x256001 x256002 x256003 x256004 x256005) else (if x256001 = 0 then (if x256003 = 0 then (cubbyref13_one.j2 k (decide ((x256005.length : Int) > 0)) x256000 x256001 x256002 x256003 x256004 x256005) else (cubbyref13_one.j2 k true x256000 x256001 x256002 x256003 x256004 x256005)) else (cubbyref13_one.j2 k true x256000 x256001 x256002 x256003 x256004 x256005))) else ((cubbyref07_One.f k x256000 x256001 x256002 x256003 x256004 x256005 x257002 (x257004.length : Int) x2).bind fun t265 => (some t265)))
def cubbyref13_one.j1 : Nat → Bool → Int → Int → Int → Int → ByteArray → List Int → ByteArray → Int → Int → Int → List (List (SIns)) → Option (Int)
 | 0, _, _, _, _, _, _, _, _, _, _, _, _ => none
 | k + 1, x28, x256000, x256001, x256002, x256003, x256004, x256005, x257000, x257001, x257002, x257003, x257004 => if x28 = true then (some 72) else (if x256000 = 21 then ((cubbyref13_in.f x256001 x257002).bind fun t257 => (if t257 = true then ((cubbyref13_in.f x256002 x257003).bind fun t258 => (if t258 = true then (if x256000 = 22 then ((cubbyref13_in.f x256001 x257003).bind fun t259 => (if t259 = true then ((cubbyref13_in.f x256002 x257002).bind fun t260 => (if t260 = true then (some 0) else (some 73))) else (some 73))) else (some 0)) else (some 73))) else (some 73))) else (if x256000 = 22 then ((cubbyref13_in.f x256001 x257003).bind fun t261 => (if t261 = true then ((cubbyref13_in.f x256002 x257002).bind fun t262 => (if t262 = true then (some 0) else (some 73))) else (some 73))) else (some 0)))
def cubbyref13_one.j2 : Nat → Bool → Int → Int → Int → Int → ByteArray → List Int → Option (Int)
 | 0, _, _, _, _, _, _, _ => none
 | k + 1, x87, x256000, x256001, x256002, x256003, x256004, x256005 => if x87 = true then (some 72) else ((cubbyref07_Name.f k x256004).bind fun t263 => (if t263 = true then ((cubbyref13_in.f x256002 5).bind fun t264 => (if t264 = true then (some 0) else (some 192))) else (some 70)))
end
def cubbyref13_one.f (k : Nat) (a0_0 : Int) (a0_1 : Int) (a0_2 : Int) (a0_3 : Int) (a0_4 : ByteArray) (l0_5 : List Int) (a1_0 : ByteArray) (a1_1 : Int) (a1_2 : Int) (a1_3 : Int) (l1_4 : List (List (SIns))) (a2 : Bool) : Option (Int) := if a0_0 = 21 then (cubbyref13_one.j0 k a2 a0_0 (a0_0 == 21) a0_0 a0_1 a0_2 a0_3 a0_4 l0_5 a1_0 a1_1 a1_2 a1_3 l1_4) else (cubbyref13_one.j0 k a2 a0_0 (a0_0 == 22) a0_0 a0_1 a0_2 a0_3 a0_4 l0_5 a1_0 a1_1 a1_2 a1_3 l1_4)
theorem cubbyref13_one.mono_l : ∀ k, (∀ y0 y1 y2 y3 y4 y5 y6 y7 y8 y9 y10 y11 y12 y13, LeO (cubbyref13_one.j0 k y0 y1 y2 y3 y4 y5 y6 y7 y8 y9 y10 y11 y12 y13) (cubbyref13_one.j0 (k + 1) y0 y1 y2 y3 y4 y5 y6 y7 y8 y9 y10 y11 y12 y13)) ∧ (∀ y0 y1 y2 y3 y4 y5 y6 y7 y8 y9 y10 y11, LeO (cubbyref13_one.j1 k y0 y1 y2 y3 y4 y5 y6 y7 y8 y9 y10 y11) (cubbyref13_one.j1 (k + 1) y0 y1 y2 y3 y4 y5 y6 y7 y8 y9 y10 y11)) ∧ (∀ y0 y1 y2 y3 y4 y5 y6, LeO (cubbyref13_one.j2 k y0 y1 y2 y3 y4 y5 y6) (cubbyref13_one.j2 (k + 1) y0 y1 y2 y3 y4 y5 y6))
 | 0 => ⟨fun _ _ _ _ _ _ _ _ _ _ _ _ _ _ r h => by simp [cubbyref13_one.j0] at h, fun _ _ _ _ _ _ _ _ _ _ _ _ r h => by simp [cubbyref13_one.j1] at h, fun _ _ _ _ _ _ _ r h => by simp [cubbyref13_one.j2] at h⟩
 | k + 1 => by
  obtain ⟨ih0, ih1, ih2⟩ := cubbyref13_one.mono_l k
  refine ⟨?_, ?_, ?_⟩ <;> intros <;> (first | unfold cubbyref13_one.j0 | unfold cubbyref13_one.j1 | unfold cubbyref13_one.j2) <;> repeat' first | (with_reducible exact ih0 _ _ _ _ _ _ _ _ _ _ _ _ _ _) | (with_reducible exact ih1 _ _ _ _ _ _ _ _ _ _ _ _) | (with_reducible exact ih2 _ _ _ _ _ _ _) | (with_reducible exact cubbyref07_Name.mono _ _) | (with_reducible exact cubbyref07_One.mono _ _ _ _ _ _ _ _ _ _) | (with_reducible exact LeO.refl _) | (with_reducible exact LeO.none _) | (with_reducible refine LeO.ite ?_ ?_) | (with_reducible refine LeO.bind ?_ (fun _ => ?_)) | exact LeO.none _ | refine LeO.ite ?_ ?_ | refine LeO.bind ?_ (fun _ => ?_)
theorem cubbyref13_one.mono : ∀ a0 a1 a2 a3 a4 a5 a6 a7 a8 a9 a10 a11 k, LeO (cubbyref13_one.f k a0 a1 a2 a3 a4 a5 a6 a7 a8 a9 a10 a11) (cubbyref13_one.f (k + 1) a0 a1 a2 a3 a4 a5 a6 a7 a8 a9 a10 a11) := by
 intro a0 a1 a2 a3 a4 a5 a6 a7 a8 a9 a10 a11 k
 obtain ⟨ih0, ih1, ih2⟩ := cubbyref13_one.mono_l k
 unfold cubbyref13_one.f
 repeat' first | (with_reducible exact ih0 _ _ _ _ _ _ _ _ _ _ _ _ _ _) | (with_reducible exact ih1 _ _ _ _ _ _ _ _ _ _ _ _) | (with_reducible exact ih2 _ _ _ _ _ _ _) | (with_reducible exact cubbyref07_Name.mono _ _) | (with_reducible exact cubbyref07_One.mono _ _ _ _ _ _ _ _ _ _) | (with_reducible exact LeO.refl _) | (with_reducible exact LeO.none _) | (with_reducible refine LeO.ite ?_ ?_) | (with_reducible refine LeO.bind ?_ (fun _ => ?_)) | exact LeO.none _ | refine LeO.ite ?_ ?_ | refine LeO.bind ?_ (fun _ => ?_)
set_option maxHeartbeats 8000000 in
set_option maxRecDepth 100000 in
theorem cubbyref13_one.calls (k : Nat) (a0_0 : Int) (a0_1 : Int) (a0_2 : Int) (a0_3 : Int) (a0_4 : ByteArray) (A0_5 : Option Addr) (c0_5 : Nat) (l0_5 : List Int) (a1_0 : ByteArray) (a1_1 : Int) (a1_2 : Int) (a1_3 : Int) (A1_4 : Option Addr) (c1_4 : Nat) (l1_4 : List (List (SIns))) (a2 : Bool) (r : Int) (w : World) (hr0_5 : Kd.C (Kd.int .i64) w A0_5 l0_5.length l0_5) (hc0_5 : l0_5.length ≤ c0_5) (hr1_4 : Kd.C (Kd.slice 31 kIns) w A1_4 l1_4.length l1_4) (hc1_4 : l1_4.length ≤ c1_4) (h : cubbyref13_one.f k a0_0 a0_1 a0_2 a0_3 a0_4 l0_5 a1_0 a1_1 a1_2 a1_3 l1_4 a2 = some r) :
  Calls Tryd.prog 25 #[.agg #[.int .i64 a0_0, .int .i64 a0_1, .int .i64 a0_2, .int .i64 a0_3, .string a0_4, .slice A0_5 l0_5.length c0_5], .agg #[.string a1_0, .int .i64 a1_1, .int .i64 a1_2, .int .i64 a1_3, .slice A1_4 l1_4.length c1_4], .bool a2] w fun e w' => e = .returned (.int .i64 r) ∧ Below w.heap.size w w' := by
 have hu31 := Tryd.underlying31
 have hu24 := Tryd.underlying24
 have HR0_5 := Aside0.mk hr0_5
 have HC0_5 := Aside0.mk hc0_5
 clear hr0_5 hc0_5
 have HR1_4 := Aside0.mk hr1_4
 have HC1_4 := Aside0.mk hc1_4
 clear hr1_4 hc1_4
 have HB := Aside0.mk (Below.refl w.heap.size w)
 have H := h; clear h; unfold cubbyref13_one.f at H
 have HC4 := Aside0.mk H
 clear H
 go_enter Tryd.func25, Tryd.ntmps25
 go_upto_if 9 with (first | ((with_reducible refine gate_dst (N := 3) rfl ?_); (try (refine gate_guard (by rfl) ?_; dsimp only)); refine box_event (by rfl) (N := 3) (by rfl) (cs := #[.int .i64 a0_0, .int .i64 a0_1, .int .i64 a0_2, .int .i64 a0_3, .string a0_4, .slice A0_5 l0_5.length c0_5]) (t := 31) ?hr ?_; (case hr => first | (go_simp; done) | (go_simp; rfl)); intro gb255 hg w5 hbox hb; have BK255 := Aside0.mk (hbox); have GW255 := qG hg; have GE255 := GW255; replace HB := qH hb; clear hb hbox hg) | ((with_reducible refine gate_dst (N := 4) rfl ?_); (try (refine gate_guard (by rfl) ?_; dsimp only)); refine box_event (by rfl) (N := 4) (by rfl) (cs := #[.string a1_0, .int .i64 a1_1, .int .i64 a1_2, .int .i64 a1_3, .slice A1_4 l1_4.length c1_4]) (t := 24) ?hr ?_; (case hr => first | (go_simp; done) | (go_simp; rfl)); intro gb256 hg w6 hbox hb; have BK256 := Aside0.mk (hbox); have GW256 := qG hg; have GE256 := GW256; replace HB := qH hb; have NB255_256 := Aside0.mk ((by rw [hg]; exact Nat.ne_of_lt (blk_lt (g := gb255) (o := .cells #[.int .i64 a0_0, .int .i64 a0_1, .int .i64 a0_2, .int .i64 a0_3, .string a0_4, .slice A0_5 l0_5.length c0_5] 31 (0, 0)) (qK BK255.out)) : gb255 ≠ gb256)); have NB256_255 := Aside0.mk ((by rw [hg]; exact Nat.ne_of_gt (blk_lt (g := gb255) (o := .cells #[.int .i64 a0_0, .int .i64 a0_1, .int .i64 a0_2, .int .i64 a0_3, .string a0_4, .slice A0_5 l0_5.length c0_5] 31 (0, 0)) (qK BK255.out)) : gb256 ≠ gb255)); replace BK255 := qW BK255 hb; clear hb hbox hg; have hnb7 := NB255_256.out; have hnc7 := NB256_255.out; have z8_0 := bk6 BK255.out))
 (try simp only [Act.put, List.setIfInBounds_toArray, List.set_cons_zero, List.set_cons_succ])
 go_cut [9] (fun v9 wc => ∃ (kq : Nat) (x9_3 : Bool), v9 = .bool x9_3 ∧ Aside0 (cubbyref13_one.j0 kq a2 a0_0 x9_3 a0_0 a0_1 a0_2 a0_3 a0_4 l0_5 a1_0 a1_1 a1_2 a1_3 l1_4 = some r) ∧ Aside0 (kq ≤ k) ∧ Aside0 (wc.heap[gb255]? = some (.cells #[.int .i64 a0_0, .int .i64 a0_1, .int .i64 a0_2, .int .i64 a0_3, .string a0_4, (.slice A0_5 l0_5.length c0_5)] 31 (0, 0))) ∧ Aside0 (wc.heap[gb256]? = some (.cells #[.string a1_0, .int .i64 a1_1, .int .i64 a1_2, .int .i64 a1_3, (.slice A1_4 l1_4.length c1_4)] 24 (0, 0))) ∧ Aside0 (Below w.heap.size w wc))
 case first =>
  have H := HC4.out
  clear HC4
  by_cases c9 : a0_0 = 21
  ·rw [if_pos c9] at H
   obtain ⟨c9b0, c9b1⟩ := qe c9; clear c9
   (first | rw [c9b0] | (simp only [i64_w, i32_w]; rw [c9b0]) | skip)
   have H' := Aside0.mk H
   clear H
   go_wp2
   go_meet
   case rel => exact ⟨_, ((a0_0 == 21)), qT, H', ⟨qO⟩, ⟨qK BK255.out⟩, ⟨qK BK256.out⟩, ⟨qB⟩⟩
  ·rw [if_neg c9] at H
   obtain ⟨c9b0, c9b1⟩ := qn c9
   (first | rw [c9b0] | (simp only [i64_w, i32_w]; rw [c9b0]) | skip)
   have H' := Aside0.mk H
   clear H
   go_wp2
   go_meet
   case rel => exact ⟨_, ((a0_0 == 22)), qT, H', ⟨qO⟩, ⟨qK BK255.out⟩, ⟨qK BK256.out⟩, ⟨qB⟩⟩
 case rest =>
  clear HC4
  try clear c1; try clear c2; try clear p2; try clear c7; try clear c9; try clear c9b0 c9b1; try clear z8_0
  obtain ⟨kq, x9_3, rfl, HA, HJ3, BK255, BK256, HB⟩ := hcut
  cases kq with
  | zero => exact absurd HA.out (by simp [cubbyref13_one.j0])
  | succ kj3 =>
   have H := HA.out
   clear HA
   simp only [cubbyref13_one.j0] at H
   by_cases c10 : x9_3 = true
   ·subst c10
    have H1 : (if a2 = true then (cubbyref13_one.j1 kj3 true a0_0 a0_1 a0_2 a0_3 a0_4 l0_5 a1_0 a1_1 a1_2 a1_3 l1_4) else (if a0_3 = 0 then (if a0_4.toList = ([] : List UInt8) then (cubbyref13_one.j1 kj3 (decide ((l0_5.length : Int) > 0)) a0_0 a0_1 a0_2 a0_3 a0_4 l0_5 a1_0 a1_1 a1_2 a1_3 l1_4) else (cubbyref13_one.j1 kj3 true a0_0 a0_1 a0_2 a0_3 a0_4 l0_5 a1_0 a1_1 a1_2 a1_3 l1_4)) else (cubbyref13_one.j1 kj3 true a0_0 a0_1 a0_2 a0_3 a0_4 l0_5 a1_0 a1_1 a1_2 a1_3 l1_4))) = some r := by rw [if_pos rfl] at H; exact H
    clear H
    have H := H1
    clear H1
    have HC11 := Aside0.mk H
    clear H
    go_upto_region 4 with (fail)
    go_cut [28] (fun v28 wc => ∃ (kq : Nat) (x28_10 : Bool), v28 = .bool x28_10 ∧ Aside0 (cubbyref13_one.j1 kq x28_10 a0_0 a0_1 a0_2 a0_3 a0_4 l0_5 a1_0 a1_1 a1_2 a1_3 l1_4 = some r) ∧ Aside0 (kq ≤ kj3) ∧ Aside0 (wc.heap[gb255]? = some (.cells #[.int .i64 a0_0, .int .i64 a0_1, .int .i64 a0_2, .int .i64 a0_3, .string a0_4, (.slice A0_5 l0_5.length c0_5)] 31 (0, 0))) ∧ Aside0 (wc.heap[gb256]? = some (.cells #[.string a1_0, .int .i64 a1_1, .int .i64 a1_2, .int .i64 a1_3, (.slice A1_4 l1_4.length c1_4)] 24 (0, 0))) ∧ Aside0 (Below w.heap.size w wc))
    case first =>
     have H := HC11.out
     clear HC11
     by_cases c12 : a2 = true
     ·subst c12
      have H1 : (cubbyref13_one.j1 kj3 true a0_0 a0_1 a0_2 a0_3 a0_4 l0_5 a1_0 a1_1 a1_2 a1_3 l1_4) = some r := by rw [if_pos rfl] at H; exact H
      clear H
      have H := H1
      clear H1
      have H' := Aside0.mk H
      clear H
      go_wp2
      go_meet
      case rel => exact ⟨_, (true), qT, H', ⟨by have := HJ3.out; first | omega | exact Nat.le_refl _⟩, ⟨qK BK255.out⟩, ⟨qK BK256.out⟩, ⟨qB⟩⟩
     ·replace c12 := Bool.eq_false_iff.mpr c12
      subst c12
      have H1 : (if a0_3 = 0 then (if a0_4.toList = ([] : List UInt8) then (cubbyref13_one.j1 kj3 (decide ((l0_5.length : Int) > 0)) a0_0 a0_1 a0_2 a0_3 a0_4 l0_5 a1_0 a1_1 a1_2 a1_3 l1_4) else (cubbyref13_one.j1 kj3 true a0_0 a0_1 a0_2 a0_3 a0_4 l0_5 a1_0 a1_1 a1_2 a1_3 l1_4)) else (cubbyref13_one.j1 kj3 true a0_0 a0_1 a0_2 a0_3 a0_4 l0_5 a1_0 a1_1 a1_2 a1_3 l1_4)) = some r := by rw [if_neg (show ¬ (false = true) by decide)] at H; exact H
      clear H
      have H := H1
      clear H1
      by_cases c13 : a0_3 = 0
      ·rw [if_pos c13] at H
       obtain ⟨c13b0, c13b1⟩ := qe c13; clear c13
       (first | rw [c13b0] | (simp only [i64_w, i32_w]; rw [c13b0]) | skip)
       by_cases c14 : a0_4.toList = ([] : List UInt8)
       ·rw [if_pos c14] at H
        obtain ⟨c14b0, c14b1⟩ := qe c14; clear c14
        have H' := Aside0.mk H
        clear H
        have hnb15 := NB255_256.out
        have hnc15 := NB256_255.out
        have z16_0 := bk6 BK255.out
        go_wp2
        go_meet
        case rel => exact ⟨_, (decide ((l0_5.length : Int) > 0)), qT, H', ⟨by have := HJ3.out; first | omega | exact Nat.le_refl _⟩, ⟨qK BK255.out⟩, ⟨qK BK256.out⟩, ⟨qB⟩⟩
       ·rw [if_neg c14] at H
        obtain ⟨c14b0, c14b1⟩ := qn c14
        have H' := Aside0.mk H
        clear H
        have hnb17 := NB255_256.out
        have hnc17 := NB256_255.out
        have z18_0 := bk6 BK255.out
        go_wp2
        go_meet
        case rel => exact ⟨_, (true), qT, H', ⟨by have := HJ3.out; first | omega | exact Nat.le_refl _⟩, ⟨qK BK255.out⟩, ⟨qK BK256.out⟩, ⟨qB⟩⟩
      ·rw [if_neg c13] at H
       obtain ⟨c13b0, c13b1⟩ := qn c13
       (first | rw [c13b0] | (simp only [i64_w, i32_w]; rw [c13b0]) | skip)
       have H' := Aside0.mk H
       clear H
       have hnb19 := NB255_256.out
       have hnc19 := NB256_255.out
       have z20_0 := bk6 BK255.out
       go_wp2
       go_meet
       case rel => exact ⟨_, (true), qT, H', ⟨by have := HJ3.out; first | omega | exact Nat.le_refl _⟩, ⟨qK BK255.out⟩, ⟨qK BK256.out⟩, ⟨qB⟩⟩
    case rest =>
     clear HC11
     try clear c1; try clear c2; try clear p2; try clear c7; try clear c9; try clear c9b0 c9b1; try clear c10; try clear c12; try clear c13; try clear c13b0 c13b1; try clear c14; try clear c14b0 c14b1; try clear c15; try clear c17; try clear c19; try clear z16_0; try clear z18_0; try clear z20_0; try clear z8_0
     obtain ⟨kq, x28_10, rfl, HA, HJ10, BK255, BK256, HB⟩ := hcut
     cases kq with
     | zero => exact absurd HA.out (by simp [cubbyref13_one.j1])
     | succ kj10 =>
      have H := HA.out
      clear HA
      simp only [cubbyref13_one.j1] at H
      by_cases c21 : x28_10 = true
      ·subst c21
       have H1 : (some 72) = some r := by rw [if_pos rfl] at H; exact H
       clear H
       have H := H1
       clear H1
       obtain rfl := Option.some.inj H
       go_wp2
       go_ret
       exact ⟨qE, qB⟩
      ·replace c21 := Bool.eq_false_iff.mpr c21
       subst c21
       have H1 : (if a0_0 = 21 then ((cubbyref13_in.f a0_1 a1_2).bind fun t257 => (if t257 = true then ((cubbyref13_in.f a0_2 a1_3).bind fun t258 => (if t258 = true then (if a0_0 = 22 then ((cubbyref13_in.f a0_1 a1_3).bind fun t259 => (if t259 = true then ((cubbyref13_in.f a0_2 a1_2).bind fun t260 => (if t260 = true then (some 0) else (some 73))) else (some 73))) else (some 0)) else (some 73))) else (some 73))) else (if a0_0 = 22 then ((cubbyref13_in.f a0_1 a1_3).bind fun t261 => (if t261 = true then ((cubbyref13_in.f a0_2 a1_2).bind fun t262 => (if t262 = true then (some 0) else (some 73))) else (some 73))) else (some 0))) = some r := by rw [if_neg (show ¬ (false = true) by decide)] at H; exact H
       clear H
       have H := H1
       clear H1
       by_cases c22 : a0_0 = 21
       ·rw [if_pos c22] at H
        obtain ⟨c22b0, c22b1⟩ := qe c22; clear c22
        replace H := qb H; obtain ⟨t257, A23, H⟩ := H
        by_cases c24 : t257 = true
        ·subst c24
         have H1 : ((cubbyref13_in.f a0_2 a1_3).bind fun t258 => (if t258 = true then (if a0_0 = 22 then ((cubbyref13_in.f a0_1 a1_3).bind fun t259 => (if t259 = true then ((cubbyref13_in.f a0_2 a1_2).bind fun t260 => (if t260 = true then (some 0) else (some 73))) else (some 73))) else (some 0)) else (some 73))) = some r := by rw [if_pos rfl] at H; exact H
         clear H
         have H := H1
         clear H1
         replace H := qb H; obtain ⟨t258, A25, H⟩ := H
         by_cases c26 : t258 = true
         ·subst c26
          have H1 : (if a0_0 = 22 then ((cubbyref13_in.f a0_1 a1_3).bind fun t259 => (if t259 = true then ((cubbyref13_in.f a0_2 a1_2).bind fun t260 => (if t260 = true then (some 0) else (some 73))) else (some 73))) else (some 0)) = some r := by rw [if_pos rfl] at H; exact H
          clear H
          have H := H1
          clear H1
          by_cases c27 : a0_0 = 22
          ·rw [if_pos c27] at H
           obtain ⟨c27b0, c27b1⟩ := qe c27; clear c27
           replace H := qb H; obtain ⟨t259, A28, H⟩ := H
           by_cases c29 : t259 = true
           ·subst c29
            have H1 : ((cubbyref13_in.f a0_2 a1_2).bind fun t260 => (if t260 = true then (some 0) else (some 73))) = some r := by rw [if_pos rfl] at H; exact H
            clear H
            have H := H1
            clear H1
            replace H := qb H; obtain ⟨t260, A30, H⟩ := H
            by_cases c31 : t260 = true
            ·subst c31
             have H1 : (some 0) = some r := by rw [if_pos rfl] at H; exact H
             clear H
             have H := H1
             clear H1
             obtain rfl := Option.some.inj H
             have hnb32 := NB255_256.out
             have hnc32 := NB256_255.out
             have z33_0 := bk6 BK255.out
             have z34_0 := bk5 BK256.out
             go_wp2_with (first | (go_at_call 24; (with_reducible refine (cubbyref13_in.calls a0_1 a1_2 true _ A23.out).mono ?_); (try clear A23); rintro e w' ⟨rfl, ⟨nd, rfl⟩⟩) | (go_at_call 24; (with_reducible refine (cubbyref13_in.calls a0_2 a1_3 true _ A25.out).mono ?_); (try clear A25); rintro e w' ⟨rfl, ⟨nd, rfl⟩⟩) | (go_at_call 24; (with_reducible refine (cubbyref13_in.calls a0_1 a1_3 true _ A28.out).mono ?_); (try clear A28); rintro e w' ⟨rfl, ⟨nd, rfl⟩⟩) | (go_at_call 24; (with_reducible refine (cubbyref13_in.calls a0_2 a1_2 true _ A30.out).mono ?_); (try clear A30); rintro e w' ⟨rfl, ⟨nd, rfl⟩⟩))
             go_ret
             exact ⟨qE, qB⟩
            ·replace c31 := Bool.eq_false_iff.mpr c31
             subst c31
             have H1 : (some 73) = some r := by rw [if_neg (show ¬ (false = true) by decide)] at H; exact H
             clear H
             have H := H1
             clear H1
             obtain rfl := Option.some.inj H
             have hnb35 := NB255_256.out
             have hnc35 := NB256_255.out
             have z36_0 := bk6 BK255.out
             have z37_0 := bk5 BK256.out
             go_wp2_with (first | (go_at_call 24; (with_reducible refine (cubbyref13_in.calls a0_1 a1_2 true _ A23.out).mono ?_); (try clear A23); rintro e w' ⟨rfl, ⟨nd, rfl⟩⟩) | (go_at_call 24; (with_reducible refine (cubbyref13_in.calls a0_2 a1_3 true _ A25.out).mono ?_); (try clear A25); rintro e w' ⟨rfl, ⟨nd, rfl⟩⟩) | (go_at_call 24; (with_reducible refine (cubbyref13_in.calls a0_1 a1_3 true _ A28.out).mono ?_); (try clear A28); rintro e w' ⟨rfl, ⟨nd, rfl⟩⟩) | (go_at_call 24; (with_reducible refine (cubbyref13_in.calls a0_2 a1_2 false _ A30.out).mono ?_); (try clear A30); rintro e w' ⟨rfl, ⟨nd, rfl⟩⟩))
             go_ret
             exact ⟨qE, qB⟩
           ·replace c29 := Bool.eq_false_iff.mpr c29
            subst c29
            have H1 : (some 73) = some r := by rw [if_neg (show ¬ (false = true) by decide)] at H; exact H
            clear H
            have H := H1
            clear H1
            obtain rfl := Option.some.inj H
            have hnb38 := NB255_256.out
            have hnc38 := NB256_255.out
            have z39_0 := bk6 BK255.out
            have z40_0 := bk5 BK256.out
            go_wp2_with (first | (go_at_call 24; (with_reducible refine (cubbyref13_in.calls a0_1 a1_2 true _ A23.out).mono ?_); (try clear A23); rintro e w' ⟨rfl, ⟨nd, rfl⟩⟩) | (go_at_call 24; (with_reducible refine (cubbyref13_in.calls a0_2 a1_3 true _ A25.out).mono ?_); (try clear A25); rintro e w' ⟨rfl, ⟨nd, rfl⟩⟩) | (go_at_call 24; (with_reducible refine (cubbyref13_in.calls a0_1 a1_3 false _ A28.out).mono ?_); (try clear A28); rintro e w' ⟨rfl, ⟨nd, rfl⟩⟩))
            go_ret
            exact ⟨qE, qB⟩
          ·rw [if_neg c27] at H
           obtain ⟨c27b0, c27b1⟩ := qn c27
           obtain rfl := Option.some.inj H
           have hnb41 := NB255_256.out
           have hnc41 := NB256_255.out
           have z42_0 := bk6 BK255.out
           have z43_0 := bk5 BK256.out
           go_wp2_with (first | (go_at_call 24; (with_reducible refine (cubbyref13_in.calls a0_1 a1_2 true _ A23.out).mono ?_); (try clear A23); rintro e w' ⟨rfl, ⟨nd, rfl⟩⟩) | (go_at_call 24; (with_reducible refine (cubbyref13_in.calls a0_2 a1_3 true _ A25.out).mono ?_); (try clear A25); rintro e w' ⟨rfl, ⟨nd, rfl⟩⟩))
           go_ret
           exact ⟨qE, qB⟩
         ·replace c26 := Bool.eq_false_iff.mpr c26
          subst c26
          have H1 : (some 73) = some r := by rw [if_neg (show ¬ (false = true) by decide)] at H; exact H
          clear H
          have H := H1
          clear H1
          obtain rfl := Option.some.inj H
          have hnb44 := NB255_256.out
          have hnc44 := NB256_255.out
          have z45_0 := bk6 BK255.out
          have z46_0 := bk5 BK256.out
          go_wp2_with (first | (go_at_call 24; (with_reducible refine (cubbyref13_in.calls a0_1 a1_2 true _ A23.out).mono ?_); (try clear A23); rintro e w' ⟨rfl, ⟨nd, rfl⟩⟩) | (go_at_call 24; (with_reducible refine (cubbyref13_in.calls a0_2 a1_3 false _ A25.out).mono ?_); (try clear A25); rintro e w' ⟨rfl, ⟨nd, rfl⟩⟩))
          go_ret
          exact ⟨qE, qB⟩
        ·replace c24 := Bool.eq_false_iff.mpr c24
         subst c24
         have H1 : (some 73) = some r := by rw [if_neg (show ¬ (false = true) by decide)] at H; exact H
         clear H
         have H := H1
         clear H1
         obtain rfl := Option.some.inj H
         have hnb47 := NB255_256.out
         have hnc47 := NB256_255.out
         have z48_0 := bk6 BK255.out
         have z49_0 := bk5 BK256.out
         go_wp2_with (first | (go_at_call 24; (with_reducible refine (cubbyref13_in.calls a0_1 a1_2 false _ A23.out).mono ?_); (try clear A23); rintro e w' ⟨rfl, ⟨nd, rfl⟩⟩))
         go_ret
         exact ⟨qE, qB⟩
       ·rw [if_neg c22] at H
        obtain ⟨c22b0, c22b1⟩ := qn c22
        by_cases c50 : a0_0 = 22
        ·rw [if_pos c50] at H
         obtain ⟨c50b0, c50b1⟩ := qe c50; clear c50
         replace H := qb H; obtain ⟨t261, A51, H⟩ := H
         by_cases c52 : t261 = true
         ·subst c52
          have H1 : ((cubbyref13_in.f a0_2 a1_2).bind fun t262 => (if t262 = true then (some 0) else (some 73))) = some r := by rw [if_pos rfl] at H; exact H
          clear H
          have H := H1
          clear H1
          replace H := qb H; obtain ⟨t262, A53, H⟩ := H
          by_cases c54 : t262 = true
          ·subst c54
           have H1 : (some 0) = some r := by rw [if_pos rfl] at H; exact H
           clear H
           have H := H1
           clear H1
           obtain rfl := Option.some.inj H
           have hnb55 := NB255_256.out
           have hnc55 := NB256_255.out
           have z56_0 := bk6 BK255.out
           have z57_0 := bk5 BK256.out
           go_wp2_with (first | (go_at_call 24; (with_reducible refine (cubbyref13_in.calls a0_1 a1_3 true _ A51.out).mono ?_); (try clear A51); rintro e w' ⟨rfl, ⟨nd, rfl⟩⟩) | (go_at_call 24; (with_reducible refine (cubbyref13_in.calls a0_2 a1_2 true _ A53.out).mono ?_); (try clear A53); rintro e w' ⟨rfl, ⟨nd, rfl⟩⟩))
           go_ret
           exact ⟨qE, qB⟩
          ·replace c54 := Bool.eq_false_iff.mpr c54
           subst c54
           have H1 : (some 73) = some r := by rw [if_neg (show ¬ (false = true) by decide)] at H; exact H
           clear H
           have H := H1
           clear H1
           obtain rfl := Option.some.inj H
           have hnb58 := NB255_256.out
           have hnc58 := NB256_255.out
           have z59_0 := bk6 BK255.out
           have z60_0 := bk5 BK256.out
           go_wp2_with (first | (go_at_call 24; (with_reducible refine (cubbyref13_in.calls a0_1 a1_3 true _ A51.out).mono ?_); (try clear A51); rintro e w' ⟨rfl, ⟨nd, rfl⟩⟩) | (go_at_call 24; (with_reducible refine (cubbyref13_in.calls a0_2 a1_2 false _ A53.out).mono ?_); (try clear A53); rintro e w' ⟨rfl, ⟨nd, rfl⟩⟩))
           go_ret
           exact ⟨qE, qB⟩
         ·replace c52 := Bool.eq_false_iff.mpr c52
          subst c52
          have H1 : (some 73) = some r := by rw [if_neg (show ¬ (false = true) by decide)] at H; exact H
          clear H
          have H := H1
          clear H1
          obtain rfl := Option.some.inj H
          have hnb61 := NB255_256.out
          have hnc61 := NB256_255.out
          have z62_0 := bk6 BK255.out
          have z63_0 := bk5 BK256.out
          go_wp2_with (first | (go_at_call 24; (with_reducible refine (cubbyref13_in.calls a0_1 a1_3 false _ A51.out).mono ?_); (try clear A51); rintro e w' ⟨rfl, ⟨nd, rfl⟩⟩))
          go_ret
          exact ⟨qE, qB⟩
        ·rw [if_neg c50] at H
         obtain ⟨c50b0, c50b1⟩ := qn c50
         obtain rfl := Option.some.inj H
         have hnb64 := NB255_256.out
         have hnc64 := NB256_255.out
         have z65_0 := bk6 BK255.out
         go_wp2
         go_ret
         exact ⟨qE, qB⟩
   ·replace c10 := Bool.eq_false_iff.mpr c10
    subst c10
    have H1 : (if a0_0 = 11 then (if a2 = true then (cubbyref13_one.j2 kj3 true a0_0 a0_1 a0_2 a0_3 a0_4 l0_5) else (if a0_1 = 0 then (if a0_3 = 0 then (cubbyref13_one.j2 kj3 (decide ((l0_5.length : Int) > 0)) a0_0 a0_1 a0_2 a0_3 a0_4 l0_5) else (cubbyref13_one.j2 kj3 true a0_0 a0_1 a0_2 a0_3 a0_4 l0_5)) else (cubbyref13_one.j2 kj3 true a0_0 a0_1 a0_2 a0_3 a0_4 l0_5))) else ((cubbyref07_One.f kj3 a0_0 a0_1 a0_2 a0_3 a0_4 l0_5 a1_2 (l1_4.length : Int) a2).bind fun t265 => (some t265))) = some r := by rw [if_neg (show ¬ (false = true) by decide)] at H; exact H
    clear H
    have H := H1
    clear H1
    by_cases c66 : a0_0 = 11
    ·rw [if_pos c66] at H
     obtain ⟨c66b0, c66b1⟩ := qe c66; clear c66
     have HC67 := Aside0.mk H
     clear H
     go_upto_region 10 with (fail)
     go_cut [87] (fun v87 wc => ∃ (kq : Nat) (x87_66 : Bool), v87 = .bool x87_66 ∧ Aside0 (cubbyref13_one.j2 kq x87_66 a0_0 a0_1 a0_2 a0_3 a0_4 l0_5 = some r) ∧ Aside0 (kq ≤ kj3) ∧ Aside0 (wc.heap[gb255]? = some (.cells #[.int .i64 a0_0, .int .i64 a0_1, .int .i64 a0_2, .int .i64 a0_3, .string a0_4, (.slice A0_5 l0_5.length c0_5)] 31 (0, 0))) ∧ Aside0 (wc.heap[gb256]? = some (.cells #[.string a1_0, .int .i64 a1_1, .int .i64 a1_2, .int .i64 a1_3, (.slice A1_4 l1_4.length c1_4)] 24 (0, 0))) ∧ Aside0 (Below w.heap.size w wc))
     case first =>
      have H := HC67.out
      clear HC67
      by_cases c68 : a2 = true
      ·subst c68
       have H1 : (cubbyref13_one.j2 kj3 true a0_0 a0_1 a0_2 a0_3 a0_4 l0_5) = some r := by rw [if_pos rfl] at H; exact H
       clear H
       have H := H1
       clear H1
       have H' := Aside0.mk H
       clear H
       go_wp2
       go_meet
       case rel => exact ⟨_, (true), qT, H', ⟨by have := HJ3.out; first | omega | exact Nat.le_refl _⟩, ⟨qK BK255.out⟩, ⟨qK BK256.out⟩, ⟨qB⟩⟩
      ·replace c68 := Bool.eq_false_iff.mpr c68
       subst c68
       have H1 : (if a0_1 = 0 then (if a0_3 = 0 then (cubbyref13_one.j2 kj3 (decide ((l0_5.length : Int) > 0)) a0_0 a0_1 a0_2 a0_3 a0_4 l0_5) else (cubbyref13_one.j2 kj3 true a0_0 a0_1 a0_2 a0_3 a0_4 l0_5)) else (cubbyref13_one.j2 kj3 true a0_0 a0_1 a0_2 a0_3 a0_4 l0_5)) = some r := by rw [if_neg (show ¬ (false = true) by decide)] at H; exact H
       clear H
       have H := H1
       clear H1
       by_cases c69 : a0_1 = 0
       ·rw [if_pos c69] at H
        obtain ⟨c69b0, c69b1⟩ := qe c69; clear c69
        (first | rw [c69b0] | (simp only [i64_w, i32_w]; rw [c69b0]) | skip)
        by_cases c70 : a0_3 = 0
        ·rw [if_pos c70] at H
         obtain ⟨c70b0, c70b1⟩ := qe c70; clear c70
         have H' := Aside0.mk H
         clear H
         have hnb71 := NB255_256.out
         have hnc71 := NB256_255.out
         have z72_0 := bk6 BK255.out
         go_wp2
         go_meet
         case rel => exact ⟨_, (decide ((l0_5.length : Int) > 0)), qT, H', ⟨by have := HJ3.out; first | omega | exact Nat.le_refl _⟩, ⟨qK BK255.out⟩, ⟨qK BK256.out⟩, ⟨qB⟩⟩
        ·rw [if_neg c70] at H
         obtain ⟨c70b0, c70b1⟩ := qn c70
         have H' := Aside0.mk H
         clear H
         have hnb73 := NB255_256.out
         have hnc73 := NB256_255.out
         have z74_0 := bk6 BK255.out
         go_wp2
         go_meet
         case rel => exact ⟨_, (true), qT, H', ⟨by have := HJ3.out; first | omega | exact Nat.le_refl _⟩, ⟨qK BK255.out⟩, ⟨qK BK256.out⟩, ⟨qB⟩⟩
       ·rw [if_neg c69] at H
        obtain ⟨c69b0, c69b1⟩ := qn c69
        (first | rw [c69b0] | (simp only [i64_w, i32_w]; rw [c69b0]) | skip)
        have H' := Aside0.mk H
        clear H
        have hnb75 := NB255_256.out
        have hnc75 := NB256_255.out
        have z76_0 := bk6 BK255.out
        go_wp2
        go_meet
        case rel => exact ⟨_, (true), qT, H', ⟨by have := HJ3.out; first | omega | exact Nat.le_refl _⟩, ⟨qK BK255.out⟩, ⟨qK BK256.out⟩, ⟨qB⟩⟩
     case rest =>
      clear HC67
      try clear c1; try clear c2; try clear p2; try clear c3; try clear c4; try clear c5; try clear c6; try clear c7; try clear c9; try clear c9b0 c9b1; try clear c10; try clear c12; try clear c13; try clear c13b0 c13b1; try clear c14; try clear c14b0 c14b1; try clear c15; try clear c17; try clear c19; try clear c21; try clear c22; try clear c22b0 c22b1; try clear c24; try clear c26; try clear c27; try clear c27b0 c27b1; try clear c29; try clear c31; try clear c32; try clear c35; try clear c38; try clear c41; try clear c44; try clear c47; try clear c50; try clear c50b0 c50b1; try clear c52; try clear c54; try clear c55; try clear c58; try clear c61; try clear c64; try clear c66b0 c66b1; try clear c68; try clear c69; try clear c69b0 c69b1; try clear c70; try clear c70b0 c70b1; try clear c71; try clear c73; try clear c75; try clear z16_0; try clear z18_0; try clear z20_0; try clear z33_0; try clear z34_0; try clear z36_0; try clear z37_0; try clear z39_0; try clear z40_0; try clear z42_0; try clear z43_0; try clear z45_0; try clear z46_0; try clear z48_0; try clear z49_0; try clear z56_0; try clear z57_0; try clear z59_0; try clear z60_0; try clear z62_0; try clear z63_0; try clear z65_0; try clear z72_0; try clear z74_0; try clear z76_0; try clear z8_0
      obtain ⟨kq, x87_66, rfl, HA, HJ66, BK255, BK256, HB⟩ := hcut
      cases kq with
      | zero => exact absurd HA.out (by simp [cubbyref13_one.j2])
      | succ kj66 =>
       have H := HA.out
       clear HA
       simp only [cubbyref13_one.j2] at H
       by_cases c77 : x87_66 = true
       ·subst c77
        have H1 : (some 72) = some r := by rw [if_pos rfl] at H; exact H
        clear H
        have H := H1
        clear H1
        obtain rfl := Option.some.inj H
        go_wp2
        go_ret
        exact ⟨qE, qB⟩
       ·replace c77 := Bool.eq_false_iff.mpr c77
        subst c77
        have H1 : ((cubbyref07_Name.f kj66 a0_4).bind fun t263 => (if t263 = true then ((cubbyref13_in.f a0_2 5).bind fun t264 => (if t264 = true then (some 0) else (some 192))) else (some 70))) = some r := by rw [if_neg (show ¬ (false = true) by decide)] at H; exact H
        clear H
        have H := H1
        clear H1
        replace H := qb H; obtain ⟨t263, A78, H⟩ := H
        by_cases c79 : t263 = true
        ·subst c79
         have H1 : ((cubbyref13_in.f a0_2 5).bind fun t264 => (if t264 = true then (some 0) else (some 192))) = some r := by rw [if_pos rfl] at H; exact H
         clear H
         have H := H1
         clear H1
         replace H := qb H; obtain ⟨t264, A80, H⟩ := H
         by_cases c81 : t264 = true
         ·subst c81
          have H1 : (some 0) = some r := by rw [if_pos rfl] at H; exact H
          clear H
          have H := H1
          clear H1
          obtain rfl := Option.some.inj H
          have hnb82 := NB255_256.out
          have hnc82 := NB256_255.out
          have z83_0 := bk6 BK255.out
          go_wp2_with (first | ((with_reducible refine gate_callee (f := 16) rfl ?_); refine goesL_ (some 90) rfl rfl Tryd.func16 (by kernel_rfl) rfl #[.string a0_4] rfl qL ?_; (with_reducible refine (cubbyref07_Name.calls kj66 a0_4 true _ A78.out).mono ?_); rintro e w' ⟨rfl, ⟨nd, rfl⟩⟩; refine ⟨_, rfl, ?_⟩) | ((with_reducible refine gate_callee (f := 24) rfl ?_); refine goesL_ (some 94) rfl rfl Tryd.func24 (by kernel_rfl) rfl #[.int .i64 a0_2, .int .i64 5] rfl qL ?_; (with_reducible refine (cubbyref13_in.calls a0_2 5 true _ A80.out).mono ?_); rintro e w' ⟨rfl, ⟨nd, rfl⟩⟩; refine ⟨_, rfl, ?_⟩))
          go_ret
          exact ⟨qE, qB⟩
         ·replace c81 := Bool.eq_false_iff.mpr c81
          subst c81
          have H1 : (some 192) = some r := by rw [if_neg (show ¬ (false = true) by decide)] at H; exact H
          clear H
          have H := H1
          clear H1
          obtain rfl := Option.some.inj H
          have hnb84 := NB255_256.out
          have hnc84 := NB256_255.out
          have z85_0 := bk6 BK255.out
          go_wp2_with (first | ((with_reducible refine gate_callee (f := 16) rfl ?_); refine goesL_ (some 90) rfl rfl Tryd.func16 (by kernel_rfl) rfl #[.string a0_4] rfl qL ?_; (with_reducible refine (cubbyref07_Name.calls kj66 a0_4 true _ A78.out).mono ?_); rintro e w' ⟨rfl, ⟨nd, rfl⟩⟩; refine ⟨_, rfl, ?_⟩) | ((with_reducible refine gate_callee (f := 24) rfl ?_); refine goesL_ (some 94) rfl rfl Tryd.func24 (by kernel_rfl) rfl #[.int .i64 a0_2, .int .i64 5] rfl qL ?_; (with_reducible refine (cubbyref13_in.calls a0_2 5 false _ A80.out).mono ?_); rintro e w' ⟨rfl, ⟨nd, rfl⟩⟩; refine ⟨_, rfl, ?_⟩))
          go_ret
          exact ⟨qE, qB⟩
        ·replace c79 := Bool.eq_false_iff.mpr c79
         subst c79
         have H1 : (some 70) = some r := by rw [if_neg (show ¬ (false = true) by decide)] at H; exact H
         clear H
         have H := H1
         clear H1
         obtain rfl := Option.some.inj H
         have hnb86 := NB255_256.out
         have hnc86 := NB256_255.out
         have z87_0 := bk6 BK255.out
         go_wp2_with (first | ((with_reducible refine gate_callee (f := 16) rfl ?_); refine goesL_ (some 90) rfl rfl Tryd.func16 (by kernel_rfl) rfl #[.string a0_4] rfl qL ?_; (with_reducible refine (cubbyref07_Name.calls kj66 a0_4 false _ A78.out).mono ?_); rintro e w' ⟨rfl, ⟨nd, rfl⟩⟩; refine ⟨_, rfl, ?_⟩))
         go_ret
         exact ⟨qE, qB⟩
    ·rw [if_neg c66] at H
     obtain ⟨c66b0, c66b1⟩ := qn c66
     replace H := qb H; obtain ⟨t265, A88, H⟩ := H
     obtain rfl := Option.some.inj H
     have hnb89 := NB255_256.out
     have hnc89 := NB256_255.out
     have z90_0 := bk6 BK255.out
     have z91_0 := bk5 BK256.out
     go_wp2_with (first | ((with_reducible refine gate_callee (f := 27) rfl ?_); refine goesL_ (some 103) rfl rfl Tryd.func27 (by kernel_rfl) rfl #[.agg #[.int .i64 a0_0, .int .i64 a0_1, .int .i64 a0_2, .int .i64 a0_3, .string a0_4, .slice A0_5 l0_5.length c0_5], .int .i64 a1_2, .int .i64 (l1_4.length : Int), .bool a2] rfl qL ?_; (with_reducible refine (cubbyref07_One.calls kj3 a0_0 a0_1 a0_2 a0_3 a0_4 _ _ l0_5 a1_2 (l1_4.length : Int) a2 t265 _ ?side1 ?side2 A88.out).mono ?_); (case side1 => exact qCB HR0_5.out); (case side2 => exact HC0_5.out); rintro e w92 ⟨rfl, hb⟩; refine ⟨_, rfl, ?_⟩; replace BK255 := qW BK255 hb; replace BK256 := qW BK256 hb; replace HB := qH hb; (try clear hb)))
     go_ret
     exact ⟨qE, qB⟩

end Go.Proofs.YtbipipbfiekbgaaDoor.Q
