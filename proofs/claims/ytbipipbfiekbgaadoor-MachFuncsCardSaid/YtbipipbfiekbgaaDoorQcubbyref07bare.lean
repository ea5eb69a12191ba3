/- Lean functions that answer as the Go functions named below do, and the proofs of that. Written by a program out of the translation. -/
import Derived.Test.YtbipipbfiekbgaaDoorQ0
import Derived.Test.YtbipipbfiekbgaaDoorSq
namespace Go.Proofs.YtbipipbfiekbgaaDoor.Q
open Go.RowKit Go.Proofs.YtbipipbfiekbgaaDoorW.PrintWords Go.Proofs.YtbipipbfiekbgaaDoorW.PrintLast Go.Proofs.YtbipipbfiekbgaaDoorW.PrintMore
attribute [local go_sem] max2_int min2_int max_two min_two max_three min_three max_four min_four   -- for this text's walks alone
set_option linter.unusedVariables false
set_option linter.unusedSimpArgs false

/-! ### cubbyref07_bare: function 37 -/
mutual
def cubbyref07_bare.j0 : Nat → Bool → Int → Int → Int → Int → ByteArray → List Int → Option (Bool)
 | 0, _, _, _, _, _, _, _ => none
 | k + 1, x16, x202000, x202001, x202002, x202003, x202004, x202005 => if x16 = true then (some false) else (if x202000 = 1 then (cubbyref07_bare.j1 k x202000 (x202000 == 1) x202000 x202001 x202002 x202003 x202004 x202005) else (if x202000 = 2 then (cubbyref07_bare.j1 k x202000 (x202000 == 2) x202000 x202001 x202002 x202003 x202004 x202005) else (cubbyref07_bare.j1 k x202000 (x202000 == 8) x202000 x202001 x202002 x202003 x202004 x202005)))
def cubbyref07_bare.j1 : Nat → Int → Bool → Int → Int → Int → Int → ByteArray → List Int → Option (Bool)
 | 0, _, _, _, _, _, _, _, _ => none
 | k + 1, x18, x19, x202000, x202001, x202002, x202003, x202004, x202005 => if x19 = true then (some (x202003 == 0)) else (if x18 = 3 then (cubbyref07_bare.j2 k x18 (x18 == 3) x202000 x202001 x202002 x202003 x202004 x202005) else (if x18 = 4 then (cubbyref07_bare.j2 k x18 (x18 == 4) x202000 x202001 x202002 x202003 x202004 x202005) else (if x18 = 5 then (cubbyref07_bare.j2 k x18 (x18 == 5) x202000 x202001 x202002 x202003 x202004 x202005) else (if x18 = 6 then (cubbyref07_bare.j2 k x18 (x18 == 6) x202000 x202001 x202002 x202003 x202004 x202005) else (if x18 = 7 then (cubbyref07_bare.j2 k x18 (x18 == 7) x202000 x202001 x202002 x202003 x202004 x202005) else (cubbyref07_bare.j2 k x18 (x18 == 13) x202000 x202001 x202002 x202003 x202004 x202005))))))
def cubbyref07_bare.j2 : Nat → Int → Bool → Int → Int → Int → Int → ByteArray → List Int → Option (Bool)
 | 0, _, _, _, _, _, _, _, _ => none
 | k + 1, x18, x26, x202000, x202001, x202002, x202003, x202004, x202005 => if x26 = true then (some true) else (if x18 = 9 then (some (x202001 == 0)) else (if x18 = 10 then (cubbyref07_bare.j3 k x18 (x18 == 10) x202000 x202001 x202002 x202003 x202004 x202005) else (if x18 = 14 then (cubbyref07_bare.j3 k x18 (x18 == 14) x202000 x202001 x202002 x202003 x202004 x202005) else (cubbyref07_bare.j3 k x18 (x18 == 12) x202000 x202001 x202002 x202003 x202004 x202005))))
def cubbyref07_bare.j3 : Nat → Int → Bool → Int → Int → Int → Int → ByteArray → List Int → Option (Bool)
 | 0, _, _, _, _, _, _, _, _ => none
 | k + 1, x18, x38, x202000, x202001, x202002, x202003, x202004, x202005 => if x38 = true then (if x202001 = 0 then (some (x202003 == 0)) else (some false)) else (if x18 = 11 then (if x202002 = 0 then (some (x202003 == 0)) else (some false)) else (some false))
end
def cubbyref07_bare.f (k : Nat) (a0_0 : Int) (a0_1 : Int) (a0_2 : Int) (a0_3 : Int) (a0_4 : ByteArray) (l0_5 : List Int) : Option (Bool) := if a0_0 = 11 then (cubbyref07_bare.j0 k false a0_0 a0_1 a0_2 a0_3 a0_4 l0_5) else (if a0_4.toList = ([] : List UInt8) then (cubbyref07_bare.j0 k (decide ((l0_5.length : Int) > 0)) a0_0 a0_1 a0_2 a0_3 a0_4 l0_5) else (cubbyref07_bare.j0 k true a0_0 a0_1 a0_2 a0_3 a0_4 l0_5))
theorem cubbyref07_bare.mono_l : ∀ k, (∀ y0 y1 y2 y3 y4 y5 y6, LeO (cubbyref07_bare.j0 k y0 y1 y2 y3 y4 y5 y6) (cubbyref07_bare.j0 (k + 1) y0 y1 y2 y3 y4 y5 y6)) ∧ (∀ y0 y1 y2 y3 y4 y5 y6 y7, LeO (cubbyref07_bare.j1 k y0 y1 y2 y3 y4 y5 y6 y7) (cubbyref07_bare.j1 (k + 1) y0 y1 y2 y3 y4 y5 y6 y7)) ∧ (∀ y0 y1 y2 y3 y4 y5 y6 y7, LeO (cubbyref07_bare.j2 k y0 y1 y2 y3 y4 y5 y6 y7) (cubbyref07_bare.j2 (k + 1) y0 y1 y2 y3 y4 y5 y6 y7)) ∧ (∀ y0 y1 y2 y3 y4 y5 y6 y7, LeO (cubbyref07_bare.j3 k y0 y1 y2 y3 y4 y5 y6 y7) (cubbyref07_bare.j3 (k + 1) y0 y1 y2 y3 y4 y5 y6 y7))
 | 0 => ⟨fun _ _ _ _ _ _ _ r h => by simp [cubbyref07_bare.j0] at h, fun _ _ _ _ _ _ _ _ r h => by simp [cubbyref07_bare.j1] at h, fun _ _ _ _ _ _ _ _ r h => by simp [cubbyref07_bare.j2] at h, fun _ _ _ _ _ _ _ _ r h => by simp [cubbyref07_bare.j3] at h⟩
 | k + 1 => by
  obtain ⟨ih0, ih1, ih2, ih3⟩ := cubbyref07_bare.mono_l k
  refine ⟨?_, ?_, ?_, ?_⟩ <;> intros <;> (first | unfold cubbyref07_bare.j0 | unfold cubbyref07_bare.j1 | unfold cubbyref07_bare.j2 | unfold cubbyref07_bare.j3) <;> repeat' first | (with_reducible exact ih0 _ _ _ _ _ _ _) | (with_reducible exact ih1 _ _ _ _ _ _ _ _) | (with_reducible exact ih2 _ _ _ _ _ _ _ _) | (with_reducible exact ih3 _ _ _ _ _ _ _ _) | (with_reducible exact LeO.refl _) | (with_reducible exact LeO.none _) | (with_reducible refine LeO.ite ?_ ?_) | (with_reducible refine LeO.bind ?_ (fun _ => ?_)) | exact LeO.none _ | refine LeO.ite ?_ ?_ | refine LeO.bind ?_ (fun _ => ?_)
theorem cubbyref07_bare.mono : ∀ a0 a1 a2 a3 a4 a5 k, LeO (cubbyref07_bare.f k a0 a1 a2 a3 a4 a5) (cubbyref07_bare.f (k + 1) a0 a1 a2 a3 a4 a5) := by
 intro a0 a1 a2 a3 a4 a5 k
 obtain ⟨ih0, ih1, ih2, ih3⟩ := cubbyref07_bare.mono_l k
 unfold cubbyref07_bare.f
 repeat' first | (with_reducible exact ih0 _ _ _ _ _ _ _) | (with_reducible exact ih1 _ _ _ _ _ _ _ _) | (with_reducible exact ih2 _ _ _ _ _ _ _ _) | (with_reducible exact ih3 _ _ _ _ _ _ _ _) | (with_reducible exact LeO.refl _) | (with_reducible exact LeO.none _) | (with_reducible refine LeO.ite ?_ ?_) | (with_reducible refine LeO.bind ?_ (fun _ => ?_)) | exact LeO.none _ | refine LeO.ite ?_ ?_ | refine LeO.bind ?_ (fun _ => ?_)
set_option maxHeartbeats 8000000 in
set_option maxRecDepth 100000 in
theorem cubbyref07_bare.calls (k : Nat) (a0_0 : Int) (a0_1 : Int) (a0_2 : Int) (a0_3 : Int) (a0_4 : ByteArray) (A0_5 : Option Addr) (c0_5 : Nat) (l0_5 : List Int) (r : Bool) (w : World) (hr0_5 : Kd.C (Kd.int .i64) w A0_5 l0_5.length l0_5) (hc0_5 : l0_5.length ≤ c0_5) (h : cubbyref07_bare.f k a0_0 a0_1 a0_2 a0_3 a0_4 l0_5 = some r) :
  Calls Tryd.prog 37 #[.agg #[.int .i64 a0_0, .int .i64 a0_1, .int .i64 a0_2, .int .i64 a0_3, .string a0_4, .slice A0_5 l0_5.length c0_5]] w fun e w' => e = .returned (.bool r) ∧ Below w.heap.size w w' := by
 have hu31 := Tryd.underlying31
 have HR0_5 := Aside0.mk hr0_5
 have HC0_5 := Aside0.mk hc0_5
 clear hr0_5 hc0_5
 have HB := Aside0.mk (Below.refl w.heap.size w)
 have H := h; clear h; unfold cubbyref07_bare.f at H
 have HC2 := Aside0.mk H
 clear H
 go_enter Tryd.func37, Tryd.ntmps37
 go_upto_region 1 with (first | ((with_reducible refine gate_dst (N := 1) rfl ?_); (try (refine gate_guard (by rfl) ?_; dsimp only)); refine box_event (by rfl) (N := 1) (by rfl) (cs := #[.int .i64 a0_0, .int .i64 a0_1, .int .i64 a0_2, .int .i64 a0_3, .string a0_4, .slice A0_5 l0_5.length c0_5]) (t := 31) ?hr ?_; (case hr => first | (go_simp; done) | (go_simp; rfl)); intro gb201 hg w3 hbox hb; have BK201 := Aside0.mk (hbox); have GW201 := qG hg; have GE201 := GW201; replace HB := qH hb; clear hb hbox hg))
 (try simp only [Act.put, List.setIfInBounds_toArray, List.set_cons_zero, List.set_cons_succ])
 go_cut [16] (fun v16 wc => ∃ (kq : Nat) (x16_1 : Bool), v16 = .bool x16_1 ∧ Aside0 (cubbyref07_bare.j0 kq x16_1 a0_0 a0_1 a0_2 a0_3 a0_4 l0_5 = some r) ∧ Aside0 (kq ≤ k) ∧ Aside0 (wc.heap[gb201]? = some (.cells #[.int .i64 a0_0, .int .i64 a0_1, .int .i64 a0_2, .int .i64 a0_3, .string a0_4, (.slice A0_5 l0_5.length c0_5)] 31 (0, 0))) ∧ Aside0 (Below w.heap.size w wc))
 case first =>
  have H := HC2.out
  clear HC2
  by_cases c4 : a0_0 = 11
  ·rw [if_pos c4] at H
   obtain ⟨c4b0, c4b1⟩ := qe c4; clear c4
   (first | rw [c4b0] | (simp only [i64_w, i32_w]; rw [c4b0]) | skip)
   have H' := Aside0.mk H
   clear H
   have z5_0 := bk6 BK201.out
   go_wp2
   go_meet
   case rel => exact ⟨_, (false), qT, H', ⟨qO⟩, ⟨qK BK201.out⟩, ⟨qB⟩⟩
  ·rw [if_neg c4] at H
   obtain ⟨c4b0, c4b1⟩ := qn c4
   (first | rw [c4b0] | (simp only [i64_w, i32_w]; rw [c4b0]) | skip)
   by_cases c6 : a0_4.toList = ([] : List UInt8)
   ·rw [if_pos c6] at H
    obtain ⟨c6b0, c6b1⟩ := qe c6; clear c6
    have H' := Aside0.mk H
    clear H
    have z7_0 := bk6 BK201.out
    go_wp2
    go_meet
    case rel => exact ⟨_, (decide ((l0_5.length : Int) > 0)), qT, H', ⟨qO⟩, ⟨qK BK201.out⟩, ⟨qB⟩⟩
   ·rw [if_neg c6] at H
    obtain ⟨c6b0, c6b1⟩ := qn c6
    have H' := Aside0.mk H
    clear H
    have z8_0 := bk6 BK201.out
    go_wp2
    go_meet
    case rel => exact ⟨_, (true), qT, H', ⟨qO⟩, ⟨qK BK201.out⟩, ⟨qB⟩⟩
 case rest =>
  clear HC2
  try clear p2; try clear c3; try clear c4; try clear c4b0 c4b1; try clear c6; try clear c6b0 c6b1; try clear z5_0; try clear z7_0; try clear z8_0
  obtain ⟨kq, x16_1, rfl, HA, HJ1, BK201, HB⟩ := hcut
  cases kq with
  | zero => exact absurd HA.out (by simp [cubbyref07_bare.j0])
  | succ kj1 =>
   have H := HA.out
   clear HA
   simp only [cubbyref07_bare.j0] at H
   by_cases c9 : x16_1 = true
   ·subst c9
    have H1 : (some false) = some r := by rw [if_pos rfl] at H; exact H
    clear H
    have H := H1
    clear H1
    obtain rfl := Option.some.inj H
    go_wp2
    go_ret
    exact ⟨qE, qB⟩
   ·replace c9 := Bool.eq_false_iff.mpr c9
    subst c9
    have H1 : (if a0_0 = 1 then (cubbyref07_bare.j1 kj1 a0_0 (a0_0 == 1) a0_0 a0_1 a0_2 a0_3 a0_4 l0_5) else (if a0_0 = 2 then (cubbyref07_bare.j1 kj1 a0_0 (a0_0 == 2) a0_0 a0_1 a0_2 a0_3 a0_4 l0_5) else (cubbyref07_bare.j1 kj1 a0_0 (a0_0 == 8) a0_0 a0_1 a0_2 a0_3 a0_4 l0_5))) = some r := by rw [if_neg (show ¬ (false = true) by decide)] at H; exact H
    clear H
    have H := H1
    clear H1
    have HC10 := Aside0.mk H
    clear H
    have z11_0 := bk6 BK201.out
    go_upto_if 19 with (fail)
    go_cut [19] (fun v19 wc => ∃ (kq : Nat) (x19_9 : Bool), v19 = .bool x19_9 ∧ Aside0 (cubbyref07_bare.j1 kq a0_0 x19_9 a0_0 a0_1 a0_2 a0_3 a0_4 l0_5 = some r) ∧ Aside0 (kq ≤ kj1) ∧ Aside0 (wc.heap[gb201]? = some (.cells #[.int .i64 a0_0, .int .i64 a0_1, .int .i64 a0_2, .int .i64 a0_3, .string a0_4, (.slice A0_5 l0_5.length c0_5)] 31 (0, 0))) ∧ Aside0 (Below w.heap.size w wc))
    case first =>
     have H := HC10.out
     clear HC10
     by_cases c12 : a0_0 = 1
     ·rw [if_pos c12] at H
      obtain ⟨c12b0, c12b1⟩ := qe c12; clear c12
      (first | rw [c12b0] | (simp only [i64_w, i32_w]; rw [c12b0]) | skip)
      have H' := Aside0.mk H
      clear H
      go_wp2
      go_meet
      case rel => exact ⟨_, ((a0_0 == 1)), qT, H', ⟨by have := HJ1.out; first | omega | exact Nat.le_refl _⟩, ⟨qK BK201.out⟩, ⟨qB⟩⟩
     ·rw [if_neg c12] at H
      obtain ⟨c12b0, c12b1⟩ := qn c12
      (first | rw [c12b0] | (simp only [i64_w, i32_w]; rw [c12b0]) | skip)
      by_cases c13 : a0_0 = 2
      ·rw [if_pos c13] at H
       obtain ⟨c13b0, c13b1⟩ := qe c13; clear c13
       have H' := Aside0.mk H
       clear H
       go_wp2
       go_meet
       case rel => exact ⟨_, ((a0_0 == 2)), qT, H', ⟨by have := HJ1.out; first | omega | exact Nat.le_refl _⟩, ⟨qK BK201.out⟩, ⟨qB⟩⟩
      ·rw [if_neg c13] at H
       obtain ⟨c13b0, c13b1⟩ := qn c13
       have H' := Aside0.mk H
       clear H
       go_wp2
       go_meet
       case rel => exact ⟨_, ((a0_0 == 8)), qT, H', ⟨by have := HJ1.out; first | omega | exact Nat.le_refl _⟩, ⟨qK BK201.out⟩, ⟨qB⟩⟩
    case rest =>
     clear HC10
     try clear c1; try clear p2; try clear c3; try clear c4; try clear c4b0 c4b1; try clear c6; try clear c6b0 c6b1; try clear c9; try clear c12; try clear c12b0 c12b1; try clear c13; try clear c13b0 c13b1; try clear z11_0; try clear z5_0; try clear z7_0; try clear z8_0
     obtain ⟨kq, x19_9, rfl, HA, HJ9, BK201, HB⟩ := hcut
     cases kq with
     | zero => exact absurd HA.out (by simp [cubbyref07_bare.j1])
     | succ kj9 =>
      have H := HA.out
      clear HA
      simp only [cubbyref07_bare.j1] at H
      by_cases c14 : x19_9 = true
      ·subst c14
       have H1 : (some (a0_3 == 0)) = some r := by rw [if_pos rfl] at H; exact H
       clear H
       have H := H1
       clear H1
       obtain rfl := Option.some.inj H
       have z15_0 := bk6 BK201.out
       go_wp2
       go_ret
       exact ⟨qE, qB⟩
      ·replace c14 := Bool.eq_false_iff.mpr c14
       subst c14
       have H1 : (if a0_0 = 3 then (cubbyref07_bare.j2 kj9 a0_0 (a0_0 == 3) a0_0 a0_1 a0_2 a0_3 a0_4 l0_5) else (if a0_0 = 4 then (cubbyref07_bare.j2 kj9 a0_0 (a0_0 == 4) a0_0 a0_1 a0_2 a0_3 a0_4 l0_5) else (if a0_0 = 5 then (cubbyref07_bare.j2 kj9 a0_0 (a0_0 == 5) a0_0 a0_1 a0_2 a0_3 a0_4 l0_5) else (if a0_0 = 6 then (cubbyref07_bare.j2 kj9 a0_0 (a0_0 == 6) a0_0 a0_1 a0_2 a0_3 a0_4 l0_5) else (if a0_0 = 7 then (cubbyref07_bare.j2 kj9 a0_0 (a0_0 == 7) a0_0 a0_1 a0_2 a0_3 a0_4 l0_5) else (cubbyref07_bare.j2 kj9 a0_0 (a0_0 == 13) a0_0 a0_1 a0_2 a0_3 a0_4 l0_5)))))) = some r := by rw [if_neg (show ¬ (false = true) by decide)] at H; exact H
       clear H
       have H := H1
       clear H1
       have HC16 := Aside0.mk H
       clear H
       go_upto_if 26 with (fail)
       go_cut [26] (fun v26 wc => ∃ (kq : Nat) (x26_15 : Bool), v26 = .bool x26_15 ∧ Aside0 (cubbyref07_bare.j2 kq a0_0 x26_15 a0_0 a0_1 a0_2 a0_3 a0_4 l0_5 = some r) ∧ Aside0 (kq ≤ kj9) ∧ Aside0 (wc.heap[gb201]? = some (.cells #[.int .i64 a0_0, .int .i64 a0_1, .int .i64 a0_2, .int .i64 a0_3, .string a0_4, (.slice A0_5 l0_5.length c0_5)] 31 (0, 0))) ∧ Aside0 (Below w.heap.size w wc))
       case first =>
        have H := HC16.out
        clear HC16
        by_cases c17 : a0_0 = 3
        ·rw [if_pos c17] at H
         obtain ⟨c17b0, c17b1⟩ := qe c17; clear c17
         (first | rw [c17b0] | (simp only [i64_w, i32_w]; rw [c17b0]) | skip)
         have H' := Aside0.mk H
         clear H
         go_wp2
         go_meet
         case rel => exact ⟨_, ((a0_0 == 3)), qT, H', ⟨by have := HJ1.out; have := HJ9.out; first | omega | exact Nat.le_refl _⟩, ⟨qK BK201.out⟩, ⟨qB⟩⟩
        ·rw [if_neg c17] at H
         obtain ⟨c17b0, c17b1⟩ := qn c17
         (first | rw [c17b0] | (simp only [i64_w, i32_w]; rw [c17b0]) | skip)
         by_cases c18 : a0_0 = 4
         ·rw [if_pos c18] at H
          obtain ⟨c18b0, c18b1⟩ := qe c18; clear c18
          have H' := Aside0.mk H
          clear H
          go_wp2
          go_meet
          case rel => exact ⟨_, ((a0_0 == 4)), qT, H', ⟨by have := HJ1.out; have := HJ9.out; first | omega | exact Nat.le_refl _⟩, ⟨qK BK201.out⟩, ⟨qB⟩⟩
         ·rw [if_neg c18] at H
          obtain ⟨c18b0, c18b1⟩ := qn c18
          by_cases c19 : a0_0 = 5
          ·rw [if_pos c19] at H
           obtain ⟨c19b0, c19b1⟩ := qe c19; clear c19
           have H' := Aside0.mk H
           clear H
           go_wp2
           go_meet
           case rel => exact ⟨_, ((a0_0 == 5)), qT, H', ⟨by have := HJ1.out; have := HJ9.out; first | omega | exact Nat.le_refl _⟩, ⟨qK BK201.out⟩, ⟨qB⟩⟩
          ·rw [if_neg c19] at H
           obtain ⟨c19b0, c19b1⟩ := qn c19
           by_cases c20 : a0_0 = 6
           ·rw [if_pos c20] at H
            obtain ⟨c20b0, c20b1⟩ := qe c20; clear c20
            have H' := Aside0.mk H
            clear H
            go_wp2
            go_meet
            case rel => exact ⟨_, ((a0_0 == 6)), qT, H', ⟨by have := HJ1.out; have := HJ9.out; first | omega | exact Nat.le_refl _⟩, ⟨qK BK201.out⟩, ⟨qB⟩⟩
           ·rw [if_neg c20] at H
            obtain ⟨c20b0, c20b1⟩ := qn c20
            by_cases c21 : a0_0 = 7
            ·rw [if_pos c21] at H
             obtain ⟨c21b0, c21b1⟩ := qe c21; clear c21
             have H' := Aside0.mk H
             clear H
             go_wp2
             go_meet
             case rel => exact ⟨_, ((a0_0 == 7)), qT, H', ⟨by have := HJ1.out; have := HJ9.out; first | omega | exact Nat.le_refl _⟩, ⟨qK BK201.out⟩, ⟨qB⟩⟩
            ·rw [if_neg c21] at H
             obtain ⟨c21b0, c21b1⟩ := qn c21
             have H' := Aside0.mk H
             clear H
             go_wp2
             go_meet
             case rel => exact ⟨_, ((a0_0 == 13)), qT, H', ⟨by have := HJ1.out; have := HJ9.out; first | omega | exact Nat.le_refl _⟩, ⟨qK BK201.out⟩, ⟨qB⟩⟩
       case rest =>
        clear HC16
        try clear c1; try clear c2; try clear p2; try clear c3; try clear c4; try clear c4b0 c4b1; try clear c6; try clear c6b0 c6b1; try clear c9; try clear c12; try clear c12b0 c12b1; try clear c13; try clear c13b0 c13b1; try clear c14; try clear c17; try clear c17b0 c17b1; try clear c18; try clear c18b0 c18b1; try clear c19; try clear c19b0 c19b1; try clear c20; try clear c20b0 c20b1; try clear c21; try clear c21b0 c21b1; try clear z11_0; try clear z15_0; try clear z5_0; try clear z7_0; try clear z8_0
        obtain ⟨kq, x26_15, rfl, HA, HJ15, BK201, HB⟩ := hcut
        cases kq with
        | zero => exact absurd HA.out (by simp [cubbyref07_bare.j2])
        | succ kj15 =>
         have H := HA.out
         clear HA
         simp only [cubbyref07_bare.j2] at H
         by_cases c22 : x26_15 = true
         ·subst c22
          have H1 : (some true) = some r := by rw [if_pos rfl] at H; exact H
          clear H
          have H := H1
          clear H1
          obtain rfl := Option.some.inj H
          go_wp2
          go_ret
          exact ⟨qE, qB⟩
         ·replace c22 := Bool.eq_false_iff.mpr c22
          subst c22
          have H1 : (if a0_0 = 9 then (some (a0_1 == 0)) else (if a0_0 = 10 then (cubbyref07_bare.j3 kj15 a0_0 (a0_0 == 10) a0_0 a0_1 a0_2 a0_3 a0_4 l0_5) else (if a0_0 = 14 then (cubbyref07_bare.j3 kj15 a0_0 (a0_0 == 14) a0_0 a0_1 a0_2 a0_3 a0_4 l0_5) else (cubbyref07_bare.j3 kj15 a0_0 (a0_0 == 12) a0_0 a0_1 a0_2 a0_3 a0_4 l0_5)))) = some r := by rw [if_neg (show ¬ (false = true) by decide)] at H; exact H
          clear H
          have H := H1
          clear H1
          by_cases c23 : a0_0 = 9
          ·rw [if_pos c23] at H
           obtain ⟨c23b0, c23b1⟩ := qe c23; clear c23
           obtain rfl := Option.some.inj H
           have z24_0 := bk6 BK201.out
           go_wp2
           go_ret
           exact ⟨qE, qB⟩
          ·rw [if_neg c23] at H
           obtain ⟨c23b0, c23b1⟩ := qn c23
           have HC25 := Aside0.mk H
           clear H
           go_upto_if 38 with (fail)
           go_cut [38] (fun v38 wc => ∃ (kq : Nat) (x38_24 : Bool), v38 = .bool x38_24 ∧ Aside0 (cubbyref07_bare.j3 kq a0_0 x38_24 a0_0 a0_1 a0_2 a0_3 a0_4 l0_5 = some r) ∧ Aside0 (kq ≤ kj15) ∧ Aside0 (wc.heap[gb201]? = some (.cells #[.int .i64 a0_0, .int .i64 a0_1, .int .i64 a0_2, .int .i64 a0_3, .string a0_4, (.slice A0_5 l0_5.length c0_5)] 31 (0, 0))) ∧ Aside0 (Below w.heap.size w wc))
           case first =>
            have H := HC25.out
            clear HC25
            by_cases c26 : a0_0 = 10
            ·rw [if_pos c26] at H
             obtain ⟨c26b0, c26b1⟩ := qe c26; clear c26
             (first | rw [c26b0] | (simp only [i64_w, i32_w]; rw [c26b0]) | skip)
             have H' := Aside0.mk H
             clear H
             go_wp2
             go_meet
             case rel => exact ⟨_, ((a0_0 == 10)), qT, H', ⟨by have := HJ1.out; have := HJ9.out; have := HJ15.out; first | omega | exact Nat.le_refl _⟩, ⟨qK BK201.out⟩, ⟨qB⟩⟩
            ·rw [if_neg c26] at H
             obtain ⟨c26b0, c26b1⟩ := qn c26
             (first | rw [c26b0] | (simp only [i64_w, i32_w]; rw [c26b0]) | skip)
             by_cases c27 : a0_0 = 14
             ·rw [if_pos c27] at H
              obtain ⟨c27b0, c27b1⟩ := qe c27; clear c27
              have H' := Aside0.mk H
              clear H
              go_wp2
              go_meet
              case rel => exact ⟨_, ((a0_0 == 14)), qT, H', ⟨by have := HJ1.out; have := HJ9.out; have := HJ15.out; first | omega | exact Nat.le_refl _⟩, ⟨qK BK201.out⟩, ⟨qB⟩⟩
             ·rw [if_neg c27] at H
              obtain ⟨c27b0, c27b1⟩ := qn c27
              have H' := Aside0.mk H
              clear H
              go_wp2
              go_meet
              case rel => exact ⟨_, ((a0_0 == 12)), qT, H', ⟨by have := HJ1.out; have := HJ9.out; have := HJ15.out; first | omega | exact Nat.le_refl _⟩, ⟨qK BK201.out⟩, ⟨qB⟩⟩
           case rest =>
            clear HC25
            try clear c1; try clear c2; try clear p2; try clear c3; try clear c4; try clear c4b0 c4b1; try clear c6; try clear c6b0 c6b1; try clear c9; try clear c12; try clear c12b0 c12b1; try clear c13; try clear c13b0 c13b1; try clear c14; try clear c17; try clear c17b0 c17b1; try clear c18; try clear c18b0 c18b1; try clear c19; try clear c19b0 c19b1; try clear c20; try clear c20b0 c20b1; try clear c21; try clear c21b0 c21b1; try clear c22; try clear c23; try clear c23b0 c23b1; try clear c26; try clear c26b0 c26b1; try clear c27; try clear c27b0 c27b1; try clear z11_0; try clear z15_0; try clear z24_0; try clear z5_0; try clear z7_0; try clear z8_0
            obtain ⟨kq, x38_24, rfl, HA, HJ24, BK201, HB⟩ := hcut
            cases kq with
            | zero => exact absurd HA.out (by simp [cubbyref07_bare.j3])
            | succ kj24 =>
             have H := HA.out
             clear HA
             simp only [cubbyref07_bare.j3] at H
             by_cases c28 : x38_24 = true
             ·subst c28
              have H1 : (if a0_1 = 0 then (some (a0_3 == 0)) else (some false)) = some r := by rw [if_pos rfl] at H; exact H
              clear H
              have H := H1
              clear H1
              by_cases c29 : a0_1 = 0
              ·rw [if_pos c29] at H
               obtain ⟨c29b0, c29b1⟩ := qe c29; clear c29
               obtain rfl := Option.some.inj H
               have z30_0 := bk6 BK201.out
               go_wp2
               go_ret
               exact ⟨qE, qB⟩
              ·rw [if_neg c29] at H
               obtain ⟨c29b0, c29b1⟩ := qn c29
               obtain rfl := Option.some.inj H
               have z31_0 := bk6 BK201.out
               go_wp2
               go_ret
               exact ⟨qE, qB⟩
             ·replace c28 := Bool.eq_false_iff.mpr c28
              subst c28
              have H1 : (if a0_0 = 11 then (if a0_2 = 0 then (some (a0_3 == 0)) else (some false)) else (some false)) = some r := by rw [if_neg (show ¬ (false = true) by decide)] at H; exact H
              clear H
              have H := H1
              clear H1
              by_cases c32 : a0_0 = 11
              ·rw [if_pos c32] at H
               obtain ⟨c32b0, c32b1⟩ := qe c32; clear c32
               by_cases c33 : a0_2 = 0
               ·rw [if_pos c33] at H
                obtain ⟨c33b0, c33b1⟩ := qe c33; clear c33
                obtain rfl := Option.some.inj H
                have z34_0 := bk6 BK201.out
                go_wp2
                go_ret
                exact ⟨qE, qB⟩
               ·rw [if_neg c33] at H
                obtain ⟨c33b0, c33b1⟩ := qn c33
                obtain rfl := Option.some.inj H
                have z35_0 := bk6 BK201.out
                go_wp2
                go_ret
                exact ⟨qE, qB⟩
              ·rw [if_neg c32] at H
               obtain ⟨c32b0, c32b1⟩ := qn c32
               obtain rfl := Option.some.inj H
               go_wp2
               go_ret
               exact ⟨qE, qB⟩

end Go.Proofs.YtbipipbfiekbgaaDoor.Q
