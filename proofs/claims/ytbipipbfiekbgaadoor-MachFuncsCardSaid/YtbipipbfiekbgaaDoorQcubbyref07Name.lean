/- Lean functions that answer as the Go functions named below do, and the proofs of that. Written by a program out of the translation. -/
import Derived.Test.YtbipipbfiekbgaaDoorQ0
import Derived.Test.YtbipipbfiekbgaaDoorSq
namespace Go.Proofs.YtbipipbfiekbgaaDoor.Q
open Go.RowKit Go.Proofs.YtbipipbfiekbgaaDoorW.PrintWords Go.Proofs.YtbipipbfiekbgaaDoorW.PrintLast Go.Proofs.YtbipipbfiekbgaaDoorW.PrintMore
attribute [local go_sem] max2_int min2_int max_two min_two max_three min_three max_four min_four   -- for this text's walks alone
set_option linter.unusedVariables false
set_option linter.unusedSimpArgs false

/-! ### cubbyref07_Name: function 16 -/
mutual
def cubbyref07_Name.j0 : Nat → ByteArray → Bool → Option (Bool)
 | 0, _, _ => none
 | k + 1, x0, x13 => if x13 = true then (some false) else (cubbyref07_Name.l0 k x0 0)
def cubbyref07_Name.l0 : Nat → ByteArray → Int → Option (Bool)
 | 0, _, _ => none
 | k + 1, x0, x3 => if x3 < (x0.size : Int) then (if 0 ≤ x3 then (if (bt x0 x3) ≥ 97 then (if (bt x0 x3) ≥ 48 then (if ((bt x0 x3) ≤ 122) then (cubbyref07_Name.l0 k x0 (wrap64 (x3 + 1))) else (if ((bt x0 x3) ≤ 57) then (if x3 = 0 then (some false) else (cubbyref07_Name.l0 k x0 (wrap64 (x3 + 1)))) else (some false))) else (if ((bt x0 x3) ≤ 122) then (cubbyref07_Name.l0 k x0 (wrap64 (x3 + 1))) else (some false))) else (if (bt x0 x3) ≥ 48 then (if ((bt x0 x3) ≤ 57) then (if x3 = 0 then (some false) else (cubbyref07_Name.l0 k x0 (wrap64 (x3 + 1)))) else (some false)) else (some false))) else (none)) else (some true)
end
def cubbyref07_Name.f (k : Nat) (a0 : ByteArray) : Option (Bool) := if (a0.size : Int) < 1 then (cubbyref07_Name.j0 k a0 true) else (cubbyref07_Name.j0 k a0 (decide ((a0.size : Int) > 12)))
theorem cubbyref07_Name.mono_l : ∀ k, (∀ y0 y1, LeO (cubbyref07_Name.j0 k y0 y1) (cubbyref07_Name.j0 (k + 1) y0 y1)) ∧ (∀ y0 y1, LeO (cubbyref07_Name.l0 k y0 y1) (cubbyref07_Name.l0 (k + 1) y0 y1))
 | 0 => ⟨fun _ _ r h => by simp [cubbyref07_Name.j0] at h, fun _ _ r h => by simp [cubbyref07_Name.l0] at h⟩
 | k + 1 => by
  obtain ⟨ih0, ih1⟩ := cubbyref07_Name.mono_l k
  refine ⟨?_, ?_⟩ <;> intros <;> (first | unfold cubbyref07_Name.j0 | unfold cubbyref07_Name.l0) <;> repeat' first | (with_reducible exact ih0 _ _) | (with_reducible exact ih1 _ _) | (with_reducible exact LeO.refl _) | (with_reducible exact LeO.none _) | (with_reducible refine LeO.ite ?_ ?_) | (with_reducible refine LeO.bind ?_ (fun _ => ?_)) | exact LeO.none _ | refine LeO.ite ?_ ?_ | refine LeO.bind ?_ (fun _ => ?_)
theorem cubbyref07_Name.mono : ∀ a0 k, LeO (cubbyref07_Name.f k a0) (cubbyref07_Name.f (k + 1) a0) := by
 intro a0 k
 obtain ⟨ih0, ih1⟩ := cubbyref07_Name.mono_l k
 unfold cubbyref07_Name.f
 repeat' first | (with_reducible exact ih0 _ _) | (with_reducible exact ih1 _ _) | (with_reducible exact LeO.refl _) | (with_reducible exact LeO.none _) | (with_reducible refine LeO.ite ?_ ?_) | (with_reducible refine LeO.bind ?_ (fun _ => ?_)) | exact LeO.none _ | refine LeO.ite ?_ ?_ | refine LeO.bind ?_ (fun _ => ?_)
set_option maxHeartbeats 8000000 in
set_option maxRecDepth 100000 in
theorem cubbyref07_Name.calls (k : Nat) (a0 : ByteArray) (r : Bool) (w : World) (h : cubbyref07_Name.f k a0 = some r) :
  Calls Tryd.prog 16 #[.string a0] w fun e w' => e = .returned (.bool r) ∧ Drawn0 w w' := by
 have H := h; clear h; unfold cubbyref07_Name.f at H
 have HC2 := Aside0.mk H
 clear H
 go_enter Tryd.func16, Tryd.ntmps16
 go_upto_region 1 with (fail)
 go_cut [13] (fun v13 wc => ∃ (kq : Nat) (x13_1 : Bool), v13 = .bool x13_1 ∧ Aside0 (cubbyref07_Name.j0 kq a0 x13_1 = some r) ∧ Aside0 (kq ≤ k) ∧ Drawn0 w wc)
 case first =>
  have H := HC2.out
  clear HC2
  by_cases c3 : (a0.size : Int) < 1
  ·rw [if_pos c3] at H
   have c3b0 := decide_eq_true c3
   have c3b1 : decide (a0.size < 1) = true := decide_eq_true (by omega)
   clear c3
   (first | rw [c3b0] | (simp only [i64_w, i32_w]; rw [c3b0]) | skip)
   have H' := Aside0.mk H
   clear H
   go_wp2
   go_meet
   case rel => exact ⟨_, (true), qT, H', ⟨qO⟩, qD⟩
  ·rw [if_neg c3] at H
   have c3b0 := decide_eq_false c3
   have c3b1 : decide (a0.size < 1) = false := decide_eq_false (by omega)
   clear c3
   (first | rw [c3b0] | (simp only [i64_w, i32_w]; rw [c3b0]) | skip)
   have H' := Aside0.mk H
   clear H
   go_wp2
   go_meet
   case rel => exact ⟨_, (decide ((a0.size : Int) > 12)), qT, H', ⟨qO⟩, qD⟩
 case rest =>
  clear HC2
  try clear c1; try clear p2; try clear c3; try clear c3b0 c3b1
  obtain ⟨kq, x13_1, rfl, HA, HJ1, ⟨mc1, rfl⟩⟩ := hcut
  cases kq with
  | zero => exact absurd HA.out (by simp [cubbyref07_Name.j0])
  | succ kj1 =>
   have H := HA.out
   clear HA
   simp only [cubbyref07_Name.j0] at H
   by_cases c4 : x13_1 = true
   ·subst c4
    have H1 : (some false) = some r := by rw [if_pos rfl] at H; exact H
    clear H
    have H := H1
    clear H1
    obtain rfl := Option.some.inj H
    go_wp2
    go_ret
    exact ⟨by first | rfl | (simp; done) | (simp [*]; done), qD⟩
   ·replace c4 := Bool.eq_false_iff.mpr c4
    subst c4
    have H1 : (cubbyref07_Name.l0 kj1 a0 0) = some r := by rw [if_neg (show ¬ (false = true) by decide)] at H; exact H
    clear H
    have H := H1
    clear H1
    have H' := Aside0.mk H
    clear H
    go_wp2
    go_loopg [3] kj1 (fun kq v3 w' => ∃ (x3_2 : Int), v3 = .int .i64 x3_2 ∧ Aside0 (cubbyref07_Name.l0 kq a0 x3_2 = some r) ∧ Aside0 (kq ≤ kj1) ∧ Drawn0 w w')
    case atStart => exact ⟨(0), qT, H', ⟨Nat.le_refl _⟩, qD⟩
    case round =>
     clear H'
     try clear c1; try clear p2; try clear c3; try clear c3b0 c3b1; try clear c4
     obtain ⟨x3_2, rfl, HA, HK2, ⟨m2, rfl⟩⟩ := hrel
     cases gk with
     | zero => exact absurd HA.out (by simp [cubbyref07_Name.l0])
     | succ k2 =>
      have H := HA.out
      clear HA
      simp only [cubbyref07_Name.l0] at H
      by_cases c5 : x3_2 < (a0.size : Int)
      ·rw [if_pos c5] at H
       have c5b0 := decide_eq_true c5
       clear c5
       by_cases c6 : 0 ≤ x3_2
       ·rw [if_pos c6] at H
        have c6b0 := decide_eq_true c6
        clear c6
        by_cases c8 : (bt a0 x3_2) ≥ 97
        ·rw [if_pos c8] at H
         have c8b0 : decide (97 ≤ (bt a0 x3_2)) = true := decide_eq_true c8
         clear c8
         by_cases c11 : (bt a0 x3_2) ≥ 48
         ·rw [if_pos c11] at H
          have c11b0 : decide (48 ≤ (bt a0 x3_2)) = true := decide_eq_true c11
          clear c11
          by_cases c13 : ((bt a0 x3_2) ≤ 122)
          ·rw [if_pos c13] at H
           have c13b0 : decide ((bt a0 x3_2) ≤ 122) = true := decide_eq_true c13
           clear c13
           have H' := Aside0.mk H
           clear H
           have p7 : 0 ≤ (x3_2 : Int) := of_decide_eq_true qA
           have q7 : x3_2 < (a0.size : Int) := of_decide_eq_true qA
           have hx7 := bt_at a0 x3_2
           replace p7 := eq_true p7
           replace q7 := eq_true q7
           have p9 : 0 ≤ (x3_2 : Int) := of_decide_eq_true qA
           have q9 : x3_2 < (a0.size : Int) := of_decide_eq_true qA
           have hx9 := bt_at a0 x3_2
           replace p9 := eq_true p9
           replace q9 := eq_true q9
           have p10 : 0 ≤ (x3_2 : Int) := of_decide_eq_true qA
           have q10 : x3_2 < (a0.size : Int) := of_decide_eq_true qA
           have hx10 := bt_at a0 x3_2
           replace p10 := eq_true p10
           replace q10 := eq_true q10
           have p12 : 0 ≤ (x3_2 : Int) := of_decide_eq_true qA
           have q12 : x3_2 < (a0.size : Int) := of_decide_eq_true qA
           have hx12 := bt_at a0 x3_2
           replace p12 := eq_true p12
           replace q12 := eq_true q12
           go_wp2
           go_roundg k2
           case measure => have := HJ1.out; have := HK2.out; omega
           case rel => exact ⟨(wrap64 (x3_2 + 1)), qT, H', ⟨by have := HJ1.out; have := HK2.out; omega⟩, qD⟩
          ·rw [if_neg c13] at H
           have c13b0 : decide ((bt a0 x3_2) ≤ 122) = false := decide_eq_false c13
           clear c13
           by_cases c14 : ((bt a0 x3_2) ≤ 57)
           ·rw [if_pos c14] at H
            have c14b0 : decide ((bt a0 x3_2) ≤ 57) = true := decide_eq_true c14
            clear c14
            by_cases c15 : x3_2 = 0
            ·rw [if_pos c15] at H
             obtain ⟨c15b0, c15b1⟩ := qe c15; clear c15
             obtain rfl := Option.some.inj H
             have p7 : 0 ≤ (x3_2 : Int) := of_decide_eq_true qA
             have q7 : x3_2 < (a0.size : Int) := of_decide_eq_true qA
             have hx7 := bt_at a0 x3_2
             replace p7 := eq_true p7
             replace q7 := eq_true q7
             have p9 : 0 ≤ (x3_2 : Int) := of_decide_eq_true qA
             have q9 : x3_2 < (a0.size : Int) := of_decide_eq_true qA
             have hx9 := bt_at a0 x3_2
             replace p9 := eq_true p9
             replace q9 := eq_true q9
             have p10 : 0 ≤ (x3_2 : Int) := of_decide_eq_true qA
             have q10 : x3_2 < (a0.size : Int) := of_decide_eq_true qA
             have hx10 := bt_at a0 x3_2
             replace p10 := eq_true p10
             replace q10 := eq_true q10
             have p12 : 0 ≤ (x3_2 : Int) := of_decide_eq_true qA
             have q12 : x3_2 < (a0.size : Int) := of_decide_eq_true qA
             have hx12 := bt_at a0 x3_2
             replace p12 := eq_true p12
             replace q12 := eq_true q12
             go_wp2
             go_ret
             exact ⟨by first | rfl | (simp; done) | (simp [*]; done), qD⟩
            ·rw [if_neg c15] at H
             obtain ⟨c15b0, c15b1⟩ := qn c15
             have H' := Aside0.mk H
             clear H
             have p7 : 0 ≤ (x3_2 : Int) := of_decide_eq_true qA
             have q7 : x3_2 < (a0.size : Int) := of_decide_eq_true qA
             have hx7 := bt_at a0 x3_2
             replace p7 := eq_true p7
             replace q7 := eq_true q7
             have p9 : 0 ≤ (x3_2 : Int) := of_decide_eq_true qA
             have q9 : x3_2 < (a0.size : Int) := of_decide_eq_true qA
             have hx9 := bt_at a0 x3_2
             replace p9 := eq_true p9
             replace q9 := eq_true q9
             have p10 : 0 ≤ (x3_2 : Int) := of_decide_eq_true qA
             have q10 : x3_2 < (a0.size : Int) := of_decide_eq_true qA
             have hx10 := bt_at a0 x3_2
             replace p10 := eq_true p10
             replace q10 := eq_true q10
             have p12 : 0 ≤ (x3_2 : Int) := of_decide_eq_true qA
             have q12 : x3_2 < (a0.size : Int) := of_decide_eq_true qA
             have hx12 := bt_at a0 x3_2
             replace p12 := eq_true p12
             replace q12 := eq_true q12
             go_wp2
             go_roundg k2
             case measure => have := HJ1.out; have := HK2.out; omega
             case rel => exact ⟨(wrap64 (x3_2 + 1)), qT, H', ⟨by have := HJ1.out; have := HK2.out; omega⟩, qD⟩
           ·rw [if_neg c14] at H
            have c14b0 : decide ((bt a0 x3_2) ≤ 57) = false := decide_eq_false c14
            clear c14
            obtain rfl := Option.some.inj H
            have p7 : 0 ≤ (x3_2 : Int) := of_decide_eq_true qA
            have q7 : x3_2 < (a0.size : Int) := of_decide_eq_true qA
            have hx7 := bt_at a0 x3_2
            replace p7 := eq_true p7
            replace q7 := eq_true q7
            have p9 : 0 ≤ (x3_2 : Int) := of_decide_eq_true qA
            have q9 : x3_2 < (a0.size : Int) := of_decide_eq_true qA
            have hx9 := bt_at a0 x3_2
            replace p9 := eq_true p9
            replace q9 := eq_true q9
            have p10 : 0 ≤ (x3_2 : Int) := of_decide_eq_true qA
            have q10 : x3_2 < (a0.size : Int) := of_decide_eq_true qA
            have hx10 := bt_at a0 x3_2
            replace p10 := eq_true p10
            replace q10 := eq_true q10
            have p12 : 0 ≤ (x3_2 : Int) := of_decide_eq_true qA
            have q12 : x3_2 < (a0.size : Int) := of_decide_eq_true qA
            have hx12 := bt_at a0 x3_2
            replace p12 := eq_true p12
            replace q12 := eq_true q12
            go_wp2
            go_ret
            exact ⟨by first | rfl | (simp; done) | (simp [*]; done), qD⟩
         ·rw [if_neg c11] at H
          have c11b0 : decide (48 ≤ (bt a0 x3_2)) = false := decide_eq_false c11
          clear c11
          by_cases c16 : ((bt a0 x3_2) ≤ 122)
          ·rw [if_pos c16] at H
           have c16b0 : decide ((bt a0 x3_2) ≤ 122) = true := decide_eq_true c16
           clear c16
           have H' := Aside0.mk H
           clear H
           have p7 : 0 ≤ (x3_2 : Int) := of_decide_eq_true qA
           have q7 : x3_2 < (a0.size : Int) := of_decide_eq_true qA
           have hx7 := bt_at a0 x3_2
           replace p7 := eq_true p7
           replace q7 := eq_true q7
           have p9 : 0 ≤ (x3_2 : Int) := of_decide_eq_true qA
           have q9 : x3_2 < (a0.size : Int) := of_decide_eq_true qA
           have hx9 := bt_at a0 x3_2
           replace p9 := eq_true p9
           replace q9 := eq_true q9
           have p10 : 0 ≤ (x3_2 : Int) := of_decide_eq_true qA
           have q10 : x3_2 < (a0.size : Int) := of_decide_eq_true qA
           have hx10 := bt_at a0 x3_2
           replace p10 := eq_true p10
           replace q10 := eq_true q10
           go_wp2
           go_roundg k2
           case measure => have := HJ1.out; have := HK2.out; omega
           case rel => exact ⟨(wrap64 (x3_2 + 1)), qT, H', ⟨by have := HJ1.out; have := HK2.out; omega⟩, qD⟩
          ·rw [if_neg c16] at H
           have c16b0 : decide ((bt a0 x3_2) ≤ 122) = false := decide_eq_false c16
           clear c16
           obtain rfl := Option.some.inj H
           have p7 : 0 ≤ (x3_2 : Int) := of_decide_eq_true qA
           have q7 : x3_2 < (a0.size : Int) := of_decide_eq_true qA
           have hx7 := bt_at a0 x3_2
           replace p7 := eq_true p7
           replace q7 := eq_true q7
           have p9 : 0 ≤ (x3_2 : Int) := of_decide_eq_true qA
           have q9 : x3_2 < (a0.size : Int) := of_decide_eq_true qA
           have hx9 := bt_at a0 x3_2
           replace p9 := eq_true p9
           replace q9 := eq_true q9
           have p10 : 0 ≤ (x3_2 : Int) := of_decide_eq_true qA
           have q10 : x3_2 < (a0.size : Int) := of_decide_eq_true qA
           have hx10 := bt_at a0 x3_2
           replace p10 := eq_true p10
           replace q10 := eq_true q10
           go_wp2
           go_ret
           exact ⟨by first | rfl | (simp; done) | (simp [*]; done), qD⟩
        ·rw [if_neg c8] at H
         have c8b0 : decide (97 ≤ (bt a0 x3_2)) = false := decide_eq_false c8
         clear c8
         by_cases c18 : (bt a0 x3_2) ≥ 48
         ·rw [if_pos c18] at H
          have c18b0 : decide (48 ≤ (bt a0 x3_2)) = true := decide_eq_true c18
          clear c18
          by_cases c20 : ((bt a0 x3_2) ≤ 57)
          ·rw [if_pos c20] at H
           have c20b0 : decide ((bt a0 x3_2) ≤ 57) = true := decide_eq_true c20
           clear c20
           by_cases c21 : x3_2 = 0
           ·rw [if_pos c21] at H
            obtain ⟨c21b0, c21b1⟩ := qe c21; clear c21
            obtain rfl := Option.some.inj H
            have p7 : 0 ≤ (x3_2 : Int) := of_decide_eq_true qA
            have q7 : x3_2 < (a0.size : Int) := of_decide_eq_true qA
            have hx7 := bt_at a0 x3_2
            replace p7 := eq_true p7
            replace q7 := eq_true q7
            have p17 : 0 ≤ (x3_2 : Int) := of_decide_eq_true qA
            have q17 : x3_2 < (a0.size : Int) := of_decide_eq_true qA
            have hx17 := bt_at a0 x3_2
            replace p17 := eq_true p17
            replace q17 := eq_true q17
            have p19 : 0 ≤ (x3_2 : Int) := of_decide_eq_true qA
            have q19 : x3_2 < (a0.size : Int) := of_decide_eq_true qA
            have hx19 := bt_at a0 x3_2
            replace p19 := eq_true p19
            replace q19 := eq_true q19
            go_wp2
            go_ret
            exact ⟨by first | rfl | (simp; done) | (simp [*]; done), qD⟩
           ·rw [if_neg c21] at H
            obtain ⟨c21b0, c21b1⟩ := qn c21
            have H' := Aside0.mk H
            clear H
            have p7 : 0 ≤ (x3_2 : Int) := of_decide_eq_true qA
            have q7 : x3_2 < (a0.size : Int) := of_decide_eq_true qA
            have hx7 := bt_at a0 x3_2
            replace p7 := eq_true p7
            replace q7 := eq_true q7
            have p17 : 0 ≤ (x3_2 : Int) := of_decide_eq_true qA
            have q17 : x3_2 < (a0.size : Int) := of_decide_eq_true qA
            have hx17 := bt_at a0 x3_2
            replace p17 := eq_true p17
            replace q17 := eq_true q17
            have p19 : 0 ≤ (x3_2 : Int) := of_decide_eq_true qA
            have q19 : x3_2 < (a0.size : Int) := of_decide_eq_true qA
            have hx19 := bt_at a0 x3_2
            replace p19 := eq_true p19
            replace q19 := eq_true q19
            go_wp2
            go_roundg k2
            case measure => have := HJ1.out; have := HK2.out; omega
            case rel => exact ⟨(wrap64 (x3_2 + 1)), qT, H', ⟨by have := HJ1.out; have := HK2.out; omega⟩, qD⟩
          ·rw [if_neg c20] at H
           have c20b0 : decide ((bt a0 x3_2) ≤ 57) = false := decide_eq_false c20
           clear c20
           obtain rfl := Option.some.inj H
           have p7 : 0 ≤ (x3_2 : Int) := of_decide_eq_true qA
           have q7 : x3_2 < (a0.size : Int) := of_decide_eq_true qA
           have hx7 := bt_at a0 x3_2
           replace p7 := eq_true p7
           replace q7 := eq_true q7
           have p17 : 0 ≤ (x3_2 : Int) := of_decide_eq_true qA
           have q17 : x3_2 < (a0.size : Int) := of_decide_eq_true qA
           have hx17 := bt_at a0 x3_2
           replace p17 := eq_true p17
           replace q17 := eq_true q17
           have p19 : 0 ≤ (x3_2 : Int) := of_decide_eq_true qA
           have q19 : x3_2 < (a0.size : Int) := of_decide_eq_true qA
           have hx19 := bt_at a0 x3_2
           replace p19 := eq_true p19
           replace q19 := eq_true q19
           go_wp2
           go_ret
           exact ⟨by first | rfl | (simp; done) | (simp [*]; done), qD⟩
         ·rw [if_neg c18] at H
          have c18b0 : decide (48 ≤ (bt a0 x3_2)) = false := decide_eq_false c18
          clear c18
          obtain rfl := Option.some.inj H
          have p7 : 0 ≤ (x3_2 : Int) := of_decide_eq_true qA
          have q7 : x3_2 < (a0.size : Int) := of_decide_eq_true qA
          have hx7 := bt_at a0 x3_2
          replace p7 := eq_true p7
          replace q7 := eq_true q7
          have p17 : 0 ≤ (x3_2 : Int) := of_decide_eq_true qA
          have q17 : x3_2 < (a0.size : Int) := of_decide_eq_true qA
          have hx17 := bt_at a0 x3_2
          replace p17 := eq_true p17
          replace q17 := eq_true q17
          go_wp2
          go_ret
          exact ⟨by first | rfl | (simp; done) | (simp [*]; done), qD⟩
       ·rw [if_neg c6] at H
        exact absurd H (by simp)
      ·rw [if_neg c5] at H
       have c5b0 := decide_eq_false c5
       clear c5
       obtain rfl := Option.some.inj H
       go_wp2
       go_ret
       exact ⟨by first | rfl | (simp; done) | (simp [*]; done), qD⟩

end Go.Proofs.YtbipipbfiekbgaaDoor.Q
