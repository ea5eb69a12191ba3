/- Lean functions that answer as the Go functions named below do, and the proofs of that. Written by a program out of the translation. -/
import Derived.Test.YtbipipbfiekbgaaDoorQ0
import Derived.Test.YtbipipbfiekbgaaDoorSq
namespace Go.Proofs.YtbipipbfiekbgaaDoor.Q
open Go.RowKit Go.Proofs.YtbipipbfiekbgaaDoorW.PrintWords Go.Proofs.YtbipipbfiekbgaaDoorW.PrintLast Go.Proofs.YtbipipbfiekbgaaDoorW.PrintMore
attribute [local go_sem] max2_int min2_int max_two min_two max_three min_three max_four min_four   -- for this text's walks alone
set_option linter.unusedVariables false
set_option linter.unusedSimpArgs false

/-! ### cubbyref07_Shape: function 26 -/
mutual
def cubbyref07_Shape.j0 : Nat → List (List (SIns)) → Bool → Option (Bool)
 | 0, _, _ => none
 | k + 1, x2, x33 => if x33 = true then (some false) else (cubbyref07_Shape.l0 k x2 0 0)
def cubbyref07_Shape.l0 : Nat → List (List (SIns)) → Int → Int → Option (Bool)
 | 0, _, _, _ => none
 | k + 1, x2, x7, x8 => if x8 < (x2.length : Int) then (if 0 ≤ x8 then (if ((rd_LIns x2 x8).length : Int) = 0 then (some false) else (if ((rd_LIns x2 x8).length : Int) > 200 then (some false) else (cubbyref07_Shape.l0 k x2 (wrap64 (x7 + ((rd_LIns x2 x8).length : Int))) (wrap64 (x8 + 1))))) else (none)) else (some (decide (x7 ≤ 200)))
end
def cubbyref07_Shape.f (k : Nat) (a0 : Int) (a1 : Int) (l2 : List (List (SIns))) : Option (Bool) := if a0 < 0 then (cubbyref07_Shape.j0 k l2 true) else (if a0 > 4 then (cubbyref07_Shape.j0 k l2 true) else (if a1 < a0 then (cubbyref07_Shape.j0 k l2 true) else (if a1 > 64 then (cubbyref07_Shape.j0 k l2 true) else (if (l2.length : Int) < 1 then (cubbyref07_Shape.j0 k l2 true) else (cubbyref07_Shape.j0 k l2 (decide ((l2.length : Int) > 32)))))))
theorem cubbyref07_Shape.mono_l : ∀ k, (∀ y0 y1, LeO (cubbyref07_Shape.j0 k y0 y1) (cubbyref07_Shape.j0 (k + 1) y0 y1)) ∧ (∀ y0 y1 y2, LeO (cubbyref07_Shape.l0 k y0 y1 y2) (cubbyref07_Shape.l0 (k + 1) y0 y1 y2))
 | 0 => ⟨fun _ _ r h => by simp [cubbyref07_Shape.j0] at h, fun _ _ _ r h => by simp [cubbyref07_Shape.l0] at h⟩
 | k + 1 => by
  obtain ⟨ih0, ih1⟩ := cubbyref07_Shape.mono_l k
  refine ⟨?_, ?_⟩ <;> intros <;> (first | unfold cubbyref07_Shape.j0 | unfold cubbyref07_Shape.l0) <;> repeat' first | (with_reducible exact ih0 _ _) | (with_reducible exact ih1 _ _ _) | (with_reducible exact LeO.refl _) | (with_reducible exact LeO.none _) | (with_reducible refine LeO.ite ?_ ?_) | (with_reducible refine LeO.bind ?_ (fun _ => ?_)) | exact LeO.none _ | refine LeO.ite ?_ ?_ | refine LeO.bind ?_ (fun _ => ?_)
theorem cubbyref07_Shape.mono : ∀ a0 a1 a2 k, LeO (cubbyref07_Shape.f k a0 a1 a2) (cubbyref07_Shape.f (k + 1) a0 a1 a2) := by
 intro a0 a1 a2 k
 obtain ⟨ih0, ih1⟩ := cubbyref07_Shape.mono_l k
 unfold cubbyref07_Shape.f
 repeat' first | (with_reducible exact ih0 _ _) | (with_reducible exact ih1 _ _ _) | (with_reducible exact LeO.refl _) | (with_reducible exact LeO.none _) | (with_reducible refine LeO.ite ?_ ?_) | (with_reducible refine LeO.bind ?_ (fun _ => ?_)) | exact LeO.none _ | refine LeO.ite ?_ ?_ | refine LeO.bind ?_ (fun _ => ?_)
set_option maxHeartbeats 8000000 in
set_option maxRecDepth 100000 in
theorem cubbyref07_Shape.calls (k : Nat) (a0 : Int) (a1 : Int) (A2 : Option Addr) (c2 : Nat) (l2 : List (List (SIns))) (r : Bool) (w : World) (hr2 : Kd.C (Kd.slice 31 kIns) w A2 l2.length l2) (hc2 : l2.length ≤ c2) (h : cubbyref07_Shape.f k a0 a1 l2 = some r) :
  Calls Tryd.prog 26 #[.int .i64 a0, .int .i64 a1, .slice A2 l2.length c2] w fun e w' => e = .returned (.bool r) ∧ Drawn0 w w' := by
 have HR2 := Aside0.mk hr2
 have HC2 := Aside0.mk hc2
 clear hr2 hc2
 have H := h; clear h; unfold cubbyref07_Shape.f at H
 have HC4 := Aside0.mk H
 clear H
 go_enter Tryd.func26, Tryd.ntmps26
 go_upto_region 1 with (fail)
 go_cut [33] (fun v33 wc => ∃ (kq : Nat) (x33_3 : Bool), v33 = .bool x33_3 ∧ Aside0 (cubbyref07_Shape.j0 kq l2 x33_3 = some r) ∧ Aside0 (kq ≤ k) ∧ Drawn0 w wc)
 case first =>
  have H := HC4.out
  clear HC4
  by_cases c5 : a0 < 0
  ·rw [if_pos c5] at H
   have c5b0 := decide_eq_true c5
   clear c5
   (first | rw [c5b0] | (simp only [i64_w, i32_w]; rw [c5b0]) | skip)
   have H' := Aside0.mk H
   clear H
   go_wp2
   go_meet
   case rel => exact ⟨_, (true), qT, H', ⟨qO⟩, qD⟩
  ·rw [if_neg c5] at H
   have c5b0 := decide_eq_false c5
   clear c5
   (first | rw [c5b0] | (simp only [i64_w, i32_w]; rw [c5b0]) | skip)
   by_cases c6 : a0 > 4
   ·rw [if_pos c6] at H
    have c6b0 : decide (4 < a0) = true := decide_eq_true c6
    clear c6
    have H' := Aside0.mk H
    clear H
    go_wp2
    go_meet
    case rel => exact ⟨_, (true), qT, H', ⟨qO⟩, qD⟩
   ·rw [if_neg c6] at H
    have c6b0 : decide (4 < a0) = false := decide_eq_false c6
    clear c6
    by_cases c7 : a1 < a0
    ·rw [if_pos c7] at H
     have c7b0 := decide_eq_true c7
     clear c7
     have H' := Aside0.mk H
     clear H
     go_wp2
     go_meet
     case rel => exact ⟨_, (true), qT, H', ⟨qO⟩, qD⟩
    ·rw [if_neg c7] at H
     have c7b0 := decide_eq_false c7
     clear c7
     by_cases c8 : a1 > 64
     ·rw [if_pos c8] at H
      have c8b0 : decide (64 < a1) = true := decide_eq_true c8
      clear c8
      have H' := Aside0.mk H
      clear H
      go_wp2
      go_meet
      case rel => exact ⟨_, (true), qT, H', ⟨qO⟩, qD⟩
     ·rw [if_neg c8] at H
      have c8b0 : decide (64 < a1) = false := decide_eq_false c8
      clear c8
      by_cases c9 : (l2.length : Int) < 1
      ·rw [if_pos c9] at H
       have c9b0 := decide_eq_true c9
       have c9b1 : decide (l2.length < 1) = true := decide_eq_true (by omega)
       clear c9
       have H' := Aside0.mk H
       clear H
       go_wp2
       go_meet
       case rel => exact ⟨_, (true), qT, H', ⟨qO⟩, qD⟩
      ·rw [if_neg c9] at H
       have c9b0 := decide_eq_false c9
       have c9b1 : decide (l2.length < 1) = false := decide_eq_false (by omega)
       clear c9
       have H' := Aside0.mk H
       clear H
       go_wp2
       go_meet
       case rel => exact ⟨_, (decide ((l2.length : Int) > 32)), qT, H', ⟨qO⟩, qD⟩
 case rest =>
  clear HC4
  try clear c2; try clear p2; try clear c5; try clear c5b0; try clear c6; try clear c6b0; try clear c7; try clear c7b0; try clear c8; try clear c8b0; try clear c9; try clear c9b0 c9b1
  obtain ⟨kq, x33_3, rfl, HA, HJ3, ⟨mc3, rfl⟩⟩ := hcut
  cases kq with
  | zero => exact absurd HA.out (by simp [cubbyref07_Shape.j0])
  | succ kj3 =>
   have H := HA.out
   clear HA
   simp only [cubbyref07_Shape.j0] at H
   by_cases c10 : x33_3 = true
   ·subst c10
    have H1 : (some false) = some r := by rw [if_pos rfl] at H; exact H
    clear H
    have H := H1
    clear H1
    obtain rfl := Option.some.inj H
    go_wp2
    go_ret
    exact ⟨by first | rfl | (simp; done) | (simp [*]; done), qD⟩
   ·replace c10 := Bool.eq_false_iff.mpr c10
    subst c10
    have H1 : (cubbyref07_Shape.l0 kj3 l2 0 0) = some r := by rw [if_neg (show ¬ (false = true) by decide)] at H; exact H
    clear H
    have H := H1
    clear H1
    have H' := Aside0.mk H
    clear H
    go_wp2
    go_loopg [7, 8] kj3 (fun kq v7 v8 w' => ∃ (x7_2 : Int) (x8_2 : Int), v7 = .int .i64 x7_2 ∧ v8 = .int .i64 x8_2 ∧ Aside0 (cubbyref07_Shape.l0 kq l2 x7_2 x8_2 = some r) ∧ Aside0 (kq ≤ kj3) ∧ Drawn0 w w')
    case atStart => exact ⟨(0), (0), qT, qT, H', ⟨Nat.le_refl _⟩, qD⟩
    case round =>
     clear H'
     try clear c1; try clear c2; try clear p2; try clear c3; try clear c5; try clear c5b0; try clear c6; try clear c6b0; try clear c7; try clear c7b0; try clear c8; try clear c8b0; try clear c9; try clear c9b0 c9b1; try clear c10
     obtain ⟨x7_2, x8_2, rfl, rfl, HA, HK2, ⟨m2, rfl⟩⟩ := hrel
     cases gk with
     | zero => exact absurd HA.out (by simp [cubbyref07_Shape.l0])
     | succ k2 =>
      have H := HA.out
      clear HA
      simp only [cubbyref07_Shape.l0] at H
      by_cases c11 : x8_2 < (l2.length : Int)
      ·rw [if_pos c11] at H
       have c11b0 := decide_eq_true c11
       clear c11
       by_cases c12 : 0 ≤ x8_2
       ·rw [if_pos c12] at H
        have c12b0 := decide_eq_true c12
        clear c12
        by_cases c13 : ((rd_LIns l2 x8_2).length : Int) = 0
        ·rw [if_pos c13] at H
         obtain ⟨c13b0, c13b1⟩ := qe c13; clear c13
         obtain rfl := Option.some.inj H
         have p295 : 0 ≤ (x8_2 : Int) := of_decide_eq_true qA
         have q295 : x8_2 < (l2.length : Int) := of_decide_eq_true qA
         obtain ⟨ad295, A295_0, c295_0, e295, hx295_0, hl295_0, hi295_0⟩ := at_LIns HR2.out x8_2 p295 q295
         cases e295
         have HR295_0 := Aside0.mk hi295_0
         have HC295_0 := Aside0.mk hl295_0
         clear hi295_0 hl295_0
         replace p295 := eq_true p295
         replace q295 := eq_true q295
         go_wp2
         go_ret
         exact ⟨by first | rfl | (simp; done) | (simp [*]; done), qD⟩
        ·rw [if_neg c13] at H
         obtain ⟨c13b0, c13b1⟩ := qn c13
         have c13b2 : ¬ ((rd_LIns l2 x8_2) = []) := fun h_ => c13 (by rw [h_]; rfl)
         by_cases c14 : ((rd_LIns l2 x8_2).length : Int) > 200
         ·rw [if_pos c14] at H
          have c14b0 : decide (200 < ((rd_LIns l2 x8_2).length : Int)) = true := decide_eq_true c14
          have c14b1 : decide (200 < (rd_LIns l2 x8_2).length) = true := decide_eq_true (by omega)
          clear c14
          obtain rfl := Option.some.inj H
          have p295 : 0 ≤ (x8_2 : Int) := of_decide_eq_true qA
          have q295 : x8_2 < (l2.length : Int) := of_decide_eq_true qA
          obtain ⟨ad295, A295_0, c295_0, e295, hx295_0, hl295_0, hi295_0⟩ := at_LIns HR2.out x8_2 p295 q295
          cases e295
          have HR295_0 := Aside0.mk hi295_0
          have HC295_0 := Aside0.mk hl295_0
          clear hi295_0 hl295_0
          replace p295 := eq_true p295
          replace q295 := eq_true q295
          have p296 : 0 ≤ (x8_2 : Int) := of_decide_eq_true qA
          have q296 : x8_2 < (l2.length : Int) := of_decide_eq_true qA
          obtain ⟨ad296, A296_0, c296_0, e296, hx296_0, hl296_0, hi296_0⟩ := at_LIns HR2.out x8_2 p296 q296
          obtain rfl : ad295 = ad296 := (by injection e296)
          have HR296_0 := Aside0.mk hi296_0
          have HC296_0 := Aside0.mk hl296_0
          clear hi296_0 hl296_0
          replace p296 := eq_true p296
          replace q296 := eq_true q296
          have ea_ := Option.some.inj (hx295_0.symm.trans hx296_0)
          injection ea_ with ea_ en_ ec_
          subst ea_
          subst ec_
          clear en_
          go_wp2
          go_ret
          exact ⟨by first | rfl | (simp; done) | (simp [*]; done), qD⟩
         ·rw [if_neg c14] at H
          have c14b0 : decide (200 < ((rd_LIns l2 x8_2).length : Int)) = false := decide_eq_false c14
          have c14b1 : decide (200 < (rd_LIns l2 x8_2).length) = false := decide_eq_false (by omega)
          clear c14
          have H' := Aside0.mk H
          clear H
          have p295 : 0 ≤ (x8_2 : Int) := of_decide_eq_true qA
          have q295 : x8_2 < (l2.length : Int) := of_decide_eq_true qA
          obtain ⟨ad295, A295_0, c295_0, e295, hx295_0, hl295_0, hi295_0⟩ := at_LIns HR2.out x8_2 p295 q295
          cases e295
          have HR295_0 := Aside0.mk hi295_0
          have HC295_0 := Aside0.mk hl295_0
          clear hi295_0 hl295_0
          replace p295 := eq_true p295
          replace q295 := eq_true q295
          have p296 : 0 ≤ (x8_2 : Int) := of_decide_eq_true qA
          have q296 : x8_2 < (l2.length : Int) := of_decide_eq_true qA
          obtain ⟨ad296, A296_0, c296_0, e296, hx296_0, hl296_0, hi296_0⟩ := at_LIns HR2.out x8_2 p296 q296
          obtain rfl : ad295 = ad296 := (by injection e296)
          have HR296_0 := Aside0.mk hi296_0
          have HC296_0 := Aside0.mk hl296_0
          clear hi296_0 hl296_0
          replace p296 := eq_true p296
          replace q296 := eq_true q296
          have ea_ := Option.some.inj (hx295_0.symm.trans hx296_0)
          injection ea_ with ea_ en_ ec_
          subst ea_
          subst ec_
          clear en_
          have p297 : 0 ≤ (x8_2 : Int) := of_decide_eq_true qA
          have q297 : x8_2 < (l2.length : Int) := of_decide_eq_true qA
          obtain ⟨ad297, A297_0, c297_0, e297, hx297_0, hl297_0, hi297_0⟩ := at_LIns HR2.out x8_2 p297 q297
          obtain rfl : ad295 = ad297 := (by injection e297)
          have HR297_0 := Aside0.mk hi297_0
          have HC297_0 := Aside0.mk hl297_0
          clear hi297_0 hl297_0
          replace p297 := eq_true p297
          replace q297 := eq_true q297
          have ea_ := Option.some.inj (hx295_0.symm.trans hx297_0)
          injection ea_ with ea_ en_ ec_
          subst ea_
          subst ec_
          clear en_
          go_wp2
          go_roundg k2
          case measure => have := HJ3.out; have := HK2.out; omega
          case rel => exact ⟨(wrap64 (x7_2 + ((rd_LIns l2 x8_2).length : Int))), (wrap64 (x8_2 + 1)), qT, qT, H', ⟨by have := HJ3.out; have := HK2.out; omega⟩, qD⟩
       ·rw [if_neg c12] at H
        exact absurd H (by simp)
      ·rw [if_neg c11] at H
       have c11b0 := decide_eq_false c11
       clear c11
       obtain rfl := Option.some.inj H
       go_wp2
       go_ret
       exact ⟨by first | rfl | (simp; done) | (simp [*]; done), qD⟩

end Go.Proofs.YtbipipbfiekbgaaDoor.Q
