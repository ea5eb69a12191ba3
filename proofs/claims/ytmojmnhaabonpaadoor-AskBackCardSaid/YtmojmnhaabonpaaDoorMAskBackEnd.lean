/- For every input the law AskBack returns true, and its arguments read behind the call as they did: no condition. -/
import Derived.Lib.IndexLaws
import Derived.Lib.Strings
import Derived.Lib.AtoiTie
import Derived.Lib.ItoaNum
import Derived.Lib.ItoaMem
import Derived.Test.YtmojmnhaabonpaaDoorRows
import Derived.WalkKit
import Derived.ProofKit
import Derived.OpenShut
import Derived.ShutString
import Derived.ChangeOld
import Derived.Below
import Derived.SizedLaws
import Derived.Test.YtmojmnhaabonpaaDoorCards
import Derived.Test.YtmojmnhaabonpaaDoorTie
import Derived.LaidMore
import Derived.Lay
import Derived.SevenTiedAt
import Derived.Stop.Joined
import Derived.Lib.LaidU8
import Derived.Test.YtmojmnhaabonpaaDoorMAskBack1
import Derived.Test.YtmojmnhaabonpaaDoorMAskBack2
namespace Go.Proofs.YtmojmnhaabonpaaDoor.Q
open Go.RowKit Go.Proofs.YtmojmnhaabonpaaDoorW.PrintWords Go.Proofs.YtmojmnhaabonpaaDoorW.PrintLast Go.Proofs.YtmojmnhaabonpaaDoorW.PrintMore
attribute [local go_sem] max2_int min2_int max_two min_two max_three min_three max_four min_four
set_option linter.unusedVariables false
set_option linter.unusedSimpArgs false

mutual
def cubbyref07_Name.j0 : Nat → ByteArray → Bool → Option (Bool)
 | 0, _, _ => none
 | k + 1, x0, x13 => if x13 = true then (some false) else (cubbyref07_Name.l0 k x0 0)
def cubbyref07_Name.l0 : Nat → ByteArray → Int → Option (Bool)
 | 0, _, _ => none
 | k + 1, x0, x3 => if x3 < (x0.size : Int) then (if 0 ≤ x3 then (if (bt x0 x3) ≥ 97 then (if (bt x0 x3) ≥ 48 then (if ((bt x0 x3) ≤ 122) then (cubbyref07_Name.l0 k x0 (wrap64 (x3 + 1))) else (if ((bt x0 x3) ≤ 57) then (if x3 = 0 then (some false) else (cubbyref07_Name.l0 k x0 (wrap64 (x3 + 1)))) else (some false))) else (if ((bt x0 x3) ≤ 122) then (cubbyref07_Name.l0 k x0 (wrap64 (x3 + 1))) else (some false))) else (if (bt x0 x3) ≥ 48 then (if ((bt x0 x3) ≤ 57) then (if x3 = 0 then (some false) else (cubbyref07_Name.l0 k x0 (wrap64 (x3 + 1)))) else (some false)) else (some false))) else (none)) else (some true)
end
def cubbyref07_Name.f (k : Nat) (a0 : ByteArray) : Option (Bool) := if (a0.size : Int) < 1 then (cubbyref07_Name.j0 k a0 true) else (cubbyref07_Name.j0 k a0 (decide ((a0.size : Int) > 12)))
set_option maxHeartbeats 8000000 in
set_option maxRecDepth 100000 in
theorem cubbyref07_Name.calls (k : Nat) (a0 : ByteArray) (r : Bool) (w : World) (h : cubbyref07_Name.f k a0 = some r) :
 Calls Tryd.prog 31 #[.string a0] w fun e w' => e = .returned (.bool r) ∧ Drawn0 w w' := by
 have H := h; clear h; unfold cubbyref07_Name.f at H
 have HC2 := zA H
 clear H
 go_enter Tryd.func31, Tryd.ntmps31
 go_upto_region 1 with (fail)
 go_cut [13] (fun v13 wc => ∃ (kq : Nat) (x13_1 : Bool), v13 = .bool x13_1 ∧ Aside0 (cubbyref07_Name.j0 kq a0 x13_1 = some r) ∧ Aside0 (kq ≤ k) ∧ Drawn0 w wc)
 case first =>
  have H := HC2.out
  clear HC2
  by_cases c3 : (a0.size : Int) < 1
  ·rw [zC c3] at H
   have c3b0 := zF c3
   have c3b1 : decide (a0.size < 1) = true := zF (by omega)
   clear c3
   (first | rw [c3b0] | (simp only [i64_w, i32_w]; rw [c3b0]) | skip)
   have H' := zA H
   clear H
   go_wp2
   go_meet
   case rel => exact ⟨_, (true), qT, H', ⟨qO⟩, qD⟩
  ·rw [zD c3] at H
   have c3b0 := zG c3
   have c3b1 : decide (a0.size < 1) = false := zG (by omega)
   clear c3
   (first | rw [c3b0] | (simp only [i64_w, i32_w]; rw [c3b0]) | skip)
   have H' := zA H
   clear H
   go_wp2
   go_meet
   case rel => exact ⟨_, (decide ((a0.size : Int) > 12)), qT, H', ⟨qO⟩, qD⟩
 case rest =>
  clear HC2
  obtain ⟨kq, x13_1, rfl, HA, HJ1, ⟨mc1, rfl⟩⟩ := hcut
  cases kq with
  | zero => exact absurd HA.out (by simp [cubbyref07_Name.j0])
  | succ kj1 =>
   have H := HA.out
   clear HA
   simp only [cubbyref07_Name.j0] at H
   by_cases c4 : x13_1 = true
   ·subst c4
    have H1 : (some false) = some r := by rw [zC rfl] at H; exact H
    clear H
    have H := H1
    clear H1
    obtain rfl := zI H
    go_wp2
    go_ret
    exact ⟨by first | rfl | (simp; done) | (simp [*]; done), qD⟩
   ·replace c4 := Bool.eq_false_iff.mpr c4
    subst c4
    have H1 : (cubbyref07_Name.l0 kj1 a0 0) = some r := by rw [zD (show ¬ (false = true) by decide)] at H; exact H
    clear H
    have H := H1
    clear H1
    have H' := zA H
    clear H
    go_wp2
    go_loopg [3] kj1 (fun kq v3 w' => ∃ (x3_2 : Int), v3 = .int .i64 x3_2 ∧ Aside0 (cubbyref07_Name.l0 kq a0 x3_2 = some r) ∧ Aside0 (kq ≤ kj1) ∧ Drawn0 w w')
    case atStart => exact ⟨(0), qT, H', ⟨Nat.le_refl _⟩, qD⟩
    case round =>
     clear H'
     obtain ⟨x3_2, rfl, HA, HK2, ⟨m2, rfl⟩⟩ := hrel
     cases gk with
     | zero => exact absurd HA.out (by simp [cubbyref07_Name.l0])
     | succ k2 =>
      have H := HA.out
      clear HA
      simp only [cubbyref07_Name.l0] at H
      by_cases c5 : x3_2 < (a0.size : Int)
      ·rw [zC c5] at H
       have c5b0 := zF c5
       clear c5
       by_cases c6 : 0 ≤ x3_2
       ·rw [zC c6] at H
        have c6b0 := zF c6
        clear c6
        by_cases c8 : (bt a0 x3_2) ≥ 97
        ·rw [zC c8] at H
         have c8b0 : decide (97 ≤ (bt a0 x3_2)) = true := zF c8
         clear c8
         by_cases c11 : (bt a0 x3_2) ≥ 48
         ·rw [zC c11] at H
          have c11b0 : decide (48 ≤ (bt a0 x3_2)) = true := zF c11
          clear c11
          by_cases c13 : ((bt a0 x3_2) ≤ 122)
          ·rw [zC c13] at H
           have c13b0 : decide ((bt a0 x3_2) ≤ 122) = true := zF c13
           clear c13
           have H' := zA H
           clear H
           have p7 : 0 ≤ (x3_2 : Int) := zB qA
           have q7 : x3_2 < (a0.size : Int) := zB qA
           have hx7 := bt_at a0 x3_2
           replace p7 := eq_true p7
           replace q7 := eq_true q7
           have p9 : 0 ≤ (x3_2 : Int) := zB qA
           have q9 : x3_2 < (a0.size : Int) := zB qA
           have hx9 := bt_at a0 x3_2
           replace p9 := eq_true p9
           replace q9 := eq_true q9
           have p10 : 0 ≤ (x3_2 : Int) := zB qA
           have q10 : x3_2 < (a0.size : Int) := zB qA
           have hx10 := bt_at a0 x3_2
           replace p10 := eq_true p10
           replace q10 := eq_true q10
           have p12 : 0 ≤ (x3_2 : Int) := zB qA
           have q12 : x3_2 < (a0.size : Int) := zB qA
           have hx12 := bt_at a0 x3_2
           replace p12 := eq_true p12
           replace q12 := eq_true q12
           go_wp2
           go_roundg k2
           case measure => have := HJ1.out; have := HK2.out; omega
           case rel => exact ⟨(wrap64 (x3_2 + 1)), qT, H', ⟨by have := HJ1.out; have := HK2.out; omega⟩, qD⟩
          ·rw [zD c13] at H
           have c13b0 : decide ((bt a0 x3_2) ≤ 122) = false := zG c13
           clear c13
           by_cases c14 : ((bt a0 x3_2) ≤ 57)
           ·rw [zC c14] at H
            have c14b0 : decide ((bt a0 x3_2) ≤ 57) = true := zF c14
            clear c14
            by_cases c15 : x3_2 = 0
            ·rw [zC c15] at H
             obtain ⟨c15b0, c15b1⟩ := qe c15; clear c15
             obtain rfl := zI H
             have p7 : 0 ≤ (x3_2 : Int) := zB qA
             have q7 : x3_2 < (a0.size : Int) := zB qA
             have hx7 := bt_at a0 x3_2
             replace p7 := eq_true p7
             replace q7 := eq_true q7
             have p9 : 0 ≤ (x3_2 : Int) := zB qA
             have q9 : x3_2 < (a0.size : Int) := zB qA
             have hx9 := bt_at a0 x3_2
             replace p9 := eq_true p9
             replace q9 := eq_true q9
             have p10 : 0 ≤ (x3_2 : Int) := zB qA
             have q10 : x3_2 < (a0.size : Int) := zB qA
             have hx10 := bt_at a0 x3_2
             replace p10 := eq_true p10
             replace q10 := eq_true q10
             have p12 : 0 ≤ (x3_2 : Int) := zB qA
             have q12 : x3_2 < (a0.size : Int) := zB qA
             have hx12 := bt_at a0 x3_2
             replace p12 := eq_true p12
             replace q12 := eq_true q12
             go_wp2
             go_ret
             exact ⟨by first | rfl | (simp; done) | (simp [*]; done), qD⟩
            ·rw [zD c15] at H
             obtain ⟨c15b0, c15b1⟩ := qn c15
             have H' := zA H
             clear H
             have p7 : 0 ≤ (x3_2 : Int) := zB qA
             have q7 : x3_2 < (a0.size : Int) := zB qA
             have hx7 := bt_at a0 x3_2
             replace p7 := eq_true p7
             replace q7 := eq_true q7
             have p9 : 0 ≤ (x3_2 : Int) := zB qA
             have q9 : x3_2 < (a0.size : Int) := zB qA
             have hx9 := bt_at a0 x3_2
             replace p9 := eq_true p9
             replace q9 := eq_true q9
             have p10 : 0 ≤ (x3_2 : Int) := zB qA
             have q10 : x3_2 < (a0.size : Int) := zB qA
             have hx10 := bt_at a0 x3_2
             replace p10 := eq_true p10
             replace q10 := eq_true q10
             have p12 : 0 ≤ (x3_2 : Int) := zB qA
             have q12 : x3_2 < (a0.size : Int) := zB qA
             have hx12 := bt_at a0 x3_2
             replace p12 := eq_true p12
             replace q12 := eq_true q12
             go_wp2
             go_roundg k2
             case measure => have := HJ1.out; have := HK2.out; omega
             case rel => exact ⟨(wrap64 (x3_2 + 1)), qT, H', ⟨by have := HJ1.out; have := HK2.out; omega⟩, qD⟩
           ·rw [zD c14] at H
            have c14b0 : decide ((bt a0 x3_2) ≤ 57) = false := zG c14
            clear c14
            obtain rfl := zI H
            have p7 : 0 ≤ (x3_2 : Int) := zB qA
            have q7 : x3_2 < (a0.size : Int) := zB qA
            have hx7 := bt_at a0 x3_2
            replace p7 := eq_true p7
            replace q7 := eq_true q7
            have p9 : 0 ≤ (x3_2 : Int) := zB qA
            have q9 : x3_2 < (a0.size : Int) := zB qA
            have hx9 := bt_at a0 x3_2
            replace p9 := eq_true p9
            replace q9 := eq_true q9
            have p10 : 0 ≤ (x3_2 : Int) := zB qA
            have q10 : x3_2 < (a0.size : Int) := zB qA
            have hx10 := bt_at a0 x3_2
            replace p10 := eq_true p10
            replace q10 := eq_true q10
            have p12 : 0 ≤ (x3_2 : Int) := zB qA
            have q12 : x3_2 < (a0.size : Int) := zB qA
            have hx12 := bt_at a0 x3_2
            replace p12 := eq_true p12
            replace q12 := eq_true q12
            go_wp2
            go_ret
            exact ⟨by first | rfl | (simp; done) | (simp [*]; done), qD⟩
         ·rw [zD c11] at H
          have c11b0 : decide (48 ≤ (bt a0 x3_2)) = false := zG c11
          clear c11
          by_cases c16 : ((bt a0 x3_2) ≤ 122)
          ·rw [zC c16] at H
           have c16b0 : decide ((bt a0 x3_2) ≤ 122) = true := zF c16
           clear c16
           have H' := zA H
           clear H
           have p7 : 0 ≤ (x3_2 : Int) := zB qA
           have q7 : x3_2 < (a0.size : Int) := zB qA
           have hx7 := bt_at a0 x3_2
           replace p7 := eq_true p7
           replace q7 := eq_true q7
           have p9 : 0 ≤ (x3_2 : Int) := zB qA
           have q9 : x3_2 < (a0.size : Int) := zB qA
           have hx9 := bt_at a0 x3_2
           replace p9 := eq_true p9
           replace q9 := eq_true q9
           have p10 : 0 ≤ (x3_2 : Int) := zB qA
           have q10 : x3_2 < (a0.size : Int) := zB qA
           have hx10 := bt_at a0 x3_2
           replace p10 := eq_true p10
           replace q10 := eq_true q10
           go_wp2
           go_roundg k2
           case measure => have := HJ1.out; have := HK2.out; omega
           case rel => exact ⟨(wrap64 (x3_2 + 1)), qT, H', ⟨by have := HJ1.out; have := HK2.out; omega⟩, qD⟩
          ·rw [zD c16] at H
           have c16b0 : decide ((bt a0 x3_2) ≤ 122) = false := zG c16
           clear c16
           obtain rfl := zI H
           have p7 : 0 ≤ (x3_2 : Int) := zB qA
           have q7 : x3_2 < (a0.size : Int) := zB qA
           have hx7 := bt_at a0 x3_2
           replace p7 := eq_true p7
           replace q7 := eq_true q7
           have p9 : 0 ≤ (x3_2 : Int) := zB qA
           have q9 : x3_2 < (a0.size : Int) := zB qA
           have hx9 := bt_at a0 x3_2
           replace p9 := eq_true p9
           replace q9 := eq_true q9
           have p10 : 0 ≤ (x3_2 : Int) := zB qA
           have q10 : x3_2 < (a0.size : Int) := zB qA
           have hx10 := bt_at a0 x3_2
           replace p10 := eq_true p10
           replace q10 := eq_true q10
           go_wp2
           go_ret
           exact ⟨by first | rfl | (simp; done) | (simp [*]; done), qD⟩
        ·rw [zD c8] at H
         have c8b0 : decide (97 ≤ (bt a0 x3_2)) = false := zG c8
         clear c8
         by_cases c18 : (bt a0 x3_2) ≥ 48
         ·rw [zC c18] at H
          have c18b0 : decide (48 ≤ (bt a0 x3_2)) = true := zF c18
          clear c18
          by_cases c20 : ((bt a0 x3_2) ≤ 57)
          ·rw [zC c20] at H
           have c20b0 : decide ((bt a0 x3_2) ≤ 57) = true := zF c20
           clear c20
           by_cases c21 : x3_2 = 0
           ·rw [zC c21] at H
            obtain ⟨c21b0, c21b1⟩ := qe c21; clear c21
            obtain rfl := zI H
            have p7 : 0 ≤ (x3_2 : Int) := zB qA
            have q7 : x3_2 < (a0.size : Int) := zB qA
            have hx7 := bt_at a0 x3_2
            replace p7 := eq_true p7
            replace q7 := eq_true q7
            have p17 : 0 ≤ (x3_2 : Int) := zB qA
            have q17 : x3_2 < (a0.size : Int) := zB qA
            have hx17 := bt_at a0 x3_2
            replace p17 := eq_true p17
            replace q17 := eq_true q17
            have p19 : 0 ≤ (x3_2 : Int) := zB qA
            have q19 : x3_2 < (a0.size : Int) := zB qA
            have hx19 := bt_at a0 x3_2
            replace p19 := eq_true p19
            replace q19 := eq_true q19
            go_wp2
            go_ret
            exact ⟨by first | rfl | (simp; done) | (simp [*]; done), qD⟩
           ·rw [zD c21] at H
            obtain ⟨c21b0, c21b1⟩ := qn c21
            have H' := zA H
            clear H
            have p7 : 0 ≤ (x3_2 : Int) := zB qA
            have q7 : x3_2 < (a0.size : Int) := zB qA
            have hx7 := bt_at a0 x3_2
            replace p7 := eq_true p7
            replace q7 := eq_true q7
            have p17 : 0 ≤ (x3_2 : Int) := zB qA
            have q17 : x3_2 < (a0.size : Int) := zB qA
            have hx17 := bt_at a0 x3_2
            replace p17 := eq_true p17
            replace q17 := eq_true q17
            have p19 : 0 ≤ (x3_2 : Int) := zB qA
            have q19 : x3_2 < (a0.size : Int) := zB qA
            have hx19 := bt_at a0 x3_2
            replace p19 := eq_true p19
            replace q19 := eq_true q19
            go_wp2
            go_roundg k2
            case measure => have := HJ1.out; have := HK2.out; omega
            case rel => exact ⟨(wrap64 (x3_2 + 1)), qT, H', ⟨by have := HJ1.out; have := HK2.out; omega⟩, qD⟩
          ·rw [zD c20] at H
           have c20b0 : decide ((bt a0 x3_2) ≤ 57) = false := zG c20
           clear c20
           obtain rfl := zI H
           have p7 : 0 ≤ (x3_2 : Int) := zB qA
           have q7 : x3_2 < (a0.size : Int) := zB qA
           have hx7 := bt_at a0 x3_2
           replace p7 := eq_true p7
           replace q7 := eq_true q7
           have p17 : 0 ≤ (x3_2 : Int) := zB qA
           have q17 : x3_2 < (a0.size : Int) := zB qA
           have hx17 := bt_at a0 x3_2
           replace p17 := eq_true p17
           replace q17 := eq_true q17
           have p19 : 0 ≤ (x3_2 : Int) := zB qA
           have q19 : x3_2 < (a0.size : Int) := zB qA
           have hx19 := bt_at a0 x3_2
           replace p19 := eq_true p19
           replace q19 := eq_true q19
           go_wp2
           go_ret
           exact ⟨by first | rfl | (simp; done) | (simp [*]; done), qD⟩
         ·rw [zD c18] at H
          have c18b0 : decide (48 ≤ (bt a0 x3_2)) = false := zG c18
          clear c18
          obtain rfl := zI H
          have p7 : 0 ≤ (x3_2 : Int) := zB qA
          have q7 : x3_2 < (a0.size : Int) := zB qA
          have hx7 := bt_at a0 x3_2
          replace p7 := eq_true p7
          replace q7 := eq_true q7
          have p17 : 0 ≤ (x3_2 : Int) := zB qA
          have q17 : x3_2 < (a0.size : Int) := zB qA
          have hx17 := bt_at a0 x3_2
          replace p17 := eq_true p17
          replace q17 := eq_true q17
          go_wp2
          go_ret
          exact ⟨by first | rfl | (simp; done) | (simp [*]; done), qD⟩
       ·rw [zD c6] at H
        exact absurd H (by simp)
      ·rw [zD c5] at H
       have c5b0 := zG c5
       clear c5
       obtain rfl := zI H
       go_wp2
       go_ret
       exact ⟨by first | rfl | (simp; done) | (simp [*]; done), qD⟩

def cubbyref21_word.f (a0 : Int) : Option (ByteArray) := (some (([(⟨#[]⟩ : ByteArray), (⟨#[115, 117, 98, 109, 105, 116]⟩ : ByteArray), (⟨#[98, 117, 105, 108, 100]⟩ : ByteArray), (⟨#[102, 101, 116, 99, 104]⟩ : ByteArray), (⟨#[100, 114, 111, 112]⟩ : ByteArray), (⟨#[112, 105, 110]⟩ : ByteArray), (⟨#[117, 110, 112, 105, 110]⟩ : ByteArray), (⟨#[101, 118, 105, 99, 116]⟩ : ByteArray), (⟨#[114, 101, 99, 104, 101, 99, 107]⟩ : ByteArray), (⟨#[115, 116, 97, 116, 115]⟩ : ByteArray)] : List ByteArray) : List ByteArray)).bind fun y239 => (if a0 < 0 then (some (⟨#[]⟩ : ByteArray)) else (if a0 ≥ (y239.length : Int) then (some (⟨#[]⟩ : ByteArray)) else (if 0 ≤ a0 then (if a0 < (y239.length : Int) then (some (rdOf ByteArray.empty y239 a0)) else (none)) else (none))))
set_option maxHeartbeats 8000000 in
set_option maxRecDepth 100000 in
theorem cubbyref21_word.calls (a0 : Int) (r : ByteArray) (w : World) (h : cubbyref21_word.f a0 = some r) :
 Calls Tryd.prog 23 #[.int .i64 a0] w fun e w' => e = .returned (.string r) ∧ Below w.heap.size w w' := by
 have HB := zA (Below.refl w.heap.size w)
 have H := h; clear h; unfold cubbyref21_word.f at H
 obtain ⟨y239, hy239⟩ : ∃ y_ : List ByteArray, y_ = (([(⟨#[]⟩ : ByteArray), (⟨#[115, 117, 98, 109, 105, 116]⟩ : ByteArray), (⟨#[98, 117, 105, 108, 100]⟩ : ByteArray), (⟨#[102, 101, 116, 99, 104]⟩ : ByteArray), (⟨#[100, 114, 111, 112]⟩ : ByteArray), (⟨#[112, 105, 110]⟩ : ByteArray), (⟨#[117, 110, 112, 105, 110]⟩ : ByteArray), (⟨#[101, 118, 105, 99, 116]⟩ : ByteArray), (⟨#[114, 101, 99, 104, 101, 99, 107]⟩ : ByteArray), (⟨#[115, 116, 97, 116, 115]⟩ : ByteArray)] : List ByteArray)) := ⟨_, rfl⟩
 replace H : (if a0 < 0 then (some (⟨#[]⟩ : ByteArray)) else (if a0 ≥ (y239.length : Int) then (some (⟨#[]⟩ : ByteArray)) else (if 0 ≤ a0 then (if a0 < (y239.length : Int) then (some (rdOf ByteArray.empty y239 a0)) else (none)) else (none)))) = some r := by (try rw [hy239]); first | with_reducible exact H | exact (zJ _ _).symm.trans H | exact H
 have Ny239 := zA hy239
 clear hy239
 by_cases c2 : a0 < 0
 ·rw [zC c2] at H
  have c2b0 := zF c2
  clear c2
  obtain rfl := zI H
  go_enter Tryd.func23, Tryd.ntmps23
  go_wp2_with (first | ((with_reducible refine gate_dst (N := 4) rfl ?_); (try (refine gate_guard (by rfl) ?_; dsimp only)); refine Kd.R_lit Kd.string _ 9 (by rfl) (N := 4) (by rfl) (xs := ([(⟨#[]⟩ : ByteArray), (⟨#[115, 117, 98, 109, 105, 116]⟩ : ByteArray), (⟨#[98, 117, 105, 108, 100]⟩ : ByteArray), (⟨#[102, 101, 116, 99, 104]⟩ : ByteArray), (⟨#[100, 114, 111, 112]⟩ : ByteArray), (⟨#[112, 105, 110]⟩ : ByteArray), (⟨#[117, 110, 112, 105, 110]⟩ : ByteArray), (⟨#[101, 118, 105, 99, 116]⟩ : ByteArray), (⟨#[114, 101, 99, 104, 101, 99, 107]⟩ : ByteArray), (⟨#[115, 116, 97, 116, 115]⟩ : ByteArray)] : List ByteArray)) (inner := [.string (⟨#[]⟩ : ByteArray), .string (⟨#[115, 117, 98, 109, 105, 116]⟩ : ByteArray), .string (⟨#[98, 117, 105, 108, 100]⟩ : ByteArray), .string (⟨#[102, 101, 116, 99, 104]⟩ : ByteArray), .string (⟨#[100, 114, 111, 112]⟩ : ByteArray), .string (⟨#[112, 105, 110]⟩ : ByteArray), .string (⟨#[117, 110, 112, 105, 110]⟩ : ByteArray), .string (⟨#[101, 118, 105, 99, 116]⟩ : ByteArray), .string (⟨#[114, 101, 99, 104, 101, 99, 107]⟩ : ByteArray), .string (⟨#[115, 116, 97, 116, 115]⟩ : ByteArray)]) (ok := fun _ => True) (okp := fun _ => True) ?hr ?hp (fun _ hk => hk) trivial (Below.refl _ _) (Nat.le_refl _) (by simp) ?_; (case hr => go_simp <;> rfl); (case hp => exact (Reps.one (show Kd.M Kd.string _ _ _ (⟨#[]⟩ : ByteArray) [.string (⟨#[]⟩ : ByteArray)] from rfl) (Reps.one (show Kd.M Kd.string _ _ _ (⟨#[115, 117, 98, 109, 105, 116]⟩ : ByteArray) [.string (⟨#[115, 117, 98, 109, 105, 116]⟩ : ByteArray)] from rfl) (Reps.one (show Kd.M Kd.string _ _ _ (⟨#[98, 117, 105, 108, 100]⟩ : ByteArray) [.string (⟨#[98, 117, 105, 108, 100]⟩ : ByteArray)] from rfl) (Reps.one (show Kd.M Kd.string _ _ _ (⟨#[102, 101, 116, 99, 104]⟩ : ByteArray) [.string (⟨#[102, 101, 116, 99, 104]⟩ : ByteArray)] from rfl) (Reps.one (show Kd.M Kd.string _ _ _ (⟨#[100, 114, 111, 112]⟩ : ByteArray) [.string (⟨#[100, 114, 111, 112]⟩ : ByteArray)] from rfl) (Reps.one (show Kd.M Kd.string _ _ _ (⟨#[112, 105, 110]⟩ : ByteArray) [.string (⟨#[112, 105, 110]⟩ : ByteArray)] from rfl) (Reps.one (show Kd.M Kd.string _ _ _ (⟨#[117, 110, 112, 105, 110]⟩ : ByteArray) [.string (⟨#[117, 110, 112, 105, 110]⟩ : ByteArray)] from rfl) (Reps.one (show Kd.M Kd.string _ _ _ (⟨#[101, 118, 105, 99, 116]⟩ : ByteArray) [.string (⟨#[101, 118, 105, 99, 116]⟩ : ByteArray)] from rfl) (Reps.one (show Kd.M Kd.string _ _ _ (⟨#[114, 101, 99, 104, 101, 99, 107]⟩ : ByteArray) [.string (⟨#[114, 101, 99, 104, 101, 99, 107]⟩ : ByteArray)] from rfl) (Reps.one (show Kd.M Kd.string _ _ _ (⟨#[115, 116, 97, 116, 115]⟩ : ByteArray) [.string (⟨#[115, 116, 97, 116, 115]⟩ : ByteArray)] from rfl) (Reps.none _ _)))))))))))); intro v240 w3 ho4 hb hg_ hnew_; clear hg_ hnew_; (first | rw [← Ny239.out] at ho4 | (simp only [Int.reduceToNat] at ho4; rw [← Ny239.out] at ho4)); have HO241 := zA (Kd.R_lower ho4 (below_size qB)); replace HB := qH hb; clear hb ho4))
  go_ret
  exact ⟨qE, qB⟩
 ·rw [zD c2] at H
  have c2b0 := zG c2
  clear c2
  by_cases c5 : a0 ≥ (y239.length : Int)
  ·rw [zC c5] at H
   have c5b0 : decide ((y239.length : Int) ≤ a0) = true := zF c5
   clear c5
   obtain rfl := zI H
   go_enter Tryd.func23, Tryd.ntmps23
   go_wp2_with (first | ((with_reducible refine gate_dst (N := 4) rfl ?_); (try (refine gate_guard (by rfl) ?_; dsimp only)); refine Kd.R_lit Kd.string _ 9 (by rfl) (N := 4) (by rfl) (xs := ([(⟨#[]⟩ : ByteArray), (⟨#[115, 117, 98, 109, 105, 116]⟩ : ByteArray), (⟨#[98, 117, 105, 108, 100]⟩ : ByteArray), (⟨#[102, 101, 116, 99, 104]⟩ : ByteArray), (⟨#[100, 114, 111, 112]⟩ : ByteArray), (⟨#[112, 105, 110]⟩ : ByteArray), (⟨#[117, 110, 112, 105, 110]⟩ : ByteArray), (⟨#[101, 118, 105, 99, 116]⟩ : ByteArray), (⟨#[114, 101, 99, 104, 101, 99, 107]⟩ : ByteArray), (⟨#[115, 116, 97, 116, 115]⟩ : ByteArray)] : List ByteArray)) (inner := [.string (⟨#[]⟩ : ByteArray), .string (⟨#[115, 117, 98, 109, 105, 116]⟩ : ByteArray), .string (⟨#[98, 117, 105, 108, 100]⟩ : ByteArray), .string (⟨#[102, 101, 116, 99, 104]⟩ : ByteArray), .string (⟨#[100, 114, 111, 112]⟩ : ByteArray), .string (⟨#[112, 105, 110]⟩ : ByteArray), .string (⟨#[117, 110, 112, 105, 110]⟩ : ByteArray), .string (⟨#[101, 118, 105, 99, 116]⟩ : ByteArray), .string (⟨#[114, 101, 99, 104, 101, 99, 107]⟩ : ByteArray), .string (⟨#[115, 116, 97, 116, 115]⟩ : ByteArray)]) (ok := fun _ => True) (okp := fun _ => True) ?hr ?hp (fun _ hk => hk) trivial (Below.refl _ _) (Nat.le_refl _) (by simp) ?_; (case hr => go_simp <;> rfl); (case hp => exact (Reps.one (show Kd.M Kd.string _ _ _ (⟨#[]⟩ : ByteArray) [.string (⟨#[]⟩ : ByteArray)] from rfl) (Reps.one (show Kd.M Kd.string _ _ _ (⟨#[115, 117, 98, 109, 105, 116]⟩ : ByteArray) [.string (⟨#[115, 117, 98, 109, 105, 116]⟩ : ByteArray)] from rfl) (Reps.one (show Kd.M Kd.string _ _ _ (⟨#[98, 117, 105, 108, 100]⟩ : ByteArray) [.string (⟨#[98, 117, 105, 108, 100]⟩ : ByteArray)] from rfl) (Reps.one (show Kd.M Kd.string _ _ _ (⟨#[102, 101, 116, 99, 104]⟩ : ByteArray) [.string (⟨#[102, 101, 116, 99, 104]⟩ : ByteArray)] from rfl) (Reps.one (show Kd.M Kd.string _ _ _ (⟨#[100, 114, 111, 112]⟩ : ByteArray) [.string (⟨#[100, 114, 111, 112]⟩ : ByteArray)] from rfl) (Reps.one (show Kd.M Kd.string _ _ _ (⟨#[112, 105, 110]⟩ : ByteArray) [.string (⟨#[112, 105, 110]⟩ : ByteArray)] from rfl) (Reps.one (show Kd.M Kd.string _ _ _ (⟨#[117, 110, 112, 105, 110]⟩ : ByteArray) [.string (⟨#[117, 110, 112, 105, 110]⟩ : ByteArray)] from rfl) (Reps.one (show Kd.M Kd.string _ _ _ (⟨#[101, 118, 105, 99, 116]⟩ : ByteArray) [.string (⟨#[101, 118, 105, 99, 116]⟩ : ByteArray)] from rfl) (Reps.one (show Kd.M Kd.string _ _ _ (⟨#[114, 101, 99, 104, 101, 99, 107]⟩ : ByteArray) [.string (⟨#[114, 101, 99, 104, 101, 99, 107]⟩ : ByteArray)] from rfl) (Reps.one (show Kd.M Kd.string _ _ _ (⟨#[115, 116, 97, 116, 115]⟩ : ByteArray) [.string (⟨#[115, 116, 97, 116, 115]⟩ : ByteArray)] from rfl) (Reps.none _ _)))))))))))); intro v240 w6 ho7 hb hg_ hnew_; clear hg_ hnew_; (first | rw [← Ny239.out] at ho7 | (simp only [Int.reduceToNat] at ho7; rw [← Ny239.out] at ho7)); have HO241 := zA (Kd.R_lower ho7 (below_size qB)); replace HB := qH hb; clear hb ho7; obtain ⟨Ao8, co8, eo8⟩ := Kd.R_slice HO241.out; subst eo8))
   go_ret
   exact ⟨qE, qB⟩
  ·rw [zD c5] at H
   have c5b0 : decide ((y239.length : Int) ≤ a0) = false := zG c5
   clear c5
   by_cases c9 : 0 ≤ a0
   ·rw [zC c9] at H
    have c9b0 := zF c9
    clear c9
    by_cases c10 : a0 < (y239.length : Int)
    ·rw [zC c10] at H
     have c10b0 := zF c10
     clear c10
     obtain rfl := zI H
     go_enter Tryd.func23, Tryd.ntmps23
     go_wp2_with (first | ((with_reducible refine gate_dst (N := 4) rfl ?_); (try (refine gate_guard (by rfl) ?_; dsimp only)); refine Kd.R_lit Kd.string _ 9 (by rfl) (N := 4) (by rfl) (xs := ([(⟨#[]⟩ : ByteArray), (⟨#[115, 117, 98, 109, 105, 116]⟩ : ByteArray), (⟨#[98, 117, 105, 108, 100]⟩ : ByteArray), (⟨#[102, 101, 116, 99, 104]⟩ : ByteArray), (⟨#[100, 114, 111, 112]⟩ : ByteArray), (⟨#[112, 105, 110]⟩ : ByteArray), (⟨#[117, 110, 112, 105, 110]⟩ : ByteArray), (⟨#[101, 118, 105, 99, 116]⟩ : ByteArray), (⟨#[114, 101, 99, 104, 101, 99, 107]⟩ : ByteArray), (⟨#[115, 116, 97, 116, 115]⟩ : ByteArray)] : List ByteArray)) (inner := [.string (⟨#[]⟩ : ByteArray), .string (⟨#[115, 117, 98, 109, 105, 116]⟩ : ByteArray), .string (⟨#[98, 117, 105, 108, 100]⟩ : ByteArray), .string (⟨#[102, 101, 116, 99, 104]⟩ : ByteArray), .string (⟨#[100, 114, 111, 112]⟩ : ByteArray), .string (⟨#[112, 105, 110]⟩ : ByteArray), .string (⟨#[117, 110, 112, 105, 110]⟩ : ByteArray), .string (⟨#[101, 118, 105, 99, 116]⟩ : ByteArray), .string (⟨#[114, 101, 99, 104, 101, 99, 107]⟩ : ByteArray), .string (⟨#[115, 116, 97, 116, 115]⟩ : ByteArray)]) (ok := fun _ => True) (okp := fun _ => True) ?hr ?hp (fun _ hk => hk) trivial (Below.refl _ _) (Nat.le_refl _) (by simp) ?_; (case hr => go_simp <;> rfl); (case hp => exact (Reps.one (show Kd.M Kd.string _ _ _ (⟨#[]⟩ : ByteArray) [.string (⟨#[]⟩ : ByteArray)] from rfl) (Reps.one (show Kd.M Kd.string _ _ _ (⟨#[115, 117, 98, 109, 105, 116]⟩ : ByteArray) [.string (⟨#[115, 117, 98, 109, 105, 116]⟩ : ByteArray)] from rfl) (Reps.one (show Kd.M Kd.string _ _ _ (⟨#[98, 117, 105, 108, 100]⟩ : ByteArray) [.string (⟨#[98, 117, 105, 108, 100]⟩ : ByteArray)] from rfl) (Reps.one (show Kd.M Kd.string _ _ _ (⟨#[102, 101, 116, 99, 104]⟩ : ByteArray) [.string (⟨#[102, 101, 116, 99, 104]⟩ : ByteArray)] from rfl) (Reps.one (show Kd.M Kd.string _ _ _ (⟨#[100, 114, 111, 112]⟩ : ByteArray) [.string (⟨#[100, 114, 111, 112]⟩ : ByteArray)] from rfl) (Reps.one (show Kd.M Kd.string _ _ _ (⟨#[112, 105, 110]⟩ : ByteArray) [.string (⟨#[112, 105, 110]⟩ : ByteArray)] from rfl) (Reps.one (show Kd.M Kd.string _ _ _ (⟨#[117, 110, 112, 105, 110]⟩ : ByteArray) [.string (⟨#[117, 110, 112, 105, 110]⟩ : ByteArray)] from rfl) (Reps.one (show Kd.M Kd.string _ _ _ (⟨#[101, 118, 105, 99, 116]⟩ : ByteArray) [.string (⟨#[101, 118, 105, 99, 116]⟩ : ByteArray)] from rfl) (Reps.one (show Kd.M Kd.string _ _ _ (⟨#[114, 101, 99, 104, 101, 99, 107]⟩ : ByteArray) [.string (⟨#[114, 101, 99, 104, 101, 99, 107]⟩ : ByteArray)] from rfl) (Reps.one (show Kd.M Kd.string _ _ _ (⟨#[115, 116, 97, 116, 115]⟩ : ByteArray) [.string (⟨#[115, 116, 97, 116, 115]⟩ : ByteArray)] from rfl) (Reps.none _ _)))))))))))); intro v240 w11 ho12 hb hg_ hnew_; clear hg_ hnew_; (first | rw [← Ny239.out] at ho12 | (simp only [Int.reduceToNat] at ho12; rw [← Ny239.out] at ho12)); have HO241 := zA (Kd.R_lower ho12 (below_size qB)); replace HB := qH hb; clear hb ho12; obtain ⟨Ao13, co13, eo13⟩ := Kd.R_slice HO241.out; subst eo13; have p242 : 0 ≤ (a0 : Int) := zB qA; have q242 : a0 < (y239.length : Int) := zB qA; obtain ⟨ad242, e242, hx242_0⟩ := Kd.at_string (Kd.R_reads' HO241.out).2.2 a0 p242 q242; cases e242; replace p242 := eq_true p242; replace q242 := eq_true q242))
     go_ret
     exact ⟨qE, qB⟩
    ·rw [zD c10] at H
     exact absurd H (by simp)
   ·rw [zD c9] at H
    exact absurd H (by simp)

def cubbyref21_Print.f (k : Nat) (a0_0 : Int) (a0_1 : ByteArray) (a0_2 : ByteArray) : Option (ByteArray × Int) := (cubbyref21_word.f a0_0).bind fun t244 => (if t244.toList = ([] : List UInt8) then (some ((⟨#[]⟩ : ByteArray), 210)) else (if a0_0 = 1 then (if t244.size + 1 ≤ 9223372036854775807 then (if (t244 ++ (⟨#[10]⟩ : ByteArray)).size + a0_2.size ≤ 9223372036854775807 then (some ((t244 ++ (⟨#[10]⟩ : ByteArray)) ++ a0_2, 0)) else (none)) else (none)) else (if a0_0 ≤ 6 then ((cubbyref07_Name.f k a0_1).bind fun t245 => (if t245 = true then (if t244.size + 1 ≤ 9223372036854775807 then (if (t244 ++ (⟨#[32]⟩ : ByteArray)).size + a0_1.size ≤ 9223372036854775807 then (some ((t244 ++ (⟨#[32]⟩ : ByteArray)) ++ a0_1, 0)) else (none)) else (none)) else (some ((⟨#[]⟩ : ByteArray), 210)))) else (some (t244, 0)))))
set_option maxHeartbeats 8000000 in
set_option maxRecDepth 100000 in
theorem cubbyref21_Print.calls (k : Nat) (a0_0 : Int) (a0_1 : ByteArray) (a0_2 : ByteArray) (r1 : ByteArray) (r2 : Int) (w : World) (h : cubbyref21_Print.f k a0_0 a0_1 a0_2 = some (r1, r2)) :
 Calls Tryd.prog 24 #[.agg #[.int .i64 a0_0, .string a0_1, .string a0_2]] w fun e w' => e = .returned (.tuple #[.string r1, .int .i64 r2]) ∧ Below w.heap.size w w' := by
 have hu39 := Tryd.underlying39
 have HB := zA (Below.refl w.heap.size w)
 have H := h; clear h; unfold cubbyref21_Print.f at H
 replace H := qb H; obtain ⟨t244, A2, H⟩ := H
 by_cases c3 : t244.toList = ([] : List UInt8)
 ·rw [zC c3] at H
  obtain ⟨c3b0, c3b1⟩ := qe c3; clear c3
  simp only [Option.some.injEq, Prod.mk.injEq] at H
  obtain ⟨rfl, rfl⟩ := H
  go_enter Tryd.func24, Tryd.ntmps24
  go_wp2_with (first | ((with_reducible refine gate_dst (N := 1) rfl ?_); refine box_event (by rfl) (N := 1) (by rfl) (cs := #[.int .i64 a0_0, .string a0_1, .string a0_2]) (t := 39) ?hr ?_; (case hr => go_simp <;> rfl); intro gb243 hg w4 hbox hb; have BK243 := zA (hbox); have GW243 := qG hg; have GE243 := GW243; replace HB := qH hb; clear hb hbox hg; have z5_0 := bk3 BK243.out) | ((with_reducible refine gate_callee (f := 23) rfl ?_); refine goesL_ (some 7) rfl rfl Tryd.func23 (by kernel_rfl) rfl #[.int .i64 a0_0] rfl qL ?_; (with_reducible refine (cubbyref21_word.calls a0_0 t244 _ A2.out).mono ?_); rintro e w6 ⟨rfl, hb⟩; refine ⟨_, rfl, ?_⟩; replace BK243 := qW BK243 hb; replace HB := qH hb; (try clear hb)))
  go_ret2
  exact ⟨qE, qB⟩
 ·rw [zD c3] at H
  obtain ⟨c3b0, c3b1⟩ := qn c3
  by_cases c7 : a0_0 = 1
  ·rw [zC c7] at H
   obtain ⟨c7b0, c7b1⟩ := qe c7; clear c7
   by_cases c8 : t244.size + 1 ≤ 9223372036854775807
   ·rw [zC c8] at H
    have c8b0 := eq_true c8
    have c8b1 := zF c8
    try have c8b2 : (9223372036854775807 < t244.size + 1) = False := eq_false (Nat.not_lt.2 c8)
    by_cases c9 : (t244 ++ (⟨#[10]⟩ : ByteArray)).size + a0_2.size ≤ 9223372036854775807
    ·rw [zC c9] at H
     have c9b0 := eq_true c9
     have c9b1 := zF c9
     try have c9b2 : (9223372036854775807 < (t244 ++ (⟨#[10]⟩ : ByteArray)).size + a0_2.size) = False := eq_false (Nat.not_lt.2 c9)
     simp only [Option.some.injEq, Prod.mk.injEq] at H
     obtain ⟨rfl, rfl⟩ := H
     go_enter Tryd.func24, Tryd.ntmps24
     go_wp2_with (first | ((with_reducible refine gate_dst (N := 1) rfl ?_); refine box_event (by rfl) (N := 1) (by rfl) (cs := #[.int .i64 a0_0, .string a0_1, .string a0_2]) (t := 39) ?hr ?_; (case hr => go_simp <;> rfl); intro gb243 hg w10 hbox hb; have BK243 := zA (hbox); have GW243 := qG hg; have GE243 := GW243; replace HB := qH hb; clear hb hbox hg; have z11_0 := bk3 BK243.out) | ((with_reducible refine gate_callee (f := 23) rfl ?_); refine goesL_ (some 7) rfl rfl Tryd.func23 (by kernel_rfl) rfl #[.int .i64 a0_0] rfl qL ?_; (with_reducible refine (cubbyref21_word.calls a0_0 t244 _ A2.out).mono ?_); rintro e w12 ⟨rfl, hb⟩; refine ⟨_, rfl, ?_⟩; replace BK243 := qW BK243 hb; replace HB := qH hb; (try clear hb); have z13_0 := bk3 BK243.out))
     go_ret2
     exact ⟨qE, qB⟩
    ·rw [zD c9] at H
     exact absurd H (by simp)
   ·rw [zD c8] at H
    exact absurd H (by simp)
  ·rw [zD c7] at H
   obtain ⟨c7b0, c7b1⟩ := qn c7
   by_cases c14 : a0_0 ≤ 6
   ·rw [zC c14] at H
    have c14b0 := zF c14
    clear c14
    replace H := qb H; obtain ⟨t245, A15, H⟩ := H
    by_cases c16 : t245 = true
    ·subst c16
     have H1 : (if t244.size + 1 ≤ 9223372036854775807 then (if (t244 ++ (⟨#[32]⟩ : ByteArray)).size + a0_1.size ≤ 9223372036854775807 then (some ((t244 ++ (⟨#[32]⟩ : ByteArray)) ++ a0_1, 0)) else (none)) else (none)) = some (r1, r2) := by rw [zC rfl] at H; exact H
     clear H
     have H := H1
     clear H1
     by_cases c17 : t244.size + 1 ≤ 9223372036854775807
     ·rw [zC c17] at H
      have c17b0 := eq_true c17
      have c17b1 := zF c17
      try have c17b2 : (9223372036854775807 < t244.size + 1) = False := eq_false (Nat.not_lt.2 c17)
      by_cases c18 : (t244 ++ (⟨#[32]⟩ : ByteArray)).size + a0_1.size ≤ 9223372036854775807
      ·rw [zC c18] at H
       have c18b0 := eq_true c18
       have c18b1 := zF c18
       try have c18b2 : (9223372036854775807 < (t244 ++ (⟨#[32]⟩ : ByteArray)).size + a0_1.size) = False := eq_false (Nat.not_lt.2 c18)
       simp only [Option.some.injEq, Prod.mk.injEq] at H
       obtain ⟨rfl, rfl⟩ := H
       go_enter Tryd.func24, Tryd.ntmps24
       go_wp2_with (first | ((with_reducible refine gate_dst (N := 1) rfl ?_); refine box_event (by rfl) (N := 1) (by rfl) (cs := #[.int .i64 a0_0, .string a0_1, .string a0_2]) (t := 39) ?hr ?_; (case hr => go_simp <;> rfl); intro gb243 hg w19 hbox hb; have BK243 := zA (hbox); have GW243 := qG hg; have GE243 := GW243; replace HB := qH hb; clear hb hbox hg; have z20_0 := bk3 BK243.out) | ((with_reducible refine gate_callee (f := 23) rfl ?_); refine goesL_ (some 7) rfl rfl Tryd.func23 (by kernel_rfl) rfl #[.int .i64 a0_0] rfl qL ?_; (with_reducible refine (cubbyref21_word.calls a0_0 t244 _ A2.out).mono ?_); rintro e w21 ⟨rfl, hb⟩; refine ⟨_, rfl, ?_⟩; replace BK243 := qW BK243 hb; replace HB := qH hb; (try clear hb); have z22_0 := bk3 BK243.out) | ((with_reducible refine gate_callee (f := 31) rfl ?_); refine goesL_ (some 26) rfl rfl Tryd.func31 (by kernel_rfl) rfl #[.string a0_1] rfl qL ?_; (with_reducible refine (cubbyref07_Name.calls k a0_1 true _ A15.out).mono ?_); rintro e w' ⟨rfl, ⟨nd, rfl⟩⟩; refine ⟨_, rfl, ?_⟩))
       go_ret2
       exact ⟨qE, qB⟩
      ·rw [zD c18] at H
       exact absurd H (by simp)
     ·rw [zD c17] at H
      exact absurd H (by simp)
    ·replace c16 := Bool.eq_false_iff.mpr c16
     subst c16
     have H1 : (some ((⟨#[]⟩ : ByteArray), 210)) = some (r1, r2) := by rw [zD (show ¬ (false = true) by decide)] at H; exact H
     clear H
     have H := H1
     clear H1
     simp only [Option.some.injEq, Prod.mk.injEq] at H
     obtain ⟨rfl, rfl⟩ := H
     go_enter Tryd.func24, Tryd.ntmps24
     go_wp2_with (first | ((with_reducible refine gate_dst (N := 1) rfl ?_); refine box_event (by rfl) (N := 1) (by rfl) (cs := #[.int .i64 a0_0, .string a0_1, .string a0_2]) (t := 39) ?hr ?_; (case hr => go_simp <;> rfl); intro gb243 hg w23 hbox hb; have BK243 := zA (hbox); have GW243 := qG hg; have GE243 := GW243; replace HB := qH hb; clear hb hbox hg; have z24_0 := bk3 BK243.out) | ((with_reducible refine gate_callee (f := 23) rfl ?_); refine goesL_ (some 7) rfl rfl Tryd.func23 (by kernel_rfl) rfl #[.int .i64 a0_0] rfl qL ?_; (with_reducible refine (cubbyref21_word.calls a0_0 t244 _ A2.out).mono ?_); rintro e w25 ⟨rfl, hb⟩; refine ⟨_, rfl, ?_⟩; replace BK243 := qW BK243 hb; replace HB := qH hb; (try clear hb); have z26_0 := bk3 BK243.out) | ((with_reducible refine gate_callee (f := 31) rfl ?_); refine goesL_ (some 26) rfl rfl Tryd.func31 (by kernel_rfl) rfl #[.string a0_1] rfl qL ?_; (with_reducible refine (cubbyref07_Name.calls k a0_1 false _ A15.out).mono ?_); rintro e w' ⟨rfl, ⟨nd, rfl⟩⟩; refine ⟨_, rfl, ?_⟩))
     go_ret2
     exact ⟨qE, qB⟩
   ·rw [zD c14] at H
    have c14b0 := zG c14
    clear c14
    simp only [Option.some.injEq, Prod.mk.injEq] at H
    obtain ⟨rfl, rfl⟩ := H
    go_enter Tryd.func24, Tryd.ntmps24
    go_wp2_with (first | ((with_reducible refine gate_dst (N := 1) rfl ?_); refine box_event (by rfl) (N := 1) (by rfl) (cs := #[.int .i64 a0_0, .string a0_1, .string a0_2]) (t := 39) ?hr ?_; (case hr => go_simp <;> rfl); intro gb243 hg w27 hbox hb; have BK243 := zA (hbox); have GW243 := qG hg; have GE243 := GW243; replace HB := qH hb; clear hb hbox hg; have z28_0 := bk3 BK243.out) | ((with_reducible refine gate_callee (f := 23) rfl ?_); refine goesL_ (some 7) rfl rfl Tryd.func23 (by kernel_rfl) rfl #[.int .i64 a0_0] rfl qL ?_; (with_reducible refine (cubbyref21_word.calls a0_0 t244 _ A2.out).mono ?_); rintro e w29 ⟨rfl, hb⟩; refine ⟨_, rfl, ?_⟩; replace BK243 := qW BK243 hb; replace HB := qH hb; (try clear hb); have z30_0 := bk3 BK243.out))
    go_ret2
    exact ⟨qE, qB⟩

mutual
def cubbyref21_Parse.l0 : Nat → ByteArray → Int → Option (Int × ByteArray × ByteArray × Int)
 | 0, _, _ => none
 | k + 1, x0, x4 => if x4 ≤ 9 then ((cubbyref21_word.f x4).bind fun t247 => (if x4 = 1 then (cubbyref21_Parse.j1 k x0 x4 t247 (decide ((x0.size : Int) > (t247.size : Int))) x4 (⟨#[]⟩ : ByteArray) (⟨#[]⟩ : ByteArray)) else (cubbyref21_Parse.j1 k x0 x4 t247 false x4 (⟨#[]⟩ : ByteArray) (⟨#[]⟩ : ByteArray)))) else (some (0, (⟨#[]⟩ : ByteArray), (⟨#[]⟩ : ByteArray), 210))
def cubbyref21_Parse.j1 : Nat → ByteArray → Int → ByteArray → Bool → Int → ByteArray → ByteArray → Option (Int × ByteArray × ByteArray × Int)
 | 0, _, _, _, _, _, _, _ => none
 | k + 1, x0, x4, x5, x25, x249000, x249001, x249002 => if x25 = true then (if 0 ≤ (wrap64 ((x5.size : Int) + 1)) then (if (wrap64 ((x5.size : Int) + 1)) ≤ (x0.size : Int) then (cubbyref21_Parse.j2 k x0 x4 x5 x249000 x249001 (x0.extract ((wrap64 ((x5.size : Int) + 1)) : Int).toNat x0.size)) else (none)) else (none)) else (cubbyref21_Parse.j2 k x0 x4 x5 x249000 x249001 x249002)
def cubbyref21_Parse.j2 : Nat → ByteArray → Int → ByteArray → Int → ByteArray → ByteArray → Option (Int × ByteArray × ByteArray × Int)
 | 0, _, _, _, _, _, _ => none
 | k + 1, x0, x4, x5, x249000, x249001, x249002 => if x4 > 1 then (if x4 ≤ 6 then (cubbyref21_Parse.j3 k x0 x4 x5 (decide ((x0.size : Int) > (x5.size : Int))) x249000 x249001 x249002) else (cubbyref21_Parse.j3 k x0 x4 x5 false x249000 x249001 x249002)) else (cubbyref21_Parse.j3 k x0 x4 x5 false x249000 x249001 x249002)
def cubbyref21_Parse.j3 : Nat → ByteArray → Int → ByteArray → Bool → Int → ByteArray → ByteArray → Option (Int × ByteArray × ByteArray × Int)
 | 0, _, _, _, _, _, _, _ => none
 | k + 1, x0, x4, x5, x44, x249000, x249001, x249002 => if x44 = true then (if 0 ≤ (wrap64 ((x5.size : Int) + 1)) then (if (wrap64 ((x5.size : Int) + 1)) ≤ (x0.size : Int) then ((cubbyref21_Print.f k x249000 (x0.extract ((wrap64 ((x5.size : Int) + 1)) : Int).toNat x0.size) x249002).bind fun bt249 => (if bt249.2 = 0 then (if bt249.1.toList = x0.toList then (some (x249000, x0.extract ((wrap64 ((x5.size : Int) + 1)) : Int).toNat x0.size, x249002, 0)) else (cubbyref21_Parse.l0 k x0 (wrap64 (x4 + 1)))) else (cubbyref21_Parse.l0 k x0 (wrap64 (x4 + 1))))) else (none)) else (none)) else ((cubbyref21_Print.f k x249000 x249001 x249002).bind fun bt251 => (if bt251.2 = 0 then (if bt251.1.toList = x0.toList then (some (x249000, x249001, x249002, 0)) else (cubbyref21_Parse.l0 k x0 (wrap64 (x4 + 1)))) else (cubbyref21_Parse.l0 k x0 (wrap64 (x4 + 1)))))
end
def cubbyref21_Parse.f (k : Nat) (a0 : ByteArray) : Option (Int × ByteArray × ByteArray × Int) := cubbyref21_Parse.l0 k a0 1
set_option maxHeartbeats 8000000 in
set_option maxRecDepth 100000 in
theorem cubbyref21_Parse.calls (k : Nat) (a0 : ByteArray) (r1 : Int) (r2 : ByteArray) (r3 : ByteArray) (r4 : Int) (w : World) (h : cubbyref21_Parse.f k a0 = some (r1, r2, r3, r4)) :
 Calls Tryd.prog 11 #[.string a0] w fun e w' => e = .returned (.tuple #[.agg #[.int .i64 r1, .string r2, .string r3], .int .i64 r4]) ∧ Below w.heap.size w w' := by
 have hu39 := Tryd.underlying39
 have HB := zA (Below.refl w.heap.size w)
 have H := h; clear h; unfold cubbyref21_Parse.f at H
 have H' := zA H
 clear H
 go_enter Tryd.func11, Tryd.ntmps11
 go_wp2_with (first | ((with_reducible refine gate_dst (N := 2) rfl ?_); (try (refine gate_guard (by rfl) ?_; dsimp only)); refine box_event (by rfl) (N := 2) (by rfl) (cs := #[.int .i64 0, .string (⟨#[]⟩ : ByteArray), .string (⟨#[]⟩ : ByteArray)]) (t := 39) ?hr ?_; (case hr => go_simp <;> rfl); intro gb246 hg w2 hbox hb; have BK246 := zA (hbox); have GW246 := qG hg; have GE246 := GW246; replace HB := qH hb; clear hb hbox hg))
 go_loopg [4] k (fun kq v4 w' => ∃ (x4_1 : Int) (x247000_1 : Int) (x247001_1 : ByteArray) (x247002_1 : ByteArray), v4 = .int .i64 x4_1 ∧ Aside0 (cubbyref21_Parse.l0 kq a0 x4_1 = some (r1, r2, r3, r4)) ∧ Aside0 (kq ≤ k) ∧ Aside0 (w'.heap[gb246]? = some (.cells #[.int .i64 x247000_1, .string x247001_1, .string x247002_1] 39 (0, 0))) ∧ Aside0 (Below w.heap.size w w'))
 case atStart => exact ⟨(1), (0), ((⟨#[]⟩ : ByteArray)), ((⟨#[]⟩ : ByteArray)), qT, H', ⟨Nat.le_refl _⟩, ⟨qK BK246.out⟩, ⟨qB⟩⟩
 case round =>
  clear H'
  try clear c1; try clear p2
  obtain ⟨x4_1, x247000_1, x247001_1, x247002_1, rfl, HA, HK1, BK246, HB⟩ := hrel
  cases gk with
  | zero => exact absurd HA.out (by simp [cubbyref21_Parse.l0])
  | succ k1 =>
   have H := HA.out
   clear HA
   simp only [cubbyref21_Parse.l0] at H
   by_cases c3 : x4_1 ≤ 9
   ·rw [zC c3] at H
    have c3b0 := zF c3
    clear c3
    replace H := qb H; obtain ⟨t247, A4, H⟩ := H
    have HC5 := zA H
    clear H
    go_upto_region 6 with (first | ((with_reducible refine gate_callee (f := 23) rfl ?_); refine goesL_ (some 14) rfl rfl Tryd.func23 (by kernel_rfl) rfl #[.int .i64 x4_1] rfl qL ?_; (with_reducible refine (cubbyref21_word.calls x4_1 t247 _ A4.out).mono ?_); rintro e w6 ⟨rfl, hb⟩; refine ⟨_, rfl, ?_⟩; replace BK246 := qW BK246 hb; replace HB := qH hb; (try clear hb)) | ((with_reducible refine gate_dst (N := 6) rfl ?_); (try (refine gate_guard (by rfl) ?_; dsimp only)); refine box_event (by rfl) (N := 6) (by rfl) (cs := #[.int .i64 0, .string (⟨#[]⟩ : ByteArray), .string (⟨#[]⟩ : ByteArray)]) (t := 39) ?hr ?_; (case hr => go_simp <;> rfl); intro gb248 hg w7 hbox hb; have BK248 := zA (hbox); have GW248 := qG hg; have GE248 := GW248; replace HB := qH hb; have NB246_248 := zA ((by rw [hg]; exact Nat.ne_of_lt (blk_lt (g := gb246) (o := .cells #[.int .i64 x247000_1, .string x247001_1, .string x247002_1] 39 (0, 0)) (qK BK246.out)) : gb246 ≠ gb248)); have NB248_246 := zA ((by rw [hg]; exact Nat.ne_of_gt (blk_lt (g := gb246) (o := .cells #[.int .i64 x247000_1, .string x247001_1, .string x247002_1] 39 (0, 0)) (qK BK246.out)) : gb248 ≠ gb246)); replace BK246 := qW BK246 hb; clear hb hbox hg; have hnb8 := NB248_246.out; have hnc8 := NB246_248.out; have z9_0 := bk3 BK248.out))
    (try simp only [Act.put, List.setIfInBounds_toArray, List.set_cons_zero, List.set_cons_succ])
    go_cut [25] (fun v25 wc => ∃ (kq : Nat) (x25_4 : Bool), v25 = .bool x25_4 ∧ Aside0 (cubbyref21_Parse.j1 kq a0 x4_1 t247 x25_4 x4_1 (⟨#[]⟩ : ByteArray) (⟨#[]⟩ : ByteArray) = some (r1, r2, r3, r4)) ∧ Aside0 (kq ≤ k1) ∧ Aside0 (wc.heap[gb246]? = some (.cells #[.int .i64 x247000_1, .string x247001_1, .string x247002_1] 39 (0, 0))) ∧ Aside0 (wc.heap[gb248]? = some (.cells #[.int .i64 x4_1, .string (⟨#[]⟩ : ByteArray), .string (⟨#[]⟩ : ByteArray)] 39 (0, 0))) ∧ Aside0 (Below w.heap.size w wc))
    case first =>
     have H := HC5.out
     clear HC5
     by_cases c10 : x4_1 = 1
     ·rw [zC c10] at H
      obtain ⟨c10b0, c10b1⟩ := qe c10; clear c10
      (first | rw [c10b0] | (simp only [i64_w, i32_w]; rw [c10b0]) | skip)
      have H' := zA H
      clear H
      go_wp2
      go_meet
      case rel => exact ⟨_, (decide ((a0.size : Int) > (t247.size : Int))), qT, H', ⟨by have := HK1.out; first | omega | exact Nat.le_refl _⟩, ⟨by (with_reducible repeat (first | refine blk_drewN ?_ _ | refine blk_drew ?_ | refine blk_alloc ?_ _)); refine blk_far ?_ NB246_248.out _; (with_reducible repeat (first | refine blk_drewN ?_ _ | refine blk_drew ?_ | refine blk_alloc ?_ _)); refine blk_far ?_ NB246_248.out _; (with_reducible repeat (first | refine blk_drewN ?_ _ | refine blk_drew ?_ | refine blk_alloc ?_ _)); refine blk_far ?_ NB246_248.out _; (with_reducible repeat (first | refine blk_drewN ?_ _ | refine blk_drew ?_ | refine blk_alloc ?_ _)); exact BK246.out⟩, ⟨by (with_reducible repeat (first | refine blk_drewN ?_ _ | refine blk_drew ?_ | refine blk_alloc ?_ _)); refine blk_put (cs := #[.int .i64 x4_1, .string (⟨#[]⟩ : ByteArray), .string (⟨#[]⟩ : ByteArray)]) ?_ 2 _ rfl; (with_reducible repeat (first | refine blk_drewN ?_ _ | refine blk_drew ?_ | refine blk_alloc ?_ _)); refine blk_put (cs := #[.int .i64 x4_1, .string (⟨#[]⟩ : ByteArray), .string (⟨#[]⟩ : ByteArray)]) ?_ 1 _ rfl; (with_reducible repeat (first | refine blk_drewN ?_ _ | refine blk_drew ?_ | refine blk_alloc ?_ _)); refine blk_put (cs := #[.int .i64 0, .string (⟨#[]⟩ : ByteArray), .string (⟨#[]⟩ : ByteArray)]) ?_ 0 _ rfl; (with_reducible repeat (first | refine blk_drewN ?_ _ | refine blk_drew ?_ | refine blk_alloc ?_ _)); exact BK248.out⟩, ⟨qB⟩⟩
     ·rw [zD c10] at H
      obtain ⟨c10b0, c10b1⟩ := qn c10
      (first | rw [c10b0] | (simp only [i64_w, i32_w]; rw [c10b0]) | skip)
      have H' := zA H
      clear H
      go_wp2
      go_meet
      case rel => exact ⟨_, (false), qT, H', ⟨by have := HK1.out; first | omega | exact Nat.le_refl _⟩, ⟨by (with_reducible repeat (first | refine blk_drewN ?_ _ | refine blk_drew ?_ | refine blk_alloc ?_ _)); refine blk_far ?_ NB246_248.out _; (with_reducible repeat (first | refine blk_drewN ?_ _ | refine blk_drew ?_ | refine blk_alloc ?_ _)); refine blk_far ?_ NB246_248.out _; (with_reducible repeat (first | refine blk_drewN ?_ _ | refine blk_drew ?_ | refine blk_alloc ?_ _)); refine blk_far ?_ NB246_248.out _; (with_reducible repeat (first | refine blk_drewN ?_ _ | refine blk_drew ?_ | refine blk_alloc ?_ _)); exact BK246.out⟩, ⟨by (with_reducible repeat (first | refine blk_drewN ?_ _ | refine blk_drew ?_ | refine blk_alloc ?_ _)); refine blk_put (cs := #[.int .i64 x4_1, .string (⟨#[]⟩ : ByteArray), .string (⟨#[]⟩ : ByteArray)]) ?_ 2 _ rfl; (with_reducible repeat (first | refine blk_drewN ?_ _ | refine blk_drew ?_ | refine blk_alloc ?_ _)); refine blk_put (cs := #[.int .i64 x4_1, .string (⟨#[]⟩ : ByteArray), .string (⟨#[]⟩ : ByteArray)]) ?_ 1 _ rfl; (with_reducible repeat (first | refine blk_drewN ?_ _ | refine blk_drew ?_ | refine blk_alloc ?_ _)); refine blk_put (cs := #[.int .i64 0, .string (⟨#[]⟩ : ByteArray), .string (⟨#[]⟩ : ByteArray)]) ?_ 0 _ rfl; (with_reducible repeat (first | refine blk_drewN ?_ _ | refine blk_drew ?_ | refine blk_alloc ?_ _)); exact BK248.out⟩, ⟨qB⟩⟩
    case rest =>
     clear HC5
     try clear c1; try clear c2; try clear p2; try clear c3b0; try clear c8; try clear c10; try clear c10b0 c10b1; try clear z9_0
     obtain ⟨kq, x25_4, rfl, HA, HJ4, BK246, BK248, HB⟩ := hcut
     cases kq with
     | zero => exact absurd HA.out (by simp [cubbyref21_Parse.j1])
     | succ kj4 =>
      have H := HA.out
      clear HA
      simp only [cubbyref21_Parse.j1] at H
      have HC11 := zA H
      clear H
      go_upto_if 25 with (fail)
      go_cut [] (fun wc => ∃ (kq : Nat) (x249002_10 : ByteArray), Aside0 (cubbyref21_Parse.j2 kq a0 x4_1 t247 x4_1 (⟨#[]⟩ : ByteArray) x249002_10 = some (r1, r2, r3, r4)) ∧ Aside0 (kq ≤ kj4) ∧ Aside0 (wc.heap[gb246]? = some (.cells #[.int .i64 x247000_1, .string x247001_1, .string x247002_1] 39 (0, 0))) ∧ Aside0 (wc.heap[gb248]? = some (.cells #[.int .i64 x4_1, .string (⟨#[]⟩ : ByteArray), .string x249002_10] 39 (0, 0))) ∧ Aside0 (Below w.heap.size w wc))
      case first =>
       have H := HC11.out
       clear HC11
       by_cases c12 : x25_4 = true
       ·subst c12
        have H1 : (if 0 ≤ (wrap64 ((t247.size : Int) + 1)) then (if (wrap64 ((t247.size : Int) + 1)) ≤ (a0.size : Int) then (cubbyref21_Parse.j2 kj4 a0 x4_1 t247 x4_1 (⟨#[]⟩ : ByteArray) (a0.extract ((wrap64 ((t247.size : Int) + 1)) : Int).toNat a0.size)) else (none)) else (none)) = some (r1, r2, r3, r4) := by rw [zC rfl] at H; exact H
        clear H
        have H := H1
        clear H1
        obtain ⟨ji13, hji13⟩ : ∃ j_ : Int, (wrap64 ((t247.size : Int) + 1)) = j_ := ⟨_, rfl⟩
        replace H : (if 0 ≤ (ji13) then (if (ji13) ≤ (a0.size : Int) then (cubbyref21_Parse.j2 kj4 a0 x4_1 t247 x4_1 (⟨#[]⟩ : ByteArray) (a0.extract ((ji13) : Int).toNat a0.size)) else (none)) else (none)) = some (r1, r2, r3, r4) := by first | (rw [hji13] at H; exact H) | (simp only [hji13] at H ⊢; exact H)
        have hji13w : (IntKind.i64.wrap ((t247.size : Int) + 1)) = ji13 := (i64_w _).trans hji13
        by_cases c14 : 0 ≤ (ji13)
        ·rw [zC c14] at H
         have c14b0 := eq_true c14
         have c14b1 := zF c14
         clear c14
         by_cases c15 : (ji13) ≤ (a0.size : Int)
         ·rw [zC c15] at H
          have c15b0 := eq_true c15
          have c15b1 := zF c15
          clear c15
          have H' := zA H
          clear H
          have hnb16 := NB248_246.out
          have hnc16 := NB246_248.out
          have z17_0 := bk3 BK248.out
          go_wp2
          go_meet
          case rel => exact ⟨_, (a0.extract ((ji13) : Int).toNat a0.size), H', ⟨by have := HK1.out; have := HJ4.out; first | omega | exact Nat.le_refl _⟩, ⟨by (with_reducible repeat (first | refine blk_drewN ?_ _ | refine blk_drew ?_ | refine blk_alloc ?_ _)); refine blk_far ?_ NB246_248.out _; (with_reducible repeat (first | refine blk_drewN ?_ _ | refine blk_drew ?_ | refine blk_alloc ?_ _)); exact BK246.out⟩, ⟨by (with_reducible repeat (first | refine blk_drewN ?_ _ | refine blk_drew ?_ | refine blk_alloc ?_ _)); refine blk_put (cs := #[.int .i64 x4_1, .string (⟨#[]⟩ : ByteArray), .string (⟨#[]⟩ : ByteArray)]) ?_ 2 _ rfl; (with_reducible repeat (first | refine blk_drewN ?_ _ | refine blk_drew ?_ | refine blk_alloc ?_ _)); exact BK248.out⟩, ⟨qB⟩⟩
         ·rw [zD c15] at H
          exact absurd H (by simp)
        ·rw [zD c14] at H
         exact absurd H (by simp)
       ·replace c12 := Bool.eq_false_iff.mpr c12
        subst c12
        have H1 : (cubbyref21_Parse.j2 kj4 a0 x4_1 t247 x4_1 (⟨#[]⟩ : ByteArray) (⟨#[]⟩ : ByteArray)) = some (r1, r2, r3, r4) := by rw [zD (show ¬ (false = true) by decide)] at H; exact H
        clear H
        have H := H1
        clear H1
        have H' := zA H
        clear H
        go_wp2
        go_meet
        case rel => exact ⟨_, ((⟨#[]⟩ : ByteArray)), H', ⟨by have := HK1.out; have := HJ4.out; first | omega | exact Nat.le_refl _⟩, ⟨qK BK246.out⟩, ⟨qK BK248.out⟩, ⟨qB⟩⟩
      case rest =>
       clear HC11
       try clear c1; try clear c2; try clear p2; try clear c3b0; try clear p6; try clear c8; try clear c10; try clear c10b0 c10b1; try clear c11; try clear c12; try clear c14; try clear c14b0 c14b1; try clear c15; try clear c15b0 c15b1; try clear c16; try clear z17_0; try clear z9_0
       obtain ⟨kq, x249002_10, HA, HJ10, BK246, BK248, HB⟩ := hcut
       cases kq with
       | zero => exact absurd HA.out (by simp [cubbyref21_Parse.j2])
       | succ kj10 =>
        have H := HA.out
        clear HA
        simp only [cubbyref21_Parse.j2] at H
        have HC18 := zA H
        clear H
        go_upto_region 8 with (fail)
        go_cut [44] (fun v44 wc => ∃ (kq : Nat) (x44_17 : Bool), v44 = .bool x44_17 ∧ Aside0 (cubbyref21_Parse.j3 kq a0 x4_1 t247 x44_17 x4_1 (⟨#[]⟩ : ByteArray) x249002_10 = some (r1, r2, r3, r4)) ∧ Aside0 (kq ≤ kj10) ∧ Aside0 (wc.heap[gb246]? = some (.cells #[.int .i64 x247000_1, .string x247001_1, .string x247002_1] 39 (0, 0))) ∧ Aside0 (wc.heap[gb248]? = some (.cells #[.int .i64 x4_1, .string (⟨#[]⟩ : ByteArray), .string x249002_10] 39 (0, 0))) ∧ Aside0 (Below w.heap.size w wc))
        case first =>
         have H := HC18.out
         clear HC18
         by_cases c19 : x4_1 > 1
         ·rw [zC c19] at H
          have c19b0 : decide (1 < x4_1) = true := zF c19
          clear c19
          (first | rw [c19b0] | (simp only [i64_w, i32_w]; rw [c19b0]) | skip)
          by_cases c20 : x4_1 ≤ 6
          ·rw [zC c20] at H
           have c20b0 := zF c20
           clear c20
           have H' := zA H
           clear H
           go_wp2
           go_meet
           case rel => exact ⟨_, (decide ((a0.size : Int) > (t247.size : Int))), qT, H', ⟨by have := HK1.out; have := HJ4.out; have := HJ10.out; first | omega | exact Nat.le_refl _⟩, ⟨qK BK246.out⟩, ⟨qK BK248.out⟩, ⟨qB⟩⟩
          ·rw [zD c20] at H
           have c20b0 := zG c20
           clear c20
           have H' := zA H
           clear H
           go_wp2
           go_meet
           case rel => exact ⟨_, (false), qT, H', ⟨by have := HK1.out; have := HJ4.out; have := HJ10.out; first | omega | exact Nat.le_refl _⟩, ⟨qK BK246.out⟩, ⟨qK BK248.out⟩, ⟨qB⟩⟩
         ·rw [zD c19] at H
          have c19b0 : decide (1 < x4_1) = false := zG c19
          clear c19
          (first | rw [c19b0] | (simp only [i64_w, i32_w]; rw [c19b0]) | skip)
          have H' := zA H
          clear H
          go_wp2
          go_meet
          case rel => exact ⟨_, (false), qT, H', ⟨by have := HK1.out; have := HJ4.out; have := HJ10.out; first | omega | exact Nat.le_refl _⟩, ⟨qK BK246.out⟩, ⟨qK BK248.out⟩, ⟨qB⟩⟩
        case rest =>
         clear HC18
         try clear c1; try clear c2; try clear p2; try clear c3b0; try clear p6; try clear c8; try clear c10; try clear c10b0 c10b1; try clear c11; try clear c12; try clear c14; try clear c14b0 c14b1; try clear c15; try clear c15b0 c15b1; try clear c16; try clear c19; try clear c19b0; try clear c20; try clear c20b0; try clear z17_0; try clear z9_0
         obtain ⟨kq, x44_17, rfl, HA, HJ17, BK246, BK248, HB⟩ := hcut
         cases kq with
         | zero => exact absurd HA.out (by simp [cubbyref21_Parse.j3])
         | succ kj17 =>
          have H := HA.out
          clear HA
          simp only [cubbyref21_Parse.j3] at H
          by_cases c21 : x44_17 = true
          ·subst c21
           have H1 : (if 0 ≤ (wrap64 ((t247.size : Int) + 1)) then (if (wrap64 ((t247.size : Int) + 1)) ≤ (a0.size : Int) then ((cubbyref21_Print.f kj17 x4_1 (a0.extract ((wrap64 ((t247.size : Int) + 1)) : Int).toNat a0.size) x249002_10).bind fun bt249 => (if bt249.2 = 0 then (if bt249.1.toList = a0.toList then (some (x4_1, a0.extract ((wrap64 ((t247.size : Int) + 1)) : Int).toNat a0.size, x249002_10, 0)) else (cubbyref21_Parse.l0 kj17 a0 (wrap64 (x4_1 + 1)))) else (cubbyref21_Parse.l0 kj17 a0 (wrap64 (x4_1 + 1))))) else (none)) else (none)) = some (r1, r2, r3, r4) := by rw [zC rfl] at H; exact H
           clear H
           have H := H1
           clear H1
           obtain ⟨ji22, hji22⟩ : ∃ j_ : Int, (wrap64 ((t247.size : Int) + 1)) = j_ := ⟨_, rfl⟩
           replace H : (if 0 ≤ (ji22) then (if (ji22) ≤ (a0.size : Int) then ((cubbyref21_Print.f kj17 x4_1 (a0.extract ((ji22) : Int).toNat a0.size) x249002_10).bind fun bt249 => (if bt249.2 = 0 then (if bt249.1.toList = a0.toList then (some (x4_1, a0.extract ((ji22) : Int).toNat a0.size, x249002_10, 0)) else (cubbyref21_Parse.l0 kj17 a0 (wrap64 (x4_1 + 1)))) else (cubbyref21_Parse.l0 kj17 a0 (wrap64 (x4_1 + 1))))) else (none)) else (none)) = some (r1, r2, r3, r4) := by first | (rw [hji22] at H; exact H) | (simp only [hji22] at H ⊢; exact H)
           have hji22w : (IntKind.i64.wrap ((t247.size : Int) + 1)) = ji22 := (i64_w _).trans hji22
           by_cases c23 : 0 ≤ (ji22)
           ·rw [zC c23] at H
            have c23b0 := eq_true c23
            have c23b1 := zF c23
            clear c23
            by_cases c24 : (ji22) ≤ (a0.size : Int)
            ·rw [zC c24] at H
             have c24b0 := eq_true c24
             have c24b1 := zF c24
             clear c24
             replace H := Option.bind_eq_some_iff.mp H
             obtain ⟨⟨t249, t250⟩, A250, H⟩ := H
             replace H : (if t250 = 0 then (if t249.toList = a0.toList then (some (x4_1, a0.extract ((ji22) : Int).toNat a0.size, x249002_10, 0)) else (cubbyref21_Parse.l0 kj17 a0 (wrap64 (x4_1 + 1)))) else (cubbyref21_Parse.l0 kj17 a0 (wrap64 (x4_1 + 1)))) = some (r1, r2, r3, r4) := H
             have A25 := zA A250
             clear A250
             by_cases c26 : t250 = 0
             ·rw [zC c26] at H
              obtain ⟨c26b0, c26b1⟩ := qe c26; clear c26
              by_cases c27 : t249.toList = a0.toList
              ·rw [zC c27] at H
               obtain ⟨c27b0, c27b1⟩ := qe c27; clear c27
               simp only [Option.some.injEq, Prod.mk.injEq] at H
               obtain ⟨rfl, rfl, rfl, rfl⟩ := H
               have hnb28 := NB248_246.out
               have hnc28 := NB246_248.out
               have z29_0 := bk3 BK248.out
               go_wp2_with (first | ((with_reducible refine gate_callee (f := 24) rfl ?_); refine goesL_ (some 53) rfl rfl Tryd.func24 (by kernel_rfl) rfl #[.agg #[.int .i64 x4_1, .string (a0.extract ((ji22) : Int).toNat a0.size), .string x249002_10]] rfl (by (try simp only [List.map_toArray, List.map_cons, List.map_nil]); first | done | (simp only [hji22]; rfl) | rfl | (simp only [List.length_drop, List.length_take]; rfl)) ?_; (with_reducible refine (cubbyref21_Print.calls kj17 x4_1 (a0.extract ((ji22) : Int).toNat a0.size) x249002_10 t249 t250 _ A25.out).mono ?_); rintro e w30 ⟨rfl, hb⟩; refine ⟨_, rfl, ?_⟩; replace BK246 := zA (blk_below (g := gb246) (o := .cells #[.int .i64 x247000_1, .string x247001_1, .string x247002_1] 39 (0, 0)) (by (with_reducible repeat (first | refine blk_drewN ?_ _ | refine blk_drew ?_ | refine blk_alloc ?_ _)); refine blk_far ?_ NB246_248.out _; (with_reducible repeat (first | refine blk_drewN ?_ _ | refine blk_drew ?_ | refine blk_alloc ?_ _)); exact BK246.out) hb); replace BK248 := zA (blk_below (g := gb248) (o := .cells #[.int .i64 x4_1, .string (a0.extract ((ji22) : Int).toNat a0.size), .string x249002_10] 39 (0, 0)) (by (with_reducible repeat (first | refine blk_drewN ?_ _ | refine blk_drew ?_ | refine blk_alloc ?_ _)); refine blk_put (cs := #[.int .i64 x4_1, .string (⟨#[]⟩ : ByteArray), .string x249002_10]) ?_ 1 _ rfl; (with_reducible repeat (first | refine blk_drewN ?_ _ | refine blk_drew ?_ | refine blk_alloc ?_ _)); exact BK248.out) hb); replace HB := qH hb; have hcz31_0 : w30.cell? ⟨gb248, 0, none⟩ = some (.int .i64 x4_1) := (blk_cell BK248.out 0).trans rfl; have hcz31_1 : w30.cell? ⟨gb248, 1, none⟩ = some (.string (a0.extract ((ji22) : Int).toNat a0.size)) := (blk_cell BK248.out 1).trans rfl; have hcz31_2 : w30.cell? ⟨gb248, 2, none⟩ = some (.string x249002_10) := (blk_cell BK248.out 2).trans rfl; have hfz31_0 := blk_frozen BK248.out 0; have hfz31_1 := blk_frozen BK248.out 1; have hfz31_2 := blk_frozen BK248.out 2; have hcz32_0 : w30.cell? ⟨gb246, 0, none⟩ = some (.int .i64 x247000_1) := (blk_cell BK246.out 0).trans rfl; have hcz32_1 : w30.cell? ⟨gb246, 1, none⟩ = some (.string x247001_1) := (blk_cell BK246.out 1).trans rfl; have hcz32_2 : w30.cell? ⟨gb246, 2, none⟩ = some (.string x247002_1) := (blk_cell BK246.out 2).trans rfl; have hfz32_0 := blk_frozen BK246.out 0; have hfz32_1 := blk_frozen BK246.out 1; have hfz32_2 := blk_frozen BK246.out 2))
               refine bodyPost_ret (results_ct rfl _ _ gb246 39 #[.int .i64 x4_1, .string (a0.extract ((ji22) : Int).toNat a0.size), .string x249002_10] (0, 0) _ rfl (by (with_reducible repeat (first | refine blk_drewN ?_ _ | refine blk_drew ?_ | refine blk_alloc ?_ _)); refine blk_put (cs := #[.int .i64 x4_1, .string (a0.extract ((ji22) : Int).toNat a0.size), .string x247002_1]) ?_ 2 _ rfl; (with_reducible repeat (first | refine blk_drewN ?_ _ | refine blk_drew ?_ | refine blk_alloc ?_ _)); refine blk_put (cs := #[.int .i64 x4_1, .string x247001_1, .string x247002_1]) ?_ 1 _ rfl; (with_reducible repeat (first | refine blk_drewN ?_ _ | refine blk_drew ?_ | refine blk_alloc ?_ _)); refine blk_put (cs := #[.int .i64 x247000_1, .string x247001_1, .string x247002_1]) ?_ 0 _ rfl; (with_reducible repeat (first | refine blk_drewN ?_ _ | refine blk_drew ?_ | refine blk_alloc ?_ _)); exact BK246.out) Tryd.underlying39 rfl (by kernel_rfl)) rfl ?_
               exact ⟨by first | rfl | (simp [errW_none, errW_some] <;> rfl) | (simp only [← hji22]; first | rfl | (simp [errW_none, errW_some] <;> rfl)) | (simp [*, errW_none, errW_some] <;> rfl), qB⟩
              ·rw [zD c27] at H
               obtain ⟨c27b0, c27b1⟩ := qn c27
               have H' := zA H
               clear H
               have hnb33 := NB248_246.out
               have hnc33 := NB246_248.out
               have z34_0 := bk3 BK248.out
               go_wp2_with (first | ((with_reducible refine gate_callee (f := 24) rfl ?_); refine goesL_ (some 53) rfl rfl Tryd.func24 (by kernel_rfl) rfl #[.agg #[.int .i64 x4_1, .string (a0.extract ((ji22) : Int).toNat a0.size), .string x249002_10]] rfl (by (try simp only [List.map_toArray, List.map_cons, List.map_nil]); first | done | (simp only [hji22]; rfl) | rfl | (simp only [List.length_drop, List.length_take]; rfl)) ?_; (with_reducible refine (cubbyref21_Print.calls kj17 x4_1 (a0.extract ((ji22) : Int).toNat a0.size) x249002_10 t249 t250 _ A25.out).mono ?_); rintro e w35 ⟨rfl, hb⟩; refine ⟨_, rfl, ?_⟩; replace BK246 := zA (blk_below (g := gb246) (o := .cells #[.int .i64 x247000_1, .string x247001_1, .string x247002_1] 39 (0, 0)) (by (with_reducible repeat (first | refine blk_drewN ?_ _ | refine blk_drew ?_ | refine blk_alloc ?_ _)); refine blk_far ?_ NB246_248.out _; (with_reducible repeat (first | refine blk_drewN ?_ _ | refine blk_drew ?_ | refine blk_alloc ?_ _)); exact BK246.out) hb); replace BK248 := zA (blk_below (g := gb248) (o := .cells #[.int .i64 x4_1, .string (a0.extract ((ji22) : Int).toNat a0.size), .string x249002_10] 39 (0, 0)) (by (with_reducible repeat (first | refine blk_drewN ?_ _ | refine blk_drew ?_ | refine blk_alloc ?_ _)); refine blk_put (cs := #[.int .i64 x4_1, .string (⟨#[]⟩ : ByteArray), .string x249002_10]) ?_ 1 _ rfl; (with_reducible repeat (first | refine blk_drewN ?_ _ | refine blk_drew ?_ | refine blk_alloc ?_ _)); exact BK248.out) hb); replace HB := qH hb))
               go_roundg kj17
               case measure => have := HK1.out; have := HJ4.out; have := HJ10.out; have := HJ17.out; omega
               case rel => exact ⟨(wrap64 (x4_1 + 1)), (x247000_1), (x247001_1), (x247002_1), qT, H', ⟨by have := HK1.out; have := HJ4.out; have := HJ10.out; have := HJ17.out; omega⟩, ⟨qK BK246.out⟩, ⟨qB⟩⟩
             ·rw [zD c26] at H
              obtain ⟨c26b0, c26b1⟩ := qn c26
              have H' := zA H
              clear H
              have hnb36 := NB248_246.out
              have hnc36 := NB246_248.out
              have z37_0 := bk3 BK248.out
              go_wp2_with (first | ((with_reducible refine gate_callee (f := 24) rfl ?_); refine goesL_ (some 53) rfl rfl Tryd.func24 (by kernel_rfl) rfl #[.agg #[.int .i64 x4_1, .string (a0.extract ((ji22) : Int).toNat a0.size), .string x249002_10]] rfl (by (try simp only [List.map_toArray, List.map_cons, List.map_nil]); first | done | (simp only [hji22]; rfl) | rfl | (simp only [List.length_drop, List.length_take]; rfl)) ?_; (with_reducible refine (cubbyref21_Print.calls kj17 x4_1 (a0.extract ((ji22) : Int).toNat a0.size) x249002_10 t249 t250 _ A25.out).mono ?_); rintro e w38 ⟨rfl, hb⟩; refine ⟨_, rfl, ?_⟩; replace BK246 := zA (blk_below (g := gb246) (o := .cells #[.int .i64 x247000_1, .string x247001_1, .string x247002_1] 39 (0, 0)) (by (with_reducible repeat (first | refine blk_drewN ?_ _ | refine blk_drew ?_ | refine blk_alloc ?_ _)); refine blk_far ?_ NB246_248.out _; (with_reducible repeat (first | refine blk_drewN ?_ _ | refine blk_drew ?_ | refine blk_alloc ?_ _)); exact BK246.out) hb); replace BK248 := zA (blk_below (g := gb248) (o := .cells #[.int .i64 x4_1, .string (a0.extract ((ji22) : Int).toNat a0.size), .string x249002_10] 39 (0, 0)) (by (with_reducible repeat (first | refine blk_drewN ?_ _ | refine blk_drew ?_ | refine blk_alloc ?_ _)); refine blk_put (cs := #[.int .i64 x4_1, .string (⟨#[]⟩ : ByteArray), .string x249002_10]) ?_ 1 _ rfl; (with_reducible repeat (first | refine blk_drewN ?_ _ | refine blk_drew ?_ | refine blk_alloc ?_ _)); exact BK248.out) hb); replace HB := qH hb))
              go_roundg kj17
              case measure => have := HK1.out; have := HJ4.out; have := HJ10.out; have := HJ17.out; omega
              case rel => exact ⟨(wrap64 (x4_1 + 1)), (x247000_1), (x247001_1), (x247002_1), qT, H', ⟨by have := HK1.out; have := HJ4.out; have := HJ10.out; have := HJ17.out; omega⟩, ⟨qK BK246.out⟩, ⟨qB⟩⟩
            ·rw [zD c24] at H
             exact absurd H (by simp)
           ·rw [zD c23] at H
            exact absurd H (by simp)
          ·replace c21 := Bool.eq_false_iff.mpr c21
           subst c21
           have H1 : ((cubbyref21_Print.f kj17 x4_1 (⟨#[]⟩ : ByteArray) x249002_10).bind fun bt251 => (if bt251.2 = 0 then (if bt251.1.toList = a0.toList then (some (x4_1, (⟨#[]⟩ : ByteArray), x249002_10, 0)) else (cubbyref21_Parse.l0 kj17 a0 (wrap64 (x4_1 + 1)))) else (cubbyref21_Parse.l0 kj17 a0 (wrap64 (x4_1 + 1))))) = some (r1, r2, r3, r4) := by rw [zD (show ¬ (false = true) by decide)] at H; exact H
           clear H
           have H := H1
           clear H1
           replace H := Option.bind_eq_some_iff.mp H
           obtain ⟨⟨t251, t252⟩, A390, H⟩ := H
           replace H : (if t252 = 0 then (if t251.toList = a0.toList then (some (x4_1, (⟨#[]⟩ : ByteArray), x249002_10, 0)) else (cubbyref21_Parse.l0 kj17 a0 (wrap64 (x4_1 + 1)))) else (cubbyref21_Parse.l0 kj17 a0 (wrap64 (x4_1 + 1)))) = some (r1, r2, r3, r4) := H
           have A39 := zA A390
           clear A390
           by_cases c40 : t252 = 0
           ·rw [zC c40] at H
            obtain ⟨c40b0, c40b1⟩ := qe c40; clear c40
            by_cases c41 : t251.toList = a0.toList
            ·rw [zC c41] at H
             obtain ⟨c41b0, c41b1⟩ := qe c41; clear c41
             simp only [Option.some.injEq, Prod.mk.injEq] at H
             obtain ⟨rfl, rfl, rfl, rfl⟩ := H
             have hnb42 := NB248_246.out
             have hnc42 := NB246_248.out
             have z43_0 := bk3 BK248.out
             go_wp2_with (first | ((with_reducible refine gate_callee (f := 24) rfl ?_); refine goesL_ (some 53) rfl rfl Tryd.func24 (by kernel_rfl) rfl #[.agg #[.int .i64 x4_1, .string (⟨#[]⟩ : ByteArray), .string x249002_10]] rfl qL ?_; (with_reducible refine (cubbyref21_Print.calls kj17 x4_1 (⟨#[]⟩ : ByteArray) x249002_10 t251 t252 _ A39.out).mono ?_); rintro e w44 ⟨rfl, hb⟩; refine ⟨_, rfl, ?_⟩; replace BK246 := qW BK246 hb; replace BK248 := qW BK248 hb; replace HB := qH hb; (try clear hb); have z45_0 := bk3 BK248.out; have z46_0 := bk3 BK246.out))
             refine bodyPost_ret (results_ct rfl _ _ gb246 39 #[.int .i64 x4_1, .string (⟨#[]⟩ : ByteArray), .string x249002_10] (0, 0) _ rfl (by (with_reducible repeat (first | refine blk_drewN ?_ _ | refine blk_drew ?_ | refine blk_alloc ?_ _)); refine blk_put (cs := #[.int .i64 x4_1, .string (⟨#[]⟩ : ByteArray), .string x247002_1]) ?_ 2 _ rfl; (with_reducible repeat (first | refine blk_drewN ?_ _ | refine blk_drew ?_ | refine blk_alloc ?_ _)); refine blk_put (cs := #[.int .i64 x4_1, .string x247001_1, .string x247002_1]) ?_ 1 _ rfl; (with_reducible repeat (first | refine blk_drewN ?_ _ | refine blk_drew ?_ | refine blk_alloc ?_ _)); refine blk_put (cs := #[.int .i64 x247000_1, .string x247001_1, .string x247002_1]) ?_ 0 _ rfl; (with_reducible repeat (first | refine blk_drewN ?_ _ | refine blk_drew ?_ | refine blk_alloc ?_ _)); exact BK246.out) Tryd.underlying39 rfl (by kernel_rfl)) rfl ?_
             exact ⟨qE, qB⟩
            ·rw [zD c41] at H
             obtain ⟨c41b0, c41b1⟩ := qn c41
             have H' := zA H
             clear H
             have hnb47 := NB248_246.out
             have hnc47 := NB246_248.out
             have z48_0 := bk3 BK248.out
             go_wp2_with (first | ((with_reducible refine gate_callee (f := 24) rfl ?_); refine goesL_ (some 53) rfl rfl Tryd.func24 (by kernel_rfl) rfl #[.agg #[.int .i64 x4_1, .string (⟨#[]⟩ : ByteArray), .string x249002_10]] rfl qL ?_; (with_reducible refine (cubbyref21_Print.calls kj17 x4_1 (⟨#[]⟩ : ByteArray) x249002_10 t251 t252 _ A39.out).mono ?_); rintro e w49 ⟨rfl, hb⟩; refine ⟨_, rfl, ?_⟩; replace BK246 := qW BK246 hb; replace BK248 := qW BK248 hb; replace HB := qH hb; (try clear hb)))
             go_roundg kj17
             case measure => have := HK1.out; have := HJ4.out; have := HJ10.out; have := HJ17.out; omega
             case rel => exact ⟨(wrap64 (x4_1 + 1)), (x247000_1), (x247001_1), (x247002_1), qT, H', ⟨by have := HK1.out; have := HJ4.out; have := HJ10.out; have := HJ17.out; omega⟩, ⟨qK BK246.out⟩, ⟨qB⟩⟩
           ·rw [zD c40] at H
            obtain ⟨c40b0, c40b1⟩ := qn c40
            have H' := zA H
            clear H
            have hnb50 := NB248_246.out
            have hnc50 := NB246_248.out
            have z51_0 := bk3 BK248.out
            go_wp2_with (first | ((with_reducible refine gate_callee (f := 24) rfl ?_); refine goesL_ (some 53) rfl rfl Tryd.func24 (by kernel_rfl) rfl #[.agg #[.int .i64 x4_1, .string (⟨#[]⟩ : ByteArray), .string x249002_10]] rfl qL ?_; (with_reducible refine (cubbyref21_Print.calls kj17 x4_1 (⟨#[]⟩ : ByteArray) x249002_10 t251 t252 _ A39.out).mono ?_); rintro e w52 ⟨rfl, hb⟩; refine ⟨_, rfl, ?_⟩; replace BK246 := qW BK246 hb; replace BK248 := qW BK248 hb; replace HB := qH hb; (try clear hb)))
            go_roundg kj17
            case measure => have := HK1.out; have := HJ4.out; have := HJ10.out; have := HJ17.out; omega
            case rel => exact ⟨(wrap64 (x4_1 + 1)), (x247000_1), (x247001_1), (x247002_1), qT, H', ⟨by have := HK1.out; have := HJ4.out; have := HJ10.out; have := HJ17.out; omega⟩, ⟨qK BK246.out⟩, ⟨qB⟩⟩
   ·rw [zD c3] at H
    have c3b0 := zG c3
    clear c3
    simp only [Option.some.injEq, Prod.mk.injEq] at H
    obtain ⟨rfl, rfl, rfl, rfl⟩ := H
    have z53_0 := bk3 BK246.out
    go_wp2
    refine bodyPost_ret (results_ct rfl _ _ gb246 39 #[.int .i64 0, .string (⟨#[]⟩ : ByteArray), .string (⟨#[]⟩ : ByteArray)] (0, 0) _ rfl (by (with_reducible repeat (first | refine blk_drewN ?_ _ | refine blk_drew ?_ | refine blk_alloc ?_ _)); refine blk_put (cs := #[.int .i64 0, .string (⟨#[]⟩ : ByteArray), .string x247002_1]) ?_ 2 _ rfl; (with_reducible repeat (first | refine blk_drewN ?_ _ | refine blk_drew ?_ | refine blk_alloc ?_ _)); refine blk_put (cs := #[.int .i64 0, .string x247001_1, .string x247002_1]) ?_ 1 _ rfl; (with_reducible repeat (first | refine blk_drewN ?_ _ | refine blk_drew ?_ | refine blk_alloc ?_ _)); refine blk_put (cs := #[.int .i64 x247000_1, .string x247001_1, .string x247002_1]) ?_ 0 _ rfl; (with_reducible repeat (first | refine blk_drewN ?_ _ | refine blk_drew ?_ | refine blk_alloc ?_ _)); exact BK246.out) Tryd.underlying39 rfl (by kernel_rfl)) rfl ?_
    exact ⟨qE, qB⟩

def cubbylaw21_AskBack.j0 : Nat → ByteArray → Int → Int → Bool → Int → ByteArray → ByteArray → Int → Int → Int → Int → ByteArray → Option (Bool)
 | 0, _, _, _, _, _, _, _, _, _, _, _, _ => none
 | k + 1, x0, x4, x6, x45, x261000, x261001, x261002, x268000, x268001, x268002, x268003, x268004 => if x45 = true then (some false) else ((ask_Print.f k x261000 x261001 x261002).bind fun bt280 => ((ask_Tell.f k x268000 x268001 x268002 x268003 x268004).bind fun bt282 => (if x4 = 0 then (if bt280.2 = 0 then (if bt280.1.toList = x0.toList then (if x6 = 0 then (if bt282.2 = 0 then (some (bt282.1.toList == x0.toList)) else (some false)) else (some true)) else (some false)) else (some false)) else (if x6 = 0 then (if bt282.2 = 0 then (some (bt282.1.toList == x0.toList)) else (some false)) else (some true)))))
def cubbylaw21_AskBack.f (k : Nat) (a0 : ByteArray) : Option (Bool) := if (a0.size : Int) > 4096 then (some true) else ((ask_Parse.f k a0).bind fun bt256 => ((ask_Hear.f a0).bind fun bt261 => ((cubbyref21_Parse.f k a0).bind fun bt268 => ((cubbyref21_Hear.f k a0).bind fun bt273 => (if bt256.2.2.2 = bt268.2.2.2 then (cubbylaw21_AskBack.j0 k a0 bt256.2.2.2 bt261.2.2.2.2.2 (bt261.2.2.2.2.2 != bt273.2.2.2.2.2) bt256.1 bt256.2.1 bt256.2.2.1 bt261.1 bt261.2.1 bt261.2.2.1 bt261.2.2.2.1 bt261.2.2.2.2.1) else (cubbylaw21_AskBack.j0 k a0 bt256.2.2.2 bt261.2.2.2.2.2 true bt256.1 bt256.2.1 bt256.2.2.1 bt261.1 bt261.2.1 bt261.2.2.1 bt261.2.2.2.1 bt261.2.2.2.2.1))))))
set_option maxHeartbeats 8000000 in
set_option maxRecDepth 100000 in
theorem cubbylaw21_AskBack.calls (k : Nat) (a0 : ByteArray) (r : Bool) (w : World) (hL : LaidW w) (hr : r = true) (h : cubbylaw21_AskBack.f k a0 = some r) :
 Calls Tryd.prog 5 #[.string a0] w fun e w' => e = .returned (.bool r) ∧ Below w.heap.size w w' := by
 have hu36 := Tryd.underlying36
 have hu23 := Tryd.underlying23
 have hu39 := Tryd.underlying39
 have hu27 := Tryd.underlying27
 have HB := zA (Below.refl w.heap.size w)
 have HLd := zA hL
 clear hL
 have HRt := zA hr
 clear hr
 have H := h; clear h; unfold cubbylaw21_AskBack.f at H
 by_cases c2 : (a0.size : Int) > 4096
 ·rw [zC c2] at H
  have c2b0 : decide (4096 < (a0.size : Int)) = true := zF c2
  have c2b1 : decide (4096 < a0.size) = true := zF (by omega)
  clear c2
  obtain rfl := zI H
  go_enter Tryd.func5, Tryd.ntmps5
  go_wp2
  go_ret
  exact ⟨qE, qB⟩
 ·rw [zD c2] at H
  have c2b0 : decide (4096 < (a0.size : Int)) = false := zG c2
  have c2b1 : decide (4096 < a0.size) = false := zG (by omega)
  clear c2
  replace H := Option.bind_eq_some_iff.mp H
  obtain ⟨⟨t256, t257, t258, t259⟩, A30, H⟩ := H
  replace H : ((ask_Hear.f a0).bind fun bt261 => ((cubbyref21_Parse.f k a0).bind fun bt268 => ((cubbyref21_Hear.f k a0).bind fun bt273 => (if t259 = bt268.2.2.2 then (cubbylaw21_AskBack.j0 k a0 t259 bt261.2.2.2.2.2 (bt261.2.2.2.2.2 != bt273.2.2.2.2.2) t256 t257 t258 bt261.1 bt261.2.1 bt261.2.2.1 bt261.2.2.2.1 bt261.2.2.2.2.1) else (cubbylaw21_AskBack.j0 k a0 t259 bt261.2.2.2.2.2 true t256 t257 t258 bt261.1 bt261.2.1 bt261.2.2.1 bt261.2.2.2.1 bt261.2.2.2.2.1))))) = some r := H
  have A3 := zA A30
  clear A30
  replace H := Option.bind_eq_some_iff.mp H
  obtain ⟨⟨t261, t262, t263, t264, t265, t266⟩, A40, H⟩ := H
  replace H : ((cubbyref21_Parse.f k a0).bind fun bt268 => ((cubbyref21_Hear.f k a0).bind fun bt273 => (if t259 = bt268.2.2.2 then (cubbylaw21_AskBack.j0 k a0 t259 t266 (t266 != bt273.2.2.2.2.2) t256 t257 t258 t261 t262 t263 t264 t265) else (cubbylaw21_AskBack.j0 k a0 t259 t266 true t256 t257 t258 t261 t262 t263 t264 t265)))) = some r := H
  have A4 := zA A40
  clear A40
  replace H := Option.bind_eq_some_iff.mp H
  obtain ⟨⟨t268, t269, t270, t271⟩, A50, H⟩ := H
  replace H : ((cubbyref21_Hear.f k a0).bind fun bt273 => (if t259 = t271 then (cubbylaw21_AskBack.j0 k a0 t259 t266 (t266 != bt273.2.2.2.2.2) t256 t257 t258 t261 t262 t263 t264 t265) else (cubbylaw21_AskBack.j0 k a0 t259 t266 true t256 t257 t258 t261 t262 t263 t264 t265))) = some r := H
  have A5 := zA A50
  clear A50
  replace H := Option.bind_eq_some_iff.mp H
  obtain ⟨⟨t273, t274, t275, t276, t277, t278⟩, A60, H⟩ := H
  replace H : (if t259 = t271 then (cubbylaw21_AskBack.j0 k a0 t259 t266 (t266 != t278) t256 t257 t258 t261 t262 t263 t264 t265) else (cubbylaw21_AskBack.j0 k a0 t259 t266 true t256 t257 t258 t261 t262 t263 t264 t265)) = some r := H
  have A6 := zA A60
  clear A60
  have HC7 := zA H
  clear H
  go_enter Tryd.func5, Tryd.ntmps5
  go_upto_region 7 with (first | ((with_reducible refine gate_callee (f := 10) rfl ?_); refine goesL_ (some 20) rfl rfl Tryd.func10 (by kernel_rfl) rfl #[.string a0] rfl qL ?_; (with_reducible refine (ask_Parse.calls k a0 t256 t257 t258 t259 _ A3.out).mono ?_); rintro e w8 ⟨rfl, hb⟩; refine ⟨_, rfl, ?_⟩; replace HB := qH hb; (try clear hb)) | ((with_reducible refine gate_dst (N := 3) rfl ?_); refine box_event (by rfl) (N := 3) (by rfl) (cs := #[.int .i64 0, .string (⟨#[]⟩ : ByteArray), .string (⟨#[]⟩ : ByteArray)]) (t := 36) ?hr ?_; (case hr => go_simp <;> rfl); intro gb260 hg w9 hbox hb; have BK260 := zA (hbox); have GW260 := qG hg; have GE260 := GW260; replace HB := qH hb; clear hb hbox hg; have z10_0 := bk3 BK260.out) | ((with_reducible refine gate_callee (f := 6) rfl ?_); refine goesL_ (some 25) rfl rfl Tryd.func6 (by kernel_rfl) rfl #[.string a0] rfl qL ?_; (with_reducible refine (ask_Hear.calls a0 t261 t262 t263 t264 t265 t266 _ A4.out (hL := ?side99)).mono ?_); (case side99 => exact LaidW.below HLd.out qB); rintro e w11 ⟨rfl, hb⟩; refine ⟨_, rfl, ?_⟩; replace BK260 := zA (blk_below (g := gb260) (o := .cells #[.int .i64 t256, .string t257, .string t258] 36 (0, 0)) (by (with_reducible repeat (first | refine blk_drewN ?_ _ | refine blk_drew ?_ | refine blk_alloc ?_ _)); refine blk_put (cs := #[.int .i64 t256, .string t257, .string (⟨#[]⟩ : ByteArray)]) ?_ 2 _ rfl; (with_reducible repeat (first | refine blk_drewN ?_ _ | refine blk_drew ?_ | refine blk_alloc ?_ _)); refine blk_put (cs := #[.int .i64 t256, .string (⟨#[]⟩ : ByteArray), .string (⟨#[]⟩ : ByteArray)]) ?_ 1 _ rfl; (with_reducible repeat (first | refine blk_drewN ?_ _ | refine blk_drew ?_ | refine blk_alloc ?_ _)); refine blk_put (cs := #[.int .i64 0, .string (⟨#[]⟩ : ByteArray), .string (⟨#[]⟩ : ByteArray)]) ?_ 0 _ rfl; (with_reducible repeat (first | refine blk_drewN ?_ _ | refine blk_drew ?_ | refine blk_alloc ?_ _)); exact BK260.out) hb); replace HB := qH hb) | ((with_reducible refine gate_dst (N := 5) rfl ?_); refine box_event (by rfl) (N := 5) (by rfl) (cs := #[.int .i64 0, .int .i64 0, .int .i64 0, .int .i64 0, .string (⟨#[]⟩ : ByteArray)]) (t := 23) ?hr ?_; (case hr => go_simp <;> rfl); intro gb267 hg w12 hbox hb; have BK267 := zA (hbox); have GW267 := qG hg; have GE267 := GW267; replace HB := qH hb; have NB260_267 := zA ((by rw [hg]; exact Nat.ne_of_lt (blk_lt (g := gb260) (o := .cells #[.int .i64 t256, .string t257, .string t258] 36 (0, 0)) (qK BK260.out)) : gb260 ≠ gb267)); have NB267_260 := zA ((by rw [hg]; exact Nat.ne_of_gt (blk_lt (g := gb260) (o := .cells #[.int .i64 t256, .string t257, .string t258] 36 (0, 0)) (qK BK260.out)) : gb267 ≠ gb260)); replace BK260 := qW BK260 hb; clear hb hbox hg; have hnb13 := NB267_260.out; have hnc13 := NB260_267.out; have z14_0 := bk5 BK267.out) | ((with_reducible refine gate_callee (f := 11) rfl ?_); refine goesL_ (some 30) rfl rfl Tryd.func11 (by kernel_rfl) rfl #[.string a0] rfl qL ?_; (with_reducible refine (cubbyref21_Parse.calls k a0 t268 t269 t270 t271 _ A5.out).mono ?_); rintro e w15 ⟨rfl, hb⟩; refine ⟨_, rfl, ?_⟩; replace BK260 := zA (blk_below (g := gb260) (o := .cells #[.int .i64 t256, .string t257, .string t258] 36 (0, 0)) (by (with_reducible repeat (first | refine blk_drewN ?_ _ | refine blk_drew ?_ | refine blk_alloc ?_ _)); refine blk_far ?_ NB260_267.out _; (with_reducible repeat (first | refine blk_drewN ?_ _ | refine blk_drew ?_ | refine blk_alloc ?_ _)); refine blk_far ?_ NB260_267.out _; (with_reducible repeat (first | refine blk_drewN ?_ _ | refine blk_drew ?_ | refine blk_alloc ?_ _)); refine blk_far ?_ NB260_267.out _; (with_reducible repeat (first | refine blk_drewN ?_ _ | refine blk_drew ?_ | refine blk_alloc ?_ _)); refine blk_far ?_ NB260_267.out _; (with_reducible repeat (first | refine blk_drewN ?_ _ | refine blk_drew ?_ | refine blk_alloc ?_ _)); refine blk_far ?_ NB260_267.out _; (with_reducible repeat (first | refine blk_drewN ?_ _ | refine blk_drew ?_ | refine blk_alloc ?_ _)); exact BK260.out) hb); replace BK267 := zA (blk_below (g := gb267) (o := .cells #[.int .i64 t261, .int .i64 t262, .int .i64 t263, .int .i64 t264, .string t265] 23 (0, 0)) (by (with_reducible repeat (first | refine blk_drewN ?_ _ | refine blk_drew ?_ | refine blk_alloc ?_ _)); refine blk_put (cs := #[.int .i64 t261, .int .i64 t262, .int .i64 t263, .int .i64 t264, .string (⟨#[]⟩ : ByteArray)]) ?_ 4 _ rfl; (with_reducible repeat (first | refine blk_drewN ?_ _ | refine blk_drew ?_ | refine blk_alloc ?_ _)); refine blk_put (cs := #[.int .i64 t261, .int .i64 t262, .int .i64 t263, .int .i64 0, .string (⟨#[]⟩ : ByteArray)]) ?_ 3 _ rfl; (with_reducible repeat (first | refine blk_drewN ?_ _ | refine blk_drew ?_ | refine blk_alloc ?_ _)); refine blk_put (cs := #[.int .i64 t261, .int .i64 t262, .int .i64 0, .int .i64 0, .string (⟨#[]⟩ : ByteArray)]) ?_ 2 _ rfl; (with_reducible repeat (first | refine blk_drewN ?_ _ | refine blk_drew ?_ | refine blk_alloc ?_ _)); refine blk_put (cs := #[.int .i64 t261, .int .i64 0, .int .i64 0, .int .i64 0, .string (⟨#[]⟩ : ByteArray)]) ?_ 1 _ rfl; (with_reducible repeat (first | refine blk_drewN ?_ _ | refine blk_drew ?_ | refine blk_alloc ?_ _)); refine blk_put (cs := #[.int .i64 0, .int .i64 0, .int .i64 0, .int .i64 0, .string (⟨#[]⟩ : ByteArray)]) ?_ 0 _ rfl; (with_reducible repeat (first | refine blk_drewN ?_ _ | refine blk_drew ?_ | refine blk_alloc ?_ _)); exact BK267.out) hb); replace HB := qH hb) | ((with_reducible refine gate_dst (N := 7) rfl ?_); refine box_event (by rfl) (N := 7) (by rfl) (cs := #[.int .i64 0, .string (⟨#[]⟩ : ByteArray), .string (⟨#[]⟩ : ByteArray)]) (t := 39) ?hr ?_; (case hr => go_simp <;> rfl); intro gb272 hg w16 hbox hb; have BK272 := zA (hbox); have GW272 := qG hg; have GE272 := GW272; replace HB := qH hb; have NB260_272 := zA ((by rw [hg]; exact Nat.ne_of_lt (blk_lt (g := gb260) (o := .cells #[.int .i64 t256, .string t257, .string t258] 36 (0, 0)) (qK BK260.out)) : gb260 ≠ gb272)); have NB272_260 := zA ((by rw [hg]; exact Nat.ne_of_gt (blk_lt (g := gb260) (o := .cells #[.int .i64 t256, .string t257, .string t258] 36 (0, 0)) (qK BK260.out)) : gb272 ≠ gb260)); replace BK260 := qW BK260 hb; have NB267_272 := zA ((by rw [hg]; exact Nat.ne_of_lt (blk_lt (g := gb267) (o := .cells #[.int .i64 t261, .int .i64 t262, .int .i64 t263, .int .i64 t264, .string t265] 23 (0, 0)) (qK BK267.out)) : gb267 ≠ gb272)); have NB272_267 := zA ((by rw [hg]; exact Nat.ne_of_gt (blk_lt (g := gb267) (o := .cells #[.int .i64 t261, .int .i64 t262, .int .i64 t263, .int .i64 t264, .string t265] 23 (0, 0)) (qK BK267.out)) : gb272 ≠ gb267)); replace BK267 := qW BK267 hb; clear hb hbox hg; have hnb17 := NB272_260.out; have hnc17 := NB260_272.out; have hnb18 := NB272_267.out; have hnc18 := NB267_272.out; have z19_0 := bk3 BK272.out) | ((with_reducible refine gate_callee (f := 7) rfl ?_); refine goesL_ (some 35) rfl rfl Tryd.func7 (by kernel_rfl) rfl #[.string a0] rfl qL ?_; (with_reducible refine (cubbyref21_Hear.calls k a0 t273 t274 t275 t276 t277 t278 _ A6.out).mono ?_); rintro e w20 ⟨rfl, hb⟩; refine ⟨_, rfl, ?_⟩; replace BK260 := zA (blk_below (g := gb260) (o := .cells #[.int .i64 t256, .string t257, .string t258] 36 (0, 0)) (by (with_reducible repeat (first | refine blk_drewN ?_ _ | refine blk_drew ?_ | refine blk_alloc ?_ _)); refine blk_far ?_ NB260_272.out _; (with_reducible repeat (first | refine blk_drewN ?_ _ | refine blk_drew ?_ | refine blk_alloc ?_ _)); refine blk_far ?_ NB260_272.out _; (with_reducible repeat (first | refine blk_drewN ?_ _ | refine blk_drew ?_ | refine blk_alloc ?_ _)); refine blk_far ?_ NB260_272.out _; (with_reducible repeat (first | refine blk_drewN ?_ _ | refine blk_drew ?_ | refine blk_alloc ?_ _)); exact BK260.out) hb); replace BK267 := zA (blk_below (g := gb267) (o := .cells #[.int .i64 t261, .int .i64 t262, .int .i64 t263, .int .i64 t264, .string t265] 23 (0, 0)) (by (with_reducible repeat (first | refine blk_drewN ?_ _ | refine blk_drew ?_ | refine blk_alloc ?_ _)); refine blk_far ?_ NB267_272.out _; (with_reducible repeat (first | refine blk_drewN ?_ _ | refine blk_drew ?_ | refine blk_alloc ?_ _)); refine blk_far ?_ NB267_272.out _; (with_reducible repeat (first | refine blk_drewN ?_ _ | refine blk_drew ?_ | refine blk_alloc ?_ _)); refine blk_far ?_ NB267_272.out _; (with_reducible repeat (first | refine blk_drewN ?_ _ | refine blk_drew ?_ | refine blk_alloc ?_ _)); exact BK267.out) hb); replace BK272 := zA (blk_below (g := gb272) (o := .cells #[.int .i64 t268, .string t269, .string t270] 39 (0, 0)) (by (with_reducible repeat (first | refine blk_drewN ?_ _ | refine blk_drew ?_ | refine blk_alloc ?_ _)); refine blk_put (cs := #[.int .i64 t268, .string t269, .string (⟨#[]⟩ : ByteArray)]) ?_ 2 _ rfl; (with_reducible repeat (first | refine blk_drewN ?_ _ | refine blk_drew ?_ | refine blk_alloc ?_ _)); refine blk_put (cs := #[.int .i64 t268, .string (⟨#[]⟩ : ByteArray), .string (⟨#[]⟩ : ByteArray)]) ?_ 1 _ rfl; (with_reducible repeat (first | refine blk_drewN ?_ _ | refine blk_drew ?_ | refine blk_alloc ?_ _)); refine blk_put (cs := #[.int .i64 0, .string (⟨#[]⟩ : ByteArray), .string (⟨#[]⟩ : ByteArray)]) ?_ 0 _ rfl; (with_reducible repeat (first | refine blk_drewN ?_ _ | refine blk_drew ?_ | refine blk_alloc ?_ _)); exact BK272.out) hb); replace HB := qH hb) | ((with_reducible refine gate_dst (N := 9) rfl ?_); refine box_event (by rfl) (N := 9) (by rfl) (cs := #[.int .i64 0, .int .i64 0, .int .i64 0, .int .i64 0, .string (⟨#[]⟩ : ByteArray)]) (t := 27) ?hr ?_; (case hr => go_simp <;> rfl); intro gb279 hg w21 hbox hb; have BK279 := zA (hbox); have GW279 := qG hg; have GE279 := GW279; replace HB := qH hb; have NB260_279 := zA ((by rw [hg]; exact Nat.ne_of_lt (blk_lt (g := gb260) (o := .cells #[.int .i64 t256, .string t257, .string t258] 36 (0, 0)) (qK BK260.out)) : gb260 ≠ gb279)); have NB279_260 := zA ((by rw [hg]; exact Nat.ne_of_gt (blk_lt (g := gb260) (o := .cells #[.int .i64 t256, .string t257, .string t258] 36 (0, 0)) (qK BK260.out)) : gb279 ≠ gb260)); replace BK260 := qW BK260 hb; have NB267_279 := zA ((by rw [hg]; exact Nat.ne_of_lt (blk_lt (g := gb267) (o := .cells #[.int .i64 t261, .int .i64 t262, .int .i64 t263, .int .i64 t264, .string t265] 23 (0, 0)) (qK BK267.out)) : gb267 ≠ gb279)); have NB279_267 := zA ((by rw [hg]; exact Nat.ne_of_gt (blk_lt (g := gb267) (o := .cells #[.int .i64 t261, .int .i64 t262, .int .i64 t263, .int .i64 t264, .string t265] 23 (0, 0)) (qK BK267.out)) : gb279 ≠ gb267)); replace BK267 := qW BK267 hb; have NB272_279 := zA ((by rw [hg]; exact Nat.ne_of_lt (blk_lt (g := gb272) (o := .cells #[.int .i64 t268, .string t269, .string t270] 39 (0, 0)) (qK BK272.out)) : gb272 ≠ gb279)); have NB279_272 := zA ((by rw [hg]; exact Nat.ne_of_gt (blk_lt (g := gb272) (o := .cells #[.int .i64 t268, .string t269, .string t270] 39 (0, 0)) (qK BK272.out)) : gb279 ≠ gb272)); replace BK272 := qW BK272 hb; clear hb hbox hg; have hnb22 := NB279_260.out; have hnc22 := NB260_279.out; have hnb23 := NB279_267.out; have hnc23 := NB267_279.out; have hnb24 := NB279_272.out; have hnc24 := NB272_279.out; have z25_0 := bk5 BK279.out))
  (try simp only [Act.put, List.setIfInBounds_toArray, List.set_cons_zero, List.set_cons_succ])
  go_cut [45] (fun v45 wc => ∃ (kq : Nat) (x45_6 : Bool), v45 = .bool x45_6 ∧ Aside0 (cubbylaw21_AskBack.j0 kq a0 t259 t266 x45_6 t256 t257 t258 t261 t262 t263 t264 t265 = some r) ∧ Aside0 (kq ≤ k) ∧ Aside0 (wc.heap[gb260]? = some (.cells #[.int .i64 t256, .string t257, .string t258] 36 (0, 0))) ∧ Aside0 (wc.heap[gb267]? = some (.cells #[.int .i64 t261, .int .i64 t262, .int .i64 t263, .int .i64 t264, .string t265] 23 (0, 0))) ∧ Aside0 (wc.heap[gb272]? = some (.cells #[.int .i64 t268, .string t269, .string t270] 39 (0, 0))) ∧ Aside0 (wc.heap[gb279]? = some (.cells #[.int .i64 t273, .int .i64 t274, .int .i64 t275, .int .i64 t276, .string t277] 27 (0, 0))) ∧ Aside0 (Below w.heap.size w wc))
  case first =>
   have H := HC7.out
   clear HC7
   by_cases c26 : t259 = t271
   ·rw [zC c26] at H
    obtain ⟨c26b0, c26b1⟩ := qe c26; clear c26
    (first | rw [c26b0] | (simp only [i64_w, i32_w]; rw [c26b0]) | skip)
    have H' := zA H
    clear H
    go_wp2
    go_meet
    case rel => exact ⟨_, ((t266 != t278)), qT, H', ⟨qO⟩, ⟨by (with_reducible repeat (first | refine blk_drewN ?_ _ | refine blk_drew ?_ | refine blk_alloc ?_ _)); refine blk_far ?_ NB260_279.out _; (with_reducible repeat (first | refine blk_drewN ?_ _ | refine blk_drew ?_ | refine blk_alloc ?_ _)); refine blk_far ?_ NB260_279.out _; (with_reducible repeat (first | refine blk_drewN ?_ _ | refine blk_drew ?_ | refine blk_alloc ?_ _)); refine blk_far ?_ NB260_279.out _; (with_reducible repeat (first | refine blk_drewN ?_ _ | refine blk_drew ?_ | refine blk_alloc ?_ _)); refine blk_far ?_ NB260_279.out _; (with_reducible repeat (first | refine blk_drewN ?_ _ | refine blk_drew ?_ | refine blk_alloc ?_ _)); refine blk_far ?_ NB260_279.out _; (with_reducible repeat (first | refine blk_drewN ?_ _ | refine blk_drew ?_ | refine blk_alloc ?_ _)); exact BK260.out⟩, ⟨by (with_reducible repeat (first | refine blk_drewN ?_ _ | refine blk_drew ?_ | refine blk_alloc ?_ _)); refine blk_far ?_ NB267_279.out _; (with_reducible repeat (first | refine blk_drewN ?_ _ | refine blk_drew ?_ | refine blk_alloc ?_ _)); refine blk_far ?_ NB267_279.out _; (with_reducible repeat (first | refine blk_drewN ?_ _ | refine blk_drew ?_ | refine blk_alloc ?_ _)); refine blk_far ?_ NB267_279.out _; (with_reducible repeat (first | refine blk_drewN ?_ _ | refine blk_drew ?_ | refine blk_alloc ?_ _)); refine blk_far ?_ NB267_279.out _; (with_reducible repeat (first | refine blk_drewN ?_ _ | refine blk_drew ?_ | refine blk_alloc ?_ _)); refine blk_far ?_ NB267_279.out _; (with_reducible repeat (first | refine blk_drewN ?_ _ | refine blk_drew ?_ | refine blk_alloc ?_ _)); exact BK267.out⟩, ⟨by (with_reducible repeat (first | refine blk_drewN ?_ _ | refine blk_drew ?_ | refine blk_alloc ?_ _)); refine blk_far ?_ NB272_279.out _; (with_reducible repeat (first | refine blk_drewN ?_ _ | refine blk_drew ?_ | refine blk_alloc ?_ _)); refine blk_far ?_ NB272_279.out _; (with_reducible repeat (first | refine blk_drewN ?_ _ | refine blk_drew ?_ | refine blk_alloc ?_ _)); refine blk_far ?_ NB272_279.out _; (with_reducible repeat (first | refine blk_drewN ?_ _ | refine blk_drew ?_ | refine blk_alloc ?_ _)); refine blk_far ?_ NB272_279.out _; (with_reducible repeat (first | refine blk_drewN ?_ _ | refine blk_drew ?_ | refine blk_alloc ?_ _)); refine blk_far ?_ NB272_279.out _; (with_reducible repeat (first | refine blk_drewN ?_ _ | refine blk_drew ?_ | refine blk_alloc ?_ _)); exact BK272.out⟩, ⟨by (with_reducible repeat (first | refine blk_drewN ?_ _ | refine blk_drew ?_ | refine blk_alloc ?_ _)); refine blk_put (cs := #[.int .i64 t273, .int .i64 t274, .int .i64 t275, .int .i64 t276, .string (⟨#[]⟩ : ByteArray)]) ?_ 4 _ rfl; (with_reducible repeat (first | refine blk_drewN ?_ _ | refine blk_drew ?_ | refine blk_alloc ?_ _)); refine blk_put (cs := #[.int .i64 t273, .int .i64 t274, .int .i64 t275, .int .i64 0, .string (⟨#[]⟩ : ByteArray)]) ?_ 3 _ rfl; (with_reducible repeat (first | refine blk_drewN ?_ _ | refine blk_drew ?_ | refine blk_alloc ?_ _)); refine blk_put (cs := #[.int .i64 t273, .int .i64 t274, .int .i64 0, .int .i64 0, .string (⟨#[]⟩ : ByteArray)]) ?_ 2 _ rfl; (with_reducible repeat (first | refine blk_drewN ?_ _ | refine blk_drew ?_ | refine blk_alloc ?_ _)); refine blk_put (cs := #[.int .i64 t273, .int .i64 0, .int .i64 0, .int .i64 0, .string (⟨#[]⟩ : ByteArray)]) ?_ 1 _ rfl; (with_reducible repeat (first | refine blk_drewN ?_ _ | refine blk_drew ?_ | refine blk_alloc ?_ _)); refine blk_put (cs := #[.int .i64 0, .int .i64 0, .int .i64 0, .int .i64 0, .string (⟨#[]⟩ : ByteArray)]) ?_ 0 _ rfl; (with_reducible repeat (first | refine blk_drewN ?_ _ | refine blk_drew ?_ | refine blk_alloc ?_ _)); exact BK279.out⟩, ⟨qB⟩⟩
   ·rw [zD c26] at H
    obtain ⟨c26b0, c26b1⟩ := qn c26
    (first | rw [c26b0] | (simp only [i64_w, i32_w]; rw [c26b0]) | skip)
    have H' := zA H
    clear H
    go_wp2
    go_meet
    case rel => exact ⟨_, (true), qT, H', ⟨qO⟩, ⟨by (with_reducible repeat (first | refine blk_drewN ?_ _ | refine blk_drew ?_ | refine blk_alloc ?_ _)); refine blk_far ?_ NB260_279.out _; (with_reducible repeat (first | refine blk_drewN ?_ _ | refine blk_drew ?_ | refine blk_alloc ?_ _)); refine blk_far ?_ NB260_279.out _; (with_reducible repeat (first | refine blk_drewN ?_ _ | refine blk_drew ?_ | refine blk_alloc ?_ _)); refine blk_far ?_ NB260_279.out _; (with_reducible repeat (first | refine blk_drewN ?_ _ | refine blk_drew ?_ | refine blk_alloc ?_ _)); refine blk_far ?_ NB260_279.out _; (with_reducible repeat (first | refine blk_drewN ?_ _ | refine blk_drew ?_ | refine blk_alloc ?_ _)); refine blk_far ?_ NB260_279.out _; (with_reducible repeat (first | refine blk_drewN ?_ _ | refine blk_drew ?_ | refine blk_alloc ?_ _)); exact BK260.out⟩, ⟨by (with_reducible repeat (first | refine blk_drewN ?_ _ | refine blk_drew ?_ | refine blk_alloc ?_ _)); refine blk_far ?_ NB267_279.out _; (with_reducible repeat (first | refine blk_drewN ?_ _ | refine blk_drew ?_ | refine blk_alloc ?_ _)); refine blk_far ?_ NB267_279.out _; (with_reducible repeat (first | refine blk_drewN ?_ _ | refine blk_drew ?_ | refine blk_alloc ?_ _)); refine blk_far ?_ NB267_279.out _; (with_reducible repeat (first | refine blk_drewN ?_ _ | refine blk_drew ?_ | refine blk_alloc ?_ _)); refine blk_far ?_ NB267_279.out _; (with_reducible repeat (first | refine blk_drewN ?_ _ | refine blk_drew ?_ | refine blk_alloc ?_ _)); refine blk_far ?_ NB267_279.out _; (with_reducible repeat (first | refine blk_drewN ?_ _ | refine blk_drew ?_ | refine blk_alloc ?_ _)); exact BK267.out⟩, ⟨by (with_reducible repeat (first | refine blk_drewN ?_ _ | refine blk_drew ?_ | refine blk_alloc ?_ _)); refine blk_far ?_ NB272_279.out _; (with_reducible repeat (first | refine blk_drewN ?_ _ | refine blk_drew ?_ | refine blk_alloc ?_ _)); refine blk_far ?_ NB272_279.out _; (with_reducible repeat (first | refine blk_drewN ?_ _ | refine blk_drew ?_ | refine blk_alloc ?_ _)); refine blk_far ?_ NB272_279.out _; (with_reducible repeat (first | refine blk_drewN ?_ _ | refine blk_drew ?_ | refine blk_alloc ?_ _)); refine blk_far ?_ NB272_279.out _; (with_reducible repeat (first | refine blk_drewN ?_ _ | refine blk_drew ?_ | refine blk_alloc ?_ _)); refine blk_far ?_ NB272_279.out _; (with_reducible repeat (first | refine blk_drewN ?_ _ | refine blk_drew ?_ | refine blk_alloc ?_ _)); exact BK272.out⟩, ⟨by (with_reducible repeat (first | refine blk_drewN ?_ _ | refine blk_drew ?_ | refine blk_alloc ?_ _)); refine blk_put (cs := #[.int .i64 t273, .int .i64 t274, .int .i64 t275, .int .i64 t276, .string (⟨#[]⟩ : ByteArray)]) ?_ 4 _ rfl; (with_reducible repeat (first | refine blk_drewN ?_ _ | refine blk_drew ?_ | refine blk_alloc ?_ _)); refine blk_put (cs := #[.int .i64 t273, .int .i64 t274, .int .i64 t275, .int .i64 0, .string (⟨#[]⟩ : ByteArray)]) ?_ 3 _ rfl; (with_reducible repeat (first | refine blk_drewN ?_ _ | refine blk_drew ?_ | refine blk_alloc ?_ _)); refine blk_put (cs := #[.int .i64 t273, .int .i64 t274, .int .i64 0, .int .i64 0, .string (⟨#[]⟩ : ByteArray)]) ?_ 2 _ rfl; (with_reducible repeat (first | refine blk_drewN ?_ _ | refine blk_drew ?_ | refine blk_alloc ?_ _)); refine blk_put (cs := #[.int .i64 t273, .int .i64 0, .int .i64 0, .int .i64 0, .string (⟨#[]⟩ : ByteArray)]) ?_ 1 _ rfl; (with_reducible repeat (first | refine blk_drewN ?_ _ | refine blk_drew ?_ | refine blk_alloc ?_ _)); refine blk_put (cs := #[.int .i64 0, .int .i64 0, .int .i64 0, .int .i64 0, .string (⟨#[]⟩ : ByteArray)]) ?_ 0 _ rfl; (with_reducible repeat (first | refine blk_drewN ?_ _ | refine blk_drew ?_ | refine blk_alloc ?_ _)); exact BK279.out⟩, ⟨qB⟩⟩
  case rest =>
   clear HC7
   try clear c1; try clear c2b0 c2b1; try clear p2; try clear c5; try clear c6; try clear c7; try clear c10; try clear c11; try clear c13; try clear c17; try clear c18; try clear c22; try clear c23; try clear c24; try clear c26; try clear c26b0 c26b1; try clear z10_0; try clear z14_0; try clear z19_0; try clear z25_0
   obtain ⟨kq, x45_6, rfl, HA, HJ6, BK260, BK267, BK272, BK279, HB⟩ := hcut
   cases kq with
   | zero => exact absurd HA.out (by simp [cubbylaw21_AskBack.j0])
   | succ kj6 =>
    have H := HA.out
    clear HA
    simp only [cubbylaw21_AskBack.j0] at H
    by_cases c27 : x45_6 = true
    ·subst c27
     have H1 : (some false) = some r := by rw [zC rfl] at H; exact H
     clear H
     have H := H1
     clear H1
     exact absurd ((zI H).trans HRt.out) (by decide)
    ·replace c27 := Bool.eq_false_iff.mpr c27
     subst c27
     have H1 : ((ask_Print.f kj6 t256 t257 t258).bind fun bt280 => ((ask_Tell.f kj6 t261 t262 t263 t264 t265).bind fun bt282 => (if t259 = 0 then (if bt280.2 = 0 then (if bt280.1.toList = a0.toList then (if t266 = 0 then (if bt282.2 = 0 then (some (bt282.1.toList == a0.toList)) else (some false)) else (some true)) else (some false)) else (some false)) else (if t266 = 0 then (if bt282.2 = 0 then (some (bt282.1.toList == a0.toList)) else (some false)) else (some true))))) = some r := by rw [zD (show ¬ (false = true) by decide)] at H; exact H
     clear H
     have H := H1
     clear H1
     replace H := Option.bind_eq_some_iff.mp H
     obtain ⟨⟨t280, t281⟩, A280, H⟩ := H
     replace H : ((ask_Tell.f kj6 t261 t262 t263 t264 t265).bind fun bt282 => (if t259 = 0 then (if t281 = 0 then (if t280.toList = a0.toList then (if t266 = 0 then (if bt282.2 = 0 then (some (bt282.1.toList == a0.toList)) else (some false)) else (some true)) else (some false)) else (some false)) else (if t266 = 0 then (if bt282.2 = 0 then (some (bt282.1.toList == a0.toList)) else (some false)) else (some true)))) = some r := H
     have A28 := zA A280
     clear A280
     replace H := Option.bind_eq_some_iff.mp H
     obtain ⟨⟨t282, t283⟩, A290, H⟩ := H
     replace H : (if t259 = 0 then (if t281 = 0 then (if t280.toList = a0.toList then (if t266 = 0 then (if t283 = 0 then (some (t282.toList == a0.toList)) else (some false)) else (some true)) else (some false)) else (some false)) else (if t266 = 0 then (if t283 = 0 then (some (t282.toList == a0.toList)) else (some false)) else (some true))) = some r := H
     have A29 := zA A290
     clear A290
     by_cases c30 : t259 = 0
     ·rw [zC c30] at H
      obtain ⟨c30b0, c30b1⟩ := qe c30; clear c30
      by_cases c31 : t281 = 0
      ·rw [zC c31] at H
       obtain ⟨c31b0, c31b1⟩ := qe c31; clear c31
       by_cases c32 : t280.toList = a0.toList
       ·rw [zC c32] at H
        obtain ⟨c32b0, c32b1⟩ := qe c32; clear c32
        by_cases c33 : t266 = 0
        ·rw [zC c33] at H
         obtain ⟨c33b0, c33b1⟩ := qe c33; clear c33
         by_cases c34 : t283 = 0
         ·rw [zC c34] at H
          obtain ⟨c34b0, c34b1⟩ := qe c34; clear c34
          obtain rfl := zI H
          have hnb35 := NB260_267.out
          have hnc35 := NB267_260.out
          have hnb36 := NB260_272.out
          have hnc36 := NB272_260.out
          have hnb37 := NB260_279.out
          have hnc37 := NB279_260.out
          have z38_0 := bk3 BK260.out
          go_wp2_with (first | ((with_reducible refine gate_callee (f := 12) rfl ?_); refine goesL_ (some 48) rfl rfl Tryd.func12 (by kernel_rfl) rfl #[.agg #[.int .i64 t256, .string t257, .string t258]] rfl qL ?_; (with_reducible refine (ask_Print.calls kj6 t256 t257 t258 t280 t281 _ A28.out).mono ?_); rintro e w39 ⟨rfl, hb⟩; refine ⟨_, rfl, ?_⟩; replace BK260 := qW BK260 hb; replace BK267 := qW BK267 hb; replace BK272 := qW BK272 hb; replace BK279 := qW BK279 hb; replace HB := qH hb; (try clear hb); have hnb40 := NB267_272.out; have hnc40 := NB272_267.out; have hnb41 := NB267_279.out; have hnc41 := NB279_267.out; have z42_0 := bk5 BK267.out) | ((with_reducible refine gate_callee (f := 8) rfl ?_); refine goesL_ (some 53) rfl rfl Tryd.func8 (by kernel_rfl) rfl #[.agg #[.int .i64 t261, .int .i64 t262, .int .i64 t263, .int .i64 t264, .string t265]] rfl qL ?_; (with_reducible refine (ask_Tell.calls kj6 t261 t262 t263 t264 t265 t282 t283 _ A29.out (hL := ?side99)).mono ?_); (case side99 => exact LaidW.below HLd.out qB); rintro e w43 ⟨rfl, hb⟩; refine ⟨_, rfl, ?_⟩; replace BK260 := qW BK260 hb; replace BK267 := qW BK267 hb; replace BK272 := qW BK272 hb; replace BK279 := qW BK279 hb; replace HB := qH hb; (try clear hb)))
          go_ret
          exact ⟨qE, qB⟩
         ·rw [zD c34] at H
          obtain ⟨c34b0, c34b1⟩ := qn c34
          exact absurd ((zI H).trans HRt.out) (by decide)
        ·rw [zD c33] at H
         obtain ⟨c33b0, c33b1⟩ := qn c33
         obtain rfl := zI H
         have hnb44 := NB260_267.out
         have hnc44 := NB267_260.out
         have hnb45 := NB260_272.out
         have hnc45 := NB272_260.out
         have hnb46 := NB260_279.out
         have hnc46 := NB279_260.out
         have z47_0 := bk3 BK260.out
         go_wp2_with (first | ((with_reducible refine gate_callee (f := 12) rfl ?_); refine goesL_ (some 48) rfl rfl Tryd.func12 (by kernel_rfl) rfl #[.agg #[.int .i64 t256, .string t257, .string t258]] rfl qL ?_; (with_reducible refine (ask_Print.calls kj6 t256 t257 t258 t280 t281 _ A28.out).mono ?_); rintro e w48 ⟨rfl, hb⟩; refine ⟨_, rfl, ?_⟩; replace BK260 := qW BK260 hb; replace BK267 := qW BK267 hb; replace BK272 := qW BK272 hb; replace BK279 := qW BK279 hb; replace HB := qH hb; (try clear hb); have hnb49 := NB267_272.out; have hnc49 := NB272_267.out; have hnb50 := NB267_279.out; have hnc50 := NB279_267.out; have z51_0 := bk5 BK267.out) | ((with_reducible refine gate_callee (f := 8) rfl ?_); refine goesL_ (some 53) rfl rfl Tryd.func8 (by kernel_rfl) rfl #[.agg #[.int .i64 t261, .int .i64 t262, .int .i64 t263, .int .i64 t264, .string t265]] rfl qL ?_; (with_reducible refine (ask_Tell.calls kj6 t261 t262 t263 t264 t265 t282 t283 _ A29.out (hL := ?side99)).mono ?_); (case side99 => exact LaidW.below HLd.out qB); rintro e w52 ⟨rfl, hb⟩; refine ⟨_, rfl, ?_⟩; replace BK260 := qW BK260 hb; replace BK267 := qW BK267 hb; replace BK272 := qW BK272 hb; replace BK279 := qW BK279 hb; replace HB := qH hb; (try clear hb)))
         go_ret
         exact ⟨qE, qB⟩
       ·rw [zD c32] at H
        obtain ⟨c32b0, c32b1⟩ := qn c32
        exact absurd ((zI H).trans HRt.out) (by decide)
      ·rw [zD c31] at H
       obtain ⟨c31b0, c31b1⟩ := qn c31
       exact absurd ((zI H).trans HRt.out) (by decide)
     ·rw [zD c30] at H
      obtain ⟨c30b0, c30b1⟩ := qn c30
      by_cases c53 : t266 = 0
      ·rw [zC c53] at H
       obtain ⟨c53b0, c53b1⟩ := qe c53; clear c53
       by_cases c54 : t283 = 0
       ·rw [zC c54] at H
        obtain ⟨c54b0, c54b1⟩ := qe c54; clear c54
        obtain rfl := zI H
        have hnb55 := NB260_267.out
        have hnc55 := NB267_260.out
        have hnb56 := NB260_272.out
        have hnc56 := NB272_260.out
        have hnb57 := NB260_279.out
        have hnc57 := NB279_260.out
        have z58_0 := bk3 BK260.out
        go_wp2_with (first | ((with_reducible refine gate_callee (f := 12) rfl ?_); refine goesL_ (some 48) rfl rfl Tryd.func12 (by kernel_rfl) rfl #[.agg #[.int .i64 t256, .string t257, .string t258]] rfl qL ?_; (with_reducible refine (ask_Print.calls kj6 t256 t257 t258 t280 t281 _ A28.out).mono ?_); rintro e w59 ⟨rfl, hb⟩; refine ⟨_, rfl, ?_⟩; replace BK260 := qW BK260 hb; replace BK267 := qW BK267 hb; replace BK272 := qW BK272 hb; replace BK279 := qW BK279 hb; replace HB := qH hb; (try clear hb); have hnb60 := NB267_272.out; have hnc60 := NB272_267.out; have hnb61 := NB267_279.out; have hnc61 := NB279_267.out; have z62_0 := bk5 BK267.out) | ((with_reducible refine gate_callee (f := 8) rfl ?_); refine goesL_ (some 53) rfl rfl Tryd.func8 (by kernel_rfl) rfl #[.agg #[.int .i64 t261, .int .i64 t262, .int .i64 t263, .int .i64 t264, .string t265]] rfl qL ?_; (with_reducible refine (ask_Tell.calls kj6 t261 t262 t263 t264 t265 t282 t283 _ A29.out (hL := ?side99)).mono ?_); (case side99 => exact LaidW.below HLd.out qB); rintro e w63 ⟨rfl, hb⟩; refine ⟨_, rfl, ?_⟩; replace BK260 := qW BK260 hb; replace BK267 := qW BK267 hb; replace BK272 := qW BK272 hb; replace BK279 := qW BK279 hb; replace HB := qH hb; (try clear hb)))
        go_ret
        exact ⟨qE, qB⟩
       ·rw [zD c54] at H
        obtain ⟨c54b0, c54b1⟩ := qn c54
        exact absurd ((zI H).trans HRt.out) (by decide)
      ·rw [zD c53] at H
       obtain ⟨c53b0, c53b1⟩ := qn c53
       obtain rfl := zI H
       have hnb64 := NB260_267.out
       have hnc64 := NB267_260.out
       have hnb65 := NB260_272.out
       have hnc65 := NB272_260.out
       have hnb66 := NB260_279.out
       have hnc66 := NB279_260.out
       have z67_0 := bk3 BK260.out
       go_wp2_with (first | ((with_reducible refine gate_callee (f := 12) rfl ?_); refine goesL_ (some 48) rfl rfl Tryd.func12 (by kernel_rfl) rfl #[.agg #[.int .i64 t256, .string t257, .string t258]] rfl qL ?_; (with_reducible refine (ask_Print.calls kj6 t256 t257 t258 t280 t281 _ A28.out).mono ?_); rintro e w68 ⟨rfl, hb⟩; refine ⟨_, rfl, ?_⟩; replace BK260 := qW BK260 hb; replace BK267 := qW BK267 hb; replace BK272 := qW BK272 hb; replace BK279 := qW BK279 hb; replace HB := qH hb; (try clear hb); have hnb69 := NB267_272.out; have hnc69 := NB272_267.out; have hnb70 := NB267_279.out; have hnc70 := NB279_267.out; have z71_0 := bk5 BK267.out) | ((with_reducible refine gate_callee (f := 8) rfl ?_); refine goesL_ (some 53) rfl rfl Tryd.func8 (by kernel_rfl) rfl #[.agg #[.int .i64 t261, .int .i64 t262, .int .i64 t263, .int .i64 t264, .string t265]] rfl qL ?_; (with_reducible refine (ask_Tell.calls kj6 t261 t262 t263 t264 t265 t282 t283 _ A29.out (hL := ?side99)).mono ?_); (case side99 => exact LaidW.below HLd.out qB); rintro e w72 ⟨rfl, hb⟩; refine ⟨_, rfl, ?_⟩; replace BK260 := qW BK260 hb; replace BK267 := qW BK267 hb; replace BK272 := qW BK272 hb; replace BK279 := qW BK279 hb; replace HB := qH hb; (try clear hb)))
       go_ret
       exact ⟨qE, qB⟩
end Go.Proofs.YtmojmnhaabonpaaDoor.Q
namespace Go.Proofs.YtmojmnhaabonpaaDoor.RAskBack
open Go Go.RowKit Go.Proofs.YtmojmnhaabonpaaDoorW.PrintWords Go.Proofs.YtmojmnhaabonpaaDoor.Q
set_option linter.unusedVariables false
def AskBack.Pure : Prop := ∀ (a0 : ByteArray), (a0).size ≤ 140737488351232 → ∃ k, cubbylaw21_AskBack.f k a0 = some true
end Go.Proofs.YtmojmnhaabonpaaDoor.RAskBack
namespace Go.Proofs.YtmojmnhaabonpaaDoor.PlainName
open Go Go.RowKit Go.Proofs.YtmojmnhaabonpaaDoorW.PrintWords Go.Proofs.YtmojmnhaabonpaaDoorW.PrintMore Go.Proofs.YtmojmnhaabonpaaDoor.Q Go.Proofs.YtmojmnhaabonpaaDoor.Plain
set_option linter.unusedVariables false
set_option linter.unusedSimpArgs false
def lowD (x : UInt8) : Bool := decide ((97 ≤ x.toNat ∧ x.toNat ≤ 122) ∨ (48 ≤ x.toNat ∧ x.toNat ≤ 57))
def nameOk (s : ByteArray) : Bool := decide (1 ≤ s.size ∧ s.size ≤ 12 ∧ 97 ≤ bt s 0) && s.data.toList.all lowD
theorem cut_has (x : UInt8) : nameCut.data.toList.contains x = lowD x := by
 have h : ∀ n, n < 256 → nameCut.data.toList.contains (UInt8.ofNat n) = lowD (UInt8.ofNat n) := by decide +kernel
 have := h x.toNat x.toNat_lt
 rwa [UInt8.ofNat_toNat] at this
theorem dw_nil {p : UInt8 → Bool} : ∀ {l : List UInt8}, l.dropWhile p = [] ↔ ∀ x, x ∈ l → p x = true
 | [] => by simp
 | a :: t => by
  rw [List.dropWhile_cons]
  by_cases h : p a = true
  ·rw [zC h, dw_nil (l := t)]
   constructor
   ·intro g x hx
    rcases List.mem_cons.1 hx with rfl | hx
    ·exact h
    ·exact g x hx
   ·exact fun g x hx => g x (List.mem_cons_of_mem _ hx)
  ·rw [zD h]
   constructor
   ·intro g
    exact absurd g (by simp)
   ·intro g
    exact absurd (g a List.mem_cons_self) h
theorem trim_nil (l cs : List UInt8) : Lib.trimS l cs = [] ↔ l.all (cs.contains ·) = true := by
 unfold Lib.trimS Lib.trimLeftS Lib.trimRightS
 constructor
 ·intro h
  rw [dw_nil] at h
  rw [List.all_eq_true]
  intro x hx
  have h2 : x ∈ l.reverse := List.mem_reverse.2 hx
  rw [← List.takeWhile_append_dropWhile (p := fun x => cs.contains x) (l := l.reverse)] at h2
  rcases List.mem_append.1 h2 with h3 | h3
  ·exact (List.all_eq_true.1 (List.all_takeWhile (p := fun x => cs.contains x) (l := l.reverse))) x h3
  ·exact h x (List.mem_reverse.2 h3)
 ·intro h
  have h1 : l.reverse.dropWhile (cs.contains ·) = [] := by
   rw [dw_nil]
   intro x hx
   exact List.all_eq_true.1 h x (List.mem_reverse.1 hx)
  rw [h1]
  rfl
theorem size_list (s : ByteArray) : s.data.toList.length = s.size := by simp
theorem bt_get {s : ByteArray} {j : Nat} (h : j < s.data.toList.length) : bt s (j : Int) = ((s.data.toList[j]).toNat : Int) := by
 have hs := size_list s
 unfold bt
 rw [dif_pos (by omega)]
 rfl
theorem name_eq (s : ByteArray) : ir_Name.f s = some (nameOk s) := by
 have hs := size_list s
 unfold ir_Name.f
 rw [toList_data]
 by_cases h0 : s.data.toList = []
 ·have : s.size = 0 := by
   rw [h0] at hs
   exact hs.symm
  rw [zC h0]
  unfold nameOk
  rw [zG (by omega)]
  rfl
 ·have h1 : 0 < s.size := by
   rw [← hs]
   exact List.length_pos_iff.2 h0
  rw [zD h0]
  by_cases h2 : (s.size : Int) > 12
  ·rw [zC h2]
   unfold nameOk
   rw [zG (by omega)]
   rfl
  ·rw [zD h2, zC (by omega)]
   by_cases h3 : bt s 0 < 97
   ·rw [zC h3]
    unfold nameOk
    rw [zG (by omega)]
    rfl
   ·rw [zD h3]
    unfold strings_Trim.f
    rw [zC ⟨by omega, rfl⟩]
    simp only [zJ]
    rw [toList_data]
    unfold nameOk
    rw [zF (by omega), Bool.true_and, List.toList_toArray]
    congr 1
    have hc : s.data.toList.all (nameCut.data.toList.contains ·) = s.data.toList.all lowD := by
     congr 1
     funext x
     exact cut_has x
    have ht := trim_nil s.data.toList nameCut.data.toList
    rw [hc] at ht
    by_cases ha : s.data.toList.all lowD = true
    ·rw [ha]
     exact beq_iff_eq.2 (ht.2 ha)
    ·rw [Bool.not_eq_true _ |>.mp ha]
     exact beq_eq_false_iff_ne.2 fun e => ha (ht.1 e)
def restOk (s : ByteArray) (j : Nat) : Bool := (s.data.toList.drop j).all lowD && decide (j = 0 → 97 ≤ bt s 0)
theorem refname_loop (s : ByteArray) (hl : s.size ≤ 12) : ∀ (d j : Nat), s.size - j = d → j ≤ s.size → (j = 0 → 0 < s.size) → Ev (fun k => cubbyref07_Name.l0 k s (j : Int)) (restOk s j) := by
 have hs := size_list s
 intro d
 induction d with
 | zero =>
  intro j hd hj h0
  have : restOk s j = true := by
   unfold restOk
   rw [List.drop_eq_nil_of_le (by omega)]
   simp
   omega
  rw [this]
  exact Ev.step (f := fun _ => some true) (fun k => by simp only [cubbyref07_Name.l0]; rw [zD (by omega)]) (Ev.now _)
 | succ d ih =>
  intro j hd hj h0
  have hlt : j < s.data.toList.length := by omega
  have hb := bt_get hlt
  have hR : restOk s j = (lowD (s.data.toList[j]) && decide (j = 0 → 97 ≤ bt s 0) && restOk s (j + 1)) := by
   unfold restOk
   rw [drop_cons hlt]
   simp
   cases lowD s.data.toList[j] <;> cases (List.drop (j + 1) s.data.toList).all lowD <;> simp
  have hlow : lowD (s.data.toList[j]) = decide ((97 ≤ bt s (j : Int) ∧ bt s (j : Int) ≤ 122) ∨ (48 ≤ bt s (j : Int) ∧ bt s (j : Int) ≤ 57)) := by
   unfold lowD
   rw [hb]
   apply decide_eq_decide.2
   omega
  have hj0 : j = 0 → bt s (j : Int) = bt s 0 := by
   rintro rfl
   rfl
  rw [hR, hlow]
  have hstep : ∀ k, cubbyref07_Name.l0 (k + 1) s (j : Int) = (if (97 ≤ bt s (j : Int) ∧ bt s (j : Int) ≤ 122) ∨ ((48 ≤ bt s (j : Int) ∧ bt s (j : Int) ≤ 57) ∧ j ≠ 0) then cubbyref07_Name.l0 k s ((j + 1 : Nat) : Int) else some false) := by
   intro k
   simp only [cubbyref07_Name.l0]
   rw [zC (by omega : (j : Int) < (s.size : Int)), zC (by omega : (0 : Int) ≤ (j : Int)), wrap_nat (by omega)]
   repeat' split
   all_goals first
    | rfl
    | omega
  by_cases c : (97 ≤ bt s (j : Int) ∧ bt s (j : Int) ≤ 122) ∨ ((48 ≤ bt s (j : Int) ∧ bt s (j : Int) ≤ 57) ∧ j ≠ 0)
  ·refine Ev.step (fun k => (hstep k).trans (zC c)) ?_
   rw [zF (by omega), zF (by intro h; have := hj0 h; omega), Bool.true_and, Bool.true_and]
   exact ih (j + 1) (by omega) (by omega) (by omega)
  ·refine Ev.step (f := fun _ => some false) (fun k => (hstep k).trans (zD c)) ?_
   have : (decide ((97 ≤ bt s (j : Int) ∧ bt s (j : Int) ≤ 122) ∨ (48 ≤ bt s (j : Int) ∧ bt s (j : Int) ≤ 57)) && decide (j = 0 → 97 ≤ bt s 0)) = false := by
    by_cases c1 : (97 ≤ bt s (j : Int) ∧ bt s (j : Int) ≤ 122) ∨ (48 ≤ bt s (j : Int) ∧ bt s (j : Int) ≤ 57)
    ·rw [zG (p := (j = 0 → 97 ≤ bt s 0)) (fun h => by
      have h9 : j = 0 := by omega
      have := hj0 h9
      have := h h9
      omega), Bool.and_false]
    ·rw [zG c1, Bool.false_and]
   rw [this, Bool.false_and]
   exact Ev.now _
theorem refname_ev (s : ByteArray) : Ev (fun k => cubbyref07_Name.f k s) (nameOk s) := by
 have hyes : (s.size < 1 ∨ 12 < s.size) → Ev (fun k => cubbyref07_Name.j0 k s true) (nameOk s) := fun h => by
  have : nameOk s = false := by
   unfold nameOk
   rw [zG (by omega)]
   rfl
  rw [this]
  exact Ev.step (f := fun _ => some false) (fun k => by simp only [cubbyref07_Name.j0, if_true]) (Ev.now _)
 by_cases h1 : (s.size : Int) < 1
 ·exact Ev.congr (fun k => by unfold cubbyref07_Name.f; rw [zC h1]) (hyes (by omega))
 refine Ev.congr (f := fun k => cubbyref07_Name.j0 k s (decide ((s.size : Int) > 12))) (fun k => by unfold cubbyref07_Name.f; rw [zD h1]) ?_
 by_cases h2 : (s.size : Int) > 12
 ·rw [zF h2]
  exact hyes (by omega)
 ·rw [zG h2]
  refine Ev.step (f := fun k => cubbyref07_Name.l0 k s ((0 : Nat) : Int)) (fun k => by simp only [cubbyref07_Name.j0]; rw [zD (by simp)]; rfl) ?_
  have := refname_loop s (by omega) s.size 0 (by omega) (by omega) (by omega)
  have hR : restOk s 0 = nameOk s := by
   unfold restOk nameOk
   rw [List.drop_zero, Bool.and_comm]
   congr 1
   apply decide_eq_decide.2
   constructor
   ·intro h
    exact ⟨by omega, by omega, h rfl⟩
   ·intro h _
    exact h.2.2
  rw [← hR]
  exact this
end Go.Proofs.YtmojmnhaabonpaaDoor.PlainName
namespace Go.Proofs.YtmojmnhaabonpaaDoor.PlainAsk
open Go Go.RowKit Go.Proofs.YtmojmnhaabonpaaDoorW.PrintWords Go.Proofs.YtmojmnhaabonpaaDoorW.PrintMore Go.Proofs.YtmojmnhaabonpaaDoor.Q Go.Proofs.YtmojmnhaabonpaaDoor.Plain Go.Proofs.YtmojmnhaabonpaaDoor.PlainName
set_option linter.unusedVariables false
set_option linter.unusedSimpArgs false
def wd (k : Int) : ByteArray := if k = 1 then ⟨#[115, 117, 98, 109, 105, 116]⟩ else if k = 2 then ⟨#[98, 117, 105, 108, 100]⟩ else if k = 3 then ⟨#[102, 101, 116, 99, 104]⟩ else if k = 4 then ⟨#[100, 114, 111, 112]⟩ else if k = 5 then ⟨#[112, 105, 110]⟩ else if k = 6 then ⟨#[117, 110, 112, 105, 110]⟩ else if k = 7 then ⟨#[101, 118, 105, 99, 116]⟩ else if k = 8 then ⟨#[114, 101, 99, 104, 101, 99, 107]⟩ else if k = 9 then ⟨#[115, 116, 97, 116, 115]⟩ else ⟨#[]⟩
theorem word_eq (k : Int) : ask_word.f k = some (wd k) := by
 unfold ask_word.f wd
 repeat' split
 all_goals rfl
theorem k_cases {k : Int} (h : 1 ≤ k ∧ k ≤ 9) : k = 1 ∨ k = 2 ∨ k = 3 ∨ k = 4 ∨ k = 5 ∨ k = 6 ∨ k = 7 ∨ k = 8 ∨ k = 9 := by omega
theorem wd_none {k : Int} (h : ¬ (1 ≤ k ∧ k ≤ 9)) : wd k = ⟨#[]⟩ := by
 unfold wd
 rw [zD (by omega), zD (by omega), zD (by omega), zD (by omega), zD (by omega), zD (by omega), zD (by omega), zD (by omega), zD (by omega)]
theorem refword_eq (k : Int) : cubbyref21_word.f k = some (wd k) := by
 unfold cubbyref21_word.f
 rw [zJ]
 by_cases h : 1 ≤ k ∧ k ≤ 9
 ·rcases k_cases h with rfl | rfl | rfl | rfl | rfl | rfl | rfl | rfl | rfl <;> rfl
 ·rw [wd_none h]
  by_cases c : k < 0
  ·rw [zC c]
  ·rw [zD c]
   by_cases c1 : k = 0
   ·subst c1
    rfl
   ·rw [zC (by simp; omega)]
theorem wd_size (k : Int) : (wd k).size ≤ 7 := by
 unfold wd
 repeat' split
 all_goals decide
theorem wd_empty {k : Int} : (wd k).toList = ([] : List UInt8) ↔ ¬ (1 ≤ k ∧ k ≤ 9) := by
 constructor
 ·intro h hk
  rcases k_cases hk with rfl | rfl | rfl | rfl | rfl | rfl | rfl | rfl | rfl <;> exact absurd h (by decide +kernel)
 ·intro h
  rw [wd_none h]
  decide +kernel
theorem wd_blank {k : Int} (h : 1 ≤ k ∧ k ≤ 9) : (32 : UInt8) ∉ (wd k).data.toList := by
 rcases k_cases h with rfl | rfl | rfl | rfl | rfl | rfl | rfl | rfl | rfl <;> decide +kernel
def nl : ByteArray := ⟨#[10]⟩
def printA (k : Int) (nm tx : ByteArray) : ByteArray × Int :=
 if 1 ≤ k ∧ k ≤ 9 then (if k = 1 then ((wd k ++ nl) ++ tx, 0) else if k ≤ 6 then (if nameOk nm = true then ((wd k ++ blankS) ++ nm, 0) else (⟨#[]⟩, 210)) else (wd k, 0)) else (⟨#[]⟩, 210)
theorem ap_size (a b : ByteArray) : (a ++ b).size = a.size + b.size := ByteArray.size_append
theorem print_ev (k : Int) (nm tx : ByteArray) (hn : nm.size ≤ 1000000000) (ht : tx.size ≤ 1000000000) : Ev (fun q => ask_Print.f q k nm tx) (printA k nm tx) := by
 have hw := wd_size k
 have hno : Ev (fun q => ask_Print.j0 q (wd k) true k nm tx) ((⟨#[]⟩ : ByteArray), (210 : Int)) := Ev.step (f := fun _ => some _) (fun q => by simp only [ask_Print.j0]; rw [zC trivial]) (Ev.now _)
 have hs1 : (wd k ++ (⟨#[10]⟩ : ByteArray)).size = (wd k).size + 1 := ap_size _ _
 have hs2 : (wd k ++ (⟨#[32]⟩ : ByteArray)).size = (wd k).size + 1 := ap_size _ _
 unfold printA
 by_cases c : 1 ≤ k ∧ k ≤ 9
 ·have he : ¬ (wd k).toList = ([] : List UInt8) := fun h => wd_empty.1 h c
  rw [zC c]
  by_cases c1 : k = 1
  ·rw [zC c1]
   refine Ev.congr (f := fun q => ask_Print.j0 q (wd k) false k nm tx) (fun q => by unfold ask_Print.f; rw [word_eq, zJ, zD he, zD (by omega)]) ?_
   exact Ev.step (f := fun _ => some _) (fun q => by simp only [ask_Print.j0]; rw [zD Bool.false_ne_true, zC c1, zC (by omega), zC (by omega)]; rfl) (Ev.now _)
  ·rw [zD c1]
   by_cases c2 : k ≤ 6
   ·rw [zC c2]
    cases hnm : nameOk nm
    ·rw [zD Bool.false_ne_true]
     exact Ev.congr (fun q => by unfold ask_Print.f; rw [word_eq, zJ, zD he, zC (by omega), zC (by omega), name_eq, zJ, hnm]; rfl) hno
    ·rw [zC rfl]
     refine Ev.congr (f := fun q => ask_Print.j0 q (wd k) false k nm tx) (fun q => by unfold ask_Print.f; rw [word_eq, zJ, zD he, zC (by omega), zC (by omega), name_eq, zJ, hnm]; rfl) ?_
     exact Ev.step (f := fun _ => some _) (fun q => by simp only [ask_Print.j0]; rw [zD Bool.false_ne_true, zD c1, zC (by omega), zC (by omega), zC (by omega)]; rfl) (Ev.now _)
   ·rw [zD c2]
    refine Ev.congr (f := fun q => ask_Print.j0 q (wd k) false k nm tx) (fun q => by unfold ask_Print.f; rw [word_eq, zJ, zD he, zC (by omega), zD (by omega)]) ?_
    exact Ev.step (f := fun _ => some _) (fun q => by simp only [ask_Print.j0]; rw [zD Bool.false_ne_true, zD c1, zD (by omega)]) (Ev.now _)
 ·rw [zD c]
  exact Ev.congr (fun q => by unfold ask_Print.f; rw [word_eq, zJ, zC (wd_empty.2 c)]) hno
theorem refprint_ev (k : Int) (nm tx : ByteArray) (hn : nm.size ≤ 1000000000) (ht : tx.size ≤ 1000000000) : Ev (fun q => cubbyref21_Print.f q k nm tx) (printA k nm tx) := by
 have hw := wd_size k
 have hs1 : (wd k ++ (⟨#[10]⟩ : ByteArray)).size = (wd k).size + 1 := ap_size _ _
 have hs2 : (wd k ++ (⟨#[32]⟩ : ByteArray)).size = (wd k).size + 1 := ap_size _ _
 unfold printA
 by_cases c : 1 ≤ k ∧ k ≤ 9
 ·have he : ¬ (wd k).toList = ([] : List UInt8) := fun h => wd_empty.1 h c
  rw [zC c]
  by_cases c1 : k = 1
  ·rw [zC c1]
   exact Ev.congr (f := fun _ => some _) (fun q => by unfold cubbyref21_Print.f; rw [refword_eq, zJ, zD he, zC c1, zC (by omega), zC (by omega)]; rfl) (Ev.now _)
  ·rw [zD c1]
   by_cases c2 : k ≤ 6
   ·rw [zC c2]
    refine Ev.congr (fun q => by unfold cubbyref21_Print.f; rw [refword_eq, zJ, zD he, zD c1, zC c2]) (Ev.bind (refname_ev nm) ?_)
    cases nameOk nm
    ·rw [zD Bool.false_ne_true]
     exact Ev.congr (f := fun _ => some _) (fun q => by rw [zD Bool.false_ne_true]) (Ev.now _)
    ·rw [zC rfl]
     exact Ev.congr (f := fun _ => some _) (fun q => by rw [zC rfl, zC (by omega), zC (by omega)]; rfl) (Ev.now _)
   ·rw [zD c2]
    exact Ev.congr (f := fun _ => some _) (fun q => by unfold cubbyref21_Print.f; rw [refword_eq, zJ, zD he, zD c1, zD c2]) (Ev.now _)
 ·rw [zD c]
  exact Ev.congr (f := fun _ => some _) (fun q => by unfold cubbyref21_Print.f; rw [refword_eq, zJ, zC (wd_empty.2 c)]) (Ev.now _)

def tailOf (k : Int) (s : ByteArray) : ByteArray := if (wd k).size < s.size then s.extract ((wd k).size + 1) s.size else ⟨#[]⟩
def nameFor (k : Int) (s : ByteArray) : ByteArray := if 2 ≤ k ∧ k ≤ 6 then tailOf k s else ⟨#[]⟩
def textFor (k : Int) (s : ByteArray) : ByteArray := if k = 1 then tailOf k s else ⟨#[]⟩
def hit (k : Int) (s : ByteArray) : Prop := (printA k (nameFor k s) (textFor k s)).2 = 0 ∧ (printA k (nameFor k s) (textFor k s)).1.toList = s.toList
instance (k : Int) (s : ByteArray) : Decidable (hit k s) := by unfold hit; infer_instance
def parseFrom (s : ByteArray) : Nat → Int → Int × ByteArray × ByteArray × Int
 | 0, _ => (0, ⟨#[]⟩, ⟨#[]⟩, 210)
 | d + 1, k => if hit k s then (k, nameFor k s, textFor k s, 0) else parseFrom s d (k + 1)
def parseA (s : ByteArray) : Int × ByteArray × ByteArray × Int := parseFrom s 9 1
theorem tail_size (k : Int) (s : ByteArray) : (tailOf k s).size ≤ s.size := by
 unfold tailOf
 split
 ·rw [ByteArray.size_extract]
  omega
 ·exact Nat.zero_le _
theorem name_size (k : Int) (s : ByteArray) : (nameFor k s).size ≤ s.size := by
 unfold nameFor
 split
 ·exact tail_size k s
 ·exact Nat.zero_le _
theorem text_size (k : Int) (s : ByteArray) : (textFor k s).size ≤ s.size := by
 unfold textFor
 split
 ·exact tail_size k s
 ·exact Nat.zero_le _
theorem refparse_loop (s : ByteArray) (hs : s.size ≤ 1000000) : ∀ (d : Nat) (k : Int), 1 ≤ k → k + d = 10 → Ev (fun q => cubbyref21_Parse.l0 q s k) (parseFrom s d k) := by
 intro d
 induction d with
 | zero =>
  intro k h1 h2
  exact Ev.step (f := fun _ => some _) (fun q => by simp only [cubbyref21_Parse.l0]; rw [zD (by omega)]; rfl) (Ev.now _)
 | succ d ih =>
  intro k h1 h2
  have hw := wd_size k
  have hnx := ih (k + 1) (by omega) (by omega)
  have hn := name_size k s
  have ht := text_size k s
  have hp := refprint_ev k (nameFor k s) (textFor k s) (by omega) (by omega)
  have hwr : wrap64 (((wd k).size : Int) + 1) = (((wd k).size + 1 : Nat) : Int) := wrap_nat (by omega)
  have hwk : wrap64 (k + 1) = k + 1 := wrap_id (by omega) (by omega)
  -- what is done with the printed text
  have hend : Ev (fun q => (cubbyref21_Print.f q k (nameFor k s) (textFor k s)).bind fun bt => if bt.2 = 0 then (if bt.1.toList = s.toList then some (k, nameFor k s, textFor k s, (0 : Int)) else cubbyref21_Parse.l0 q s (wrap64 (k + 1))) else cubbyref21_Parse.l0 q s (wrap64 (k + 1))) (parseFrom s (d + 1) k) := by
   refine Ev.bind hp ?_
   unfold parseFrom
   by_cases c0 : (printA k (nameFor k s) (textFor k s)).2 = 0
   ·by_cases c1 : (printA k (nameFor k s) (textFor k s)).1.toList = s.toList
    ·rw [zC ⟨c0, c1⟩]
     exact Ev.congr (f := fun _ => some _) (fun q => by rw [zC c0, zC c1]) (Ev.now _)
    ·rw [zD (fun h => c1 h.2)]
     exact Ev.congr (fun q => by rw [zC c0, zD c1, hwk]) hnx
   ·rw [zD (fun h => c0 h.1)]
    exact Ev.congr (fun q => by rw [zD c0, hwk]) hnx
  have hext : ∀ a : Int, a = (((wd k).size + 1 : Nat) : Int) → s.extract a.toNat s.size = s.extract ((wd k).size + 1) s.size := by
   rintro _ rfl
   rfl
  by_cases c1 : k = 1
  ·have hnm : nameFor k s = ⟨#[]⟩ := by
    unfold nameFor
    rw [zD (by omega)]
   by_cases c2 : (wd k).size < s.size
   ·have htx : textFor k s = s.extract ((wd k).size + 1) s.size := by
     unfold textFor tailOf
     rw [zC c1, zC c2]
    rw [hnm, htx] at hend
    refine Ev.step (fun q => by simp only [cubbyref21_Parse.l0]; rw [zC (by omega), refword_eq, zJ, zC c1, zF (by omega)]) ?_
    refine Ev.step (fun q => by simp only [cubbyref21_Parse.j1]; rw [zC trivial, hwr, zC (by omega), zC (by omega), Int.toNat_natCast]) ?_
    refine Ev.step (fun q => by simp only [cubbyref21_Parse.j2]; rw [zD (by omega)]) ?_
    exact Ev.step (fun q => by simp only [cubbyref21_Parse.j3]; rw [zD Bool.false_ne_true]) hend
   ·have htx : textFor k s = ⟨#[]⟩ := by
     unfold textFor tailOf
     rw [zC c1, zD c2]
    rw [hnm, htx] at hend
    refine Ev.step (fun q => by simp only [cubbyref21_Parse.l0]; rw [zC (by omega), refword_eq, zJ, zC c1, zG (by omega)]) ?_
    refine Ev.step (fun q => by simp only [cubbyref21_Parse.j1]; rw [zD Bool.false_ne_true]) ?_
    refine Ev.step (fun q => by simp only [cubbyref21_Parse.j2]; rw [zD (by omega)]) ?_
    exact Ev.step (fun q => by simp only [cubbyref21_Parse.j3]; rw [zD Bool.false_ne_true]) hend
  ·have htx : textFor k s = ⟨#[]⟩ := by
    unfold textFor
    rw [zD c1]
   refine Ev.step (fun q => by simp only [cubbyref21_Parse.l0]; rw [zC (by omega), refword_eq, zJ, zD c1]) ?_
   refine Ev.step (fun q => by simp only [cubbyref21_Parse.j1]; rw [zD Bool.false_ne_true]) ?_
   by_cases c2 : k ≤ 6
   ·refine Ev.step (fun q => by simp only [cubbyref21_Parse.j2]; rw [zC (by omega), zC c2]) ?_
    by_cases c3 : (wd k).size < s.size
    ·have hnm : nameFor k s = s.extract ((wd k).size + 1) s.size := by
      unfold nameFor tailOf
      rw [zC ⟨by omega, c2⟩, zC c3]
     rw [hnm, htx] at hend
     exact Ev.step (fun q => by simp only [cubbyref21_Parse.j3]; rw [zF (by omega), zC rfl, hwr, zC (by omega), zC (by omega), Int.toNat_natCast]) hend
    ·have hnm : nameFor k s = ⟨#[]⟩ := by
      unfold nameFor tailOf
      rw [zC ⟨by omega, c2⟩, zD c3]
     rw [hnm, htx] at hend
     exact Ev.step (fun q => by simp only [cubbyref21_Parse.j3]; rw [zG (by omega), zD Bool.false_ne_true]) hend
   ·have hnm : nameFor k s = ⟨#[]⟩ := by
     unfold nameFor
     rw [zD (by omega)]
    rw [hnm, htx] at hend
    refine Ev.step (fun q => by simp only [cubbyref21_Parse.j2]; rw [zC (by omega), zD c2]) ?_
    exact Ev.step (fun q => by simp only [cubbyref21_Parse.j3]; rw [zD Bool.false_ne_true]) hend
theorem refparse_ev (s : ByteArray) (hs : s.size ≤ 1000000) : Ev (fun q => cubbyref21_Parse.f q s) (parseA s) := refparse_loop s hs 9 1 (by omega) (by omega)
theorem ap_list (a b : ByteArray) : (a ++ b).data.toList = a.data.toList ++ b.data.toList := by
 rw [ByteArray.data_append, Array.toList_append]
theorem tl_data {a b : ByteArray} : a.toList = b.toList ↔ a.data.toList = b.data.toList := by rw [toList_data, toList_data]
theorem drop_ext (s : ByteArray) (i : Nat) : (s.extract i s.size).data.toList = s.data.toList.drop i := by
 rw [Lib.extract_data]
 exact List.take_of_length_le (by rw [List.length_drop, size_list]; omega)
theorem take_ext (s : ByteArray) (i : Nat) : (s.extract 0 i).data.toList = s.data.toList.take i := by
 rw [Lib.extract_data, List.drop_zero, Nat.sub_zero]
theorem tail_iff {k : Int} {s c : ByteArray} (hc : c.size = 1) : ((wd k ++ c) ++ tailOf k s).toList = s.toList ↔ ∃ t, s.data.toList = (wd k).data.toList ++ (c.data.toList ++ t) := by
 rw [tl_data, ap_list, ap_list, List.append_assoc]
 have hc' : c.data.toList.length = 1 := by rw [size_list]; exact hc
 constructor
 ·intro h
  exact ⟨_, h.symm⟩
 ·rintro ⟨t, ht⟩
  have hl : s.size = (wd k).size + (1 + t.length) := by
   rw [← size_list s, ht, List.length_append, List.length_append, size_list, hc']
  have : (tailOf k s).data.toList = t := by
   unfold tailOf
   rw [zC (by omega), drop_ext, ht, ← List.append_assoc, List.drop_append_of_le_length (by rw [List.length_append, hc', size_list]; omega), List.drop_eq_nil_of_le (by rw [List.length_append, hc', size_list]; omega)]
   rfl
  rw [this, ht]
theorem hit_one {s : ByteArray} : hit 1 s ↔ ∃ t, s.data.toList = (wd 1).data.toList ++ (10 :: t) := by
 unfold hit printA
 rw [zC (by omega), zC rfl]
 show (0 : Int) = 0 ∧ _ ↔ _
 have e : textFor 1 s = tailOf 1 s := by
  unfold textFor
  rw [zC rfl]
 rw [e, tail_iff (c := nl) rfl]
 simp only [true_and]
 rfl
theorem hit_name {k : Int} (h : 2 ≤ k ∧ k ≤ 6) {s : ByteArray} : hit k s ↔ ∃ t, s.data.toList = (wd k).data.toList ++ (32 :: t) ∧ nameOk (tailOf k s) = true := by
 unfold hit printA
 rw [zC (by omega), zD (by omega), zC h.2]
 have e : nameFor k s = tailOf k s := by
  unfold nameFor
  rw [zC h]
 rw [e]
 cases hn : nameOk (tailOf k s)
 ·rw [zD Bool.false_ne_true]
  simp
 ·rw [zC rfl]
  show (0 : Int) = 0 ∧ _ ↔ _
  rw [tail_iff (c := blankS) rfl]
  simp only [true_and, and_true]
  rfl
theorem hit_bare {k : Int} (h : 7 ≤ k ∧ k ≤ 9) {s : ByteArray} : hit k s ↔ s.data.toList = (wd k).data.toList := by
 unfold hit printA
 rw [zC (by omega), zD (by omega), zD (by omega)]
 show (0 : Int) = 0 ∧ _ ↔ _
 rw [tl_data]
 simp only [true_and]
 exact eq_comm
def cutB (s : ByteArray) : ByteArray × ByteArray × Bool := if blankAt s = -1 then (s, ByteArray.empty, false) else (s.extract 0 (blankAt s).toNat, s.extract ((blankAt s).toNat + 1) s.size, true)
theorem blank_cases (s : ByteArray) : (blankAt s = -1 ∧ (32 : UInt8) ∉ s.data.toList) ∨ ∃ i : Nat, blankAt s = i ∧ i < s.size ∧ s.data.toList = s.data.toList.take i ++ (32 :: s.data.toList.drop (i + 1)) ∧ (32 : UInt8) ∉ s.data.toList.take i := by
 have hge := Lib.indexByte_ge s.data.toList 32
 by_cases h : blankAt s = -1
 ·refine .inl ⟨h, fun hm => ?_⟩
  obtain ⟨i, hi⟩ := List.mem_iff_getElem?.1 hm
  exact Lib.indexByte_none h i hi
 ·obtain ⟨i, hi⟩ : ∃ i : Nat, blankAt s = i := ⟨(blankAt s).toNat, by unfold blankAt at h ⊢; omega⟩
  obtain ⟨h1, h2⟩ := Lib.indexByte_some (show Lib.indexByte s.data.toList 32 = (i : Int) from hi)
  obtain ⟨hlt, hget⟩ := List.getElem?_eq_some_iff.1 h1
  refine .inr ⟨i, hi, by rw [← size_list]; exact hlt, ?_, fun hm => ?_⟩
  ·conv => lhs; rw [← List.take_append_drop i s.data.toList, List.drop_eq_getElem_cons hlt, hget]
  ·obtain ⟨j, hj⟩ := List.mem_iff_getElem?.1 hm
   have hjl : j < i := by
    have := (List.getElem?_eq_some_iff.1 hj).1
    rw [List.length_take] at this
    omega
   rw [List.getElem?_take_of_lt hjl] at hj
   exact h2 j hjl hj
theorem cut_eq (s : ByteArray) (hs : s.size ≤ 1000000) : strings_Cut.f s (⟨#[32]⟩ : ByteArray) = some (cutB s) := by
 unfold strings_Cut.f cutB
 rw [zC ⟨rfl, by omega⟩]
 rcases blank_cases s with ⟨h, -⟩ | ⟨i, h, hlt, -, -⟩
 ·rw [zD (by omega), zC h, zC h]
 ·rw [zC (by omega), zD (by omega)]
theorem blank_split {k : Int} (hk : 1 ≤ k ∧ k ≤ 9) {s : ByteArray} {t : List UInt8} (h : s.data.toList = (wd k).data.toList ++ (32 :: t)) : blankAt s = (wd k).size ∧ s.data.toList.take (wd k).size = (wd k).data.toList ∧ s.data.toList.drop ((wd k).size + 1) = t := by
 have hn := wd_blank hk
 have e1 : s.data.toList.take (wd k).size = (wd k).data.toList := by
  rw [h, List.take_append_of_le_length (by rw [size_list]; omega), List.take_of_length_le (by rw [size_list]; omega)]
 have e2 : s.data.toList.drop ((wd k).size + 1) = t := by
  rw [h, show (wd k).data.toList ++ (32 :: t) = ((wd k).data.toList ++ [32]) ++ t by simp, List.drop_append_of_le_length (by rw [List.length_append, size_list, List.length_singleton]; omega), List.drop_eq_nil_of_le (by rw [List.length_append, size_list, List.length_singleton]; omega)]
  rfl
 refine ⟨?_, e1, e2⟩
 have hat : s.data.toList[(wd k).size]? = some 32 := by
  rw [h, List.getElem?_append_right (by rw [size_list]; omega), size_list, Nat.sub_self]
  rfl
 rcases blank_cases s with ⟨h1, h2⟩ | ⟨i, h1, h2, h3, h4⟩
 ·exact absurd (List.mem_of_getElem? hat) h2
 ·have hi : s.data.toList[i]? = some 32 := by
   rw [h3, List.getElem?_append_right (by rw [List.length_take, size_list]; omega), List.length_take, size_list, Nat.min_eq_left (by omega), Nat.sub_self]
   rfl
  have a1 : ¬ i < (wd k).size := by
   intro hlt
   rw [h, List.getElem?_append_left (by rw [size_list]; exact hlt)] at hi
   exact hn (List.mem_of_getElem? hi)
  have a2 : ¬ (wd k).size < i := by
   intro hlt
   apply h4
   have : (s.data.toList.take i)[(wd k).size]? = some 32 := by rw [List.getElem?_take_of_lt hlt]; exact hat
   exact List.mem_of_getElem? this
  omega
def askB (k : Int) (s : ByteArray) : Prop := (wd k).toList = (cutB s).1.toList ∧ (cutB s).2.2 = decide (k < 7) ∧ ((cutB s).2.2 = true → nameOk (cutB s).2.1 = true)
theorem ask_hit {k : Int} (hk : 2 ≤ k ∧ k ≤ 9) (s : ByteArray) : (askB k s ↔ hit k s) ∧ (hit k s → (cutB s).2.1.toList = (nameFor k s).toList ∧ (textFor k s) = ⟨#[]⟩) := by
 have ht : textFor k s = ⟨#[]⟩ := by
  unfold textFor
  rw [zD (by omega)]
 by_cases h6 : k ≤ 6
 ·have hnf : nameFor k s = tailOf k s := by
   unfold nameFor
   rw [zC ⟨hk.1, h6⟩]
  rw [hit_name ⟨hk.1, h6⟩, hnf]
  unfold askB
  rw [zF (by omega)]
  have key : ∀ t, s.data.toList = (wd k).data.toList ++ (32 :: t) → cutB s = (s.extract 0 (wd k).size, s.extract ((wd k).size + 1) s.size, true) ∧ s.extract ((wd k).size + 1) s.size = tailOf k s := by
   intro t hst
   obtain ⟨b1, b2, b3⟩ := blank_split ⟨by omega, hk.2⟩ hst
   refine ⟨?_, ?_⟩
   ·unfold cutB
    rw [zD (by omega), b1, Int.toNat_natCast]
   ·unfold tailOf
    rw [zC (by rw [← size_list s, hst, List.length_append, size_list, List.length_cons]; omega)]
  refine ⟨⟨?_, ?_⟩, ?_⟩
  ·rintro ⟨h1, h2, h3⟩
   rcases blank_cases s with ⟨g, -⟩ | ⟨i, g, glt, g3, g4⟩
   ·unfold cutB at h2
    rw [zC g] at h2
    exact absurd h2 (by simp)
   ·have hc : cutB s = (s.extract 0 i, s.extract (i + 1) s.size, true) := by
     unfold cutB
     rw [zD (by omega), g, Int.toNat_natCast]
    rw [hc] at h1 h3
    have h1' : (wd k).data.toList = s.data.toList.take i := by
     rw [tl_data, take_ext] at h1
     exact h1
    have hst : s.data.toList = (wd k).data.toList ++ (32 :: s.data.toList.drop (i + 1)) := by rw [h1']; exact g3
    refine ⟨_, hst, ?_⟩
    have hi : i = (wd k).size := by
     have := congrArg List.length h1'
     rw [List.length_take, size_list, size_list] at this
     omega
    rw [← (key _ hst).2, ← hi]
    exact h3 rfl
  ·rintro ⟨t, hst, hn⟩
   obtain ⟨k1, k2⟩ := key t hst
   rw [k1]
   refine ⟨?_, rfl, fun _ => ?_⟩
   ·rw [tl_data, take_ext]
    exact (blank_split ⟨by omega, hk.2⟩ hst).2.1.symm
   ·show nameOk (s.extract ((wd k).size + 1) s.size) = true
    rw [k2]
    exact hn
  ·rintro ⟨t, hst, hn⟩
   obtain ⟨k1, k2⟩ := key t hst
   rw [k1]
   refine ⟨?_, ht⟩
   show (s.extract ((wd k).size + 1) s.size).toList = _
   rw [k2]
 ·have hnf : nameFor k s = ⟨#[]⟩ := by
   unfold nameFor
   rw [zD (by omega)]
  rw [hit_bare ⟨by omega, hk.2⟩, hnf]
  unfold askB
  rw [zG (by omega)]
  rcases blank_cases s with ⟨g, g2⟩ | ⟨i, g, glt, g3, g4⟩
  ·have hc : cutB s = (s, ByteArray.empty, false) := by
    unfold cutB
    rw [zC g]
   rw [hc]
   refine ⟨⟨fun h => ?_, fun h => ⟨?_, rfl, fun h => absurd h (by simp)⟩⟩, fun _ => ⟨rfl, ht⟩⟩
   ·have := h.1
    rw [tl_data] at this
    exact this.symm
   ·rw [tl_data]
    exact h.symm
  ·have hc : cutB s = (s.extract 0 i, s.extract (i + 1) s.size, true) := by
    unfold cutB
    rw [zD (by omega), g, Int.toNat_natCast]
   have hno : ¬ s.data.toList = (wd k).data.toList := by
    intro h
    apply wd_blank (k := k) ⟨by omega, hk.2⟩
    rw [← h, g3]
    simp
   rw [hc]
   refine ⟨⟨fun h => absurd h.2.1 (by simp), fun h => absurd h hno⟩, fun h => absurd h hno⟩
def Same4 (a b : Int × ByteArray × ByteArray × Int) : Prop := a.1 = b.1 ∧ a.2.1.toList = b.2.1.toList ∧ a.2.2.1.toList = b.2.2.1.toList ∧ a.2.2.2 = b.2.2.2
theorem parse_loop (s : ByteArray) : ∀ (d : Nat) (k : Int), 2 ≤ k → k + d = 10 → ∃ r, Same4 r (parseFrom s d k) ∧ Ev (fun q => ask_Parse.l0 q (cutB s).1 (cutB s).2.1 (cutB s).2.2 k) r := by
 intro d
 induction d with
 | zero =>
  intro k h1 h2
  exact ⟨_, ⟨rfl, rfl, rfl, rfl⟩, Ev.step (f := fun _ => some _) (fun q => by simp only [ask_Parse.l0]; rw [zD (by omega)]; rfl) (Ev.now _)⟩
 | succ d ih =>
  intro k h1 h2
  obtain ⟨r, hr, hE⟩ := ih (k + 1) (by omega) (by omega)
  have hwk : wrap64 (k + 1) = k + 1 := wrap_id (by omega) (by omega)
  obtain ⟨hi, hsame⟩ := ask_hit (k := k) ⟨h1, by omega⟩ s
  unfold parseFrom
  by_cases hh : hit k s
  ·rw [zC hh]
   obtain ⟨q1, q2, q3⟩ := hi.2 hh
   obtain ⟨s1, s2⟩ := hsame hh
   refine ⟨(k, (cutB s).2.1, (⟨#[]⟩ : ByteArray), 0), ⟨rfl, s1, by rw [s2], rfl⟩, Ev.step (f := fun _ => some _) (fun q => ?_) (Ev.now _)⟩
   simp only [ask_Parse.l0]
   rw [zC (by omega), word_eq, zJ, zC q1, zC (by rw [q2]; simp)]
   by_cases c : (cutB s).2.2 = true
   ·rw [zC c, name_eq, zJ, zC (q3 c)]
   ·rw [zD c]
  ·rw [zD hh]
   refine ⟨r, hr, Ev.step (fun q => ?_) hE⟩
   have hno : ¬ askB k s := fun h => hh (hi.1 h)
   simp only [ask_Parse.l0]
   rw [zC (by omega), word_eq, zJ, hwk]
   by_cases c1 : (wd k).toList = (cutB s).1.toList
   ·rw [zC c1]
    by_cases c2 : (cutB s).2.2 = decide (k < 7)
    ·rw [zC (by rw [c2]; simp)]
     by_cases c3 : (cutB s).2.2 = true
     ·rw [zC c3, name_eq, zJ, zD (fun h => hno ⟨c1, c2, fun _ => h⟩)]
     ·exact absurd ⟨c1, c2, fun h => absurd h c3⟩ hno
    ·rw [zD (by simpa using c2)]
   ·rw [zD c1]
theorem prefix_eq (s p : ByteArray) : strings_CutPrefix.f s p = some (if s.data.toList.take p.size = p.data.toList then (s.extract p.size s.size, true) else (s, false)) := by
 unfold strings_CutPrefix.f stringslite_CutPrefix.f stringslite_HasPrefix.f
 by_cases c : (s.size : Int) ≥ (p.size : Int)
 ·have e : ((s.extract 0 ((p.size : Int)).toNat).toList == p.toList) = decide (s.data.toList.take p.size = p.data.toList) := by
   rw [Bool.eq_iff_iff, beq_iff_eq, decide_eq_true_iff, tl_data, Int.toNat_natCast, take_ext]
  rw [zC c, zC (by omega), zC c, e, zJ]
  by_cases c1 : s.data.toList.take p.size = p.data.toList
  ·rw [zF c1, zC rfl, zC c1, zC (by omega), zC c, zJ, Int.toNat_natCast]
  ·rw [zG c1, zD Bool.false_ne_true, zD c1, zJ]
 ·have c1 : ¬ s.data.toList.take p.size = p.data.toList := by
   intro h
   have := congrArg List.length h
   rw [List.length_take, size_list, size_list] at this
   omega
  rw [zD c, zJ, zD Bool.false_ne_true, zD c1, zJ]
theorem parse_ev (s : ByteArray) (hs : s.size ≤ 1000000) : ∃ r, Same4 r (parseA s) ∧ Ev (fun q => ask_Parse.f q s) r := by
 have hp := prefix_eq s (⟨#[115, 117, 98, 109, 105, 116, 10]⟩ : ByteArray)
 have hw : (wd 1).size = 6 := rfl
 have hwl : (wd 1).data.toList ++ [10] = (⟨#[115, 117, 98, 109, 105, 116, 10]⟩ : ByteArray).data.toList := rfl
 unfold parseA parseFrom
 by_cases h : hit 1 s
 ·rw [zC h]
  obtain ⟨t, ht⟩ := hit_one.1 h
  have e1 : s.data.toList.take (⟨#[115, 117, 98, 109, 105, 116, 10]⟩ : ByteArray).size = (⟨#[115, 117, 98, 109, 105, 116, 10]⟩ : ByteArray).data.toList := by
   rw [ht, show (wd 1).data.toList ++ (10 :: t) = ((wd 1).data.toList ++ [10]) ++ t by simp, hwl, List.take_append_of_le_length (by rw [size_list]; omega), List.take_of_length_le (by rw [size_list]; omega)]
  rw [zC e1] at hp
  have e2 : textFor 1 s = s.extract 7 s.size := by
   unfold textFor tailOf
   rw [zC rfl, hw, zC (by rw [← size_list s, ht, List.length_append, size_list, List.length_cons, hw]; omega)]
  refine ⟨(1, (⟨#[]⟩ : ByteArray), s.extract 7 s.size, 0), ⟨rfl, ?_, by rw [e2], rfl⟩, Ev.congr (f := fun _ => some _) (fun q => by unfold ask_Parse.f; rw [hp, zJ, zC rfl]; rfl) (Ev.now _)⟩
  show _ = (nameFor 1 s).toList
  unfold nameFor
  rw [zD (by omega)]
 ·rw [zD h]
  have e1 : ¬ s.data.toList.take (⟨#[115, 117, 98, 109, 105, 116, 10]⟩ : ByteArray).size = (⟨#[115, 117, 98, 109, 105, 116, 10]⟩ : ByteArray).data.toList := by
   intro hc
   apply h
   apply hit_one.2
   refine ⟨s.data.toList.drop 7, ?_⟩
   have := List.take_append_drop 7 s.data.toList
   rw [show (7 : Nat) = (⟨#[115, 117, 98, 109, 105, 116, 10]⟩ : ByteArray).size from rfl, hc, ← hwl, List.append_assoc] at this
   exact this.symm
  rw [zD e1] at hp
  obtain ⟨r, hr, hE⟩ := parse_loop s 8 2 (by omega) (by omega)
  exact ⟨r, hr, Ev.congr (fun q => by unfold ask_Parse.f; rw [hp, zJ, zD Bool.false_ne_true, cut_eq s hs, zJ]) hE⟩
end Go.Proofs.YtmojmnhaabonpaaDoor.PlainAsk
namespace Go.Proofs.YtmojmnhaabonpaaDoor.PlainNum
open Go Go.RowKit Go.Proofs.YtmojmnhaabonpaaDoorW.PrintWords Go.Proofs.YtmojmnhaabonpaaDoorW.PrintMore Go.Proofs.YtmojmnhaabonpaaDoor.Q Go.Proofs.YtmojmnhaabonpaaDoor.Plain
set_option linter.unusedVariables false
theorem dec_small {u : Nat} (h : u < 10) : Lib.decDigits u = [UInt8.ofNat (48 + u)] := Lib.decDigits_one h
theorem dec_big {u : Nat} (h : ¬ u < 10) : Lib.decDigits u = Lib.decDigits (u / 10) ++ [UInt8.ofNat (48 + u % 10)] := by rw [Lib.decDigits, dif_neg h]
theorem digit_nat {d : Nat} (h : d < 10) : (UInt8.ofNat (48 + d)).toNat = 48 + d := by simp; omega
theorem dec_mem : ∀ (u : Nat), ∀ b ∈ Lib.decDigits u, 48 ≤ b.toNat ∧ b.toNat ≤ 57 := by
 intro u
 induction u using Nat.strongRecOn with
 | _ u ih =>
  by_cases h : u < 10
  ·rw [dec_small h]; intro b hb; rw [List.mem_singleton.1 hb, digit_nat h]; omega
  ·rw [dec_big h]; intro b hb
   rcases List.mem_append.1 hb with hb | hb
   ·exact ih (u / 10) (by omega) b hb
   ·rw [List.mem_singleton.1 hb, digit_nat (by omega)]; omega
theorem dec_ne (u : Nat) : Lib.decDigits u ≠ [] := by
 by_cases h : u < 10
 ·rw [dec_small h]; simp
 ·rw [dec_big h]; simp
theorem dec_head (u : Nat) (b : UInt8) (l : List UInt8) (h : Lib.decDigits u = b :: l) (h0 : b.toNat = 48) : l = [] := by
 have : ∀ (u : Nat), ∀ b l, Lib.decDigits u = b :: l → 0 < u → b.toNat ≠ 48 := by
  intro u
  induction u using Nat.strongRecOn with
  | _ u ih =>
   intro b l h hu
   by_cases h1 : u < 10
   ·rw [dec_small h1] at h; simp only [List.cons.injEq] at h; rw [← h.1, digit_nat h1]; omega
   ·rw [dec_big h1] at h
    cases hd : Lib.decDigits (u / 10) with
    | nil => exact absurd hd (dec_ne _)
    | cons c r =>
     rw [hd] at h
     simp only [List.cons_append, List.cons.injEq] at h
     rw [← h.1]
     exact ih (u / 10) (by omega) c r hd (by omega)
 by_cases hu : 0 < u
 ·exact absurd h0 (this u b l h hu)
 ·obtain rfl : u = 0 := by omega
  rw [dec_small (by omega)] at h
  simp only [List.cons.injEq] at h
  exact h.2.symm
theorem dec_len : ∀ (k u : Nat), u < 10 ^ (k + 1) → (Lib.decDigits u).length ≤ k + 1
 | 0, u, h => by rw [dec_small (by simpa using h)]; simp
 | k + 1, u, h => by
  by_cases h1 : u < 10
  ·rw [dec_small h1]; simp
  ·have := dec_len k (u / 10) (by rw [Nat.pow_succ] at h; omega)
   rw [dec_big h1]; simp; omega
theorem from_snoc : ∀ (l : List UInt8) (acc n : Nat) (d : Nat), Lib.decFrom acc l = some n → d < 10 → Lib.decFrom acc (l ++ [UInt8.ofNat (48 + d)]) = some (n * 10 + d)
 | [], acc, n, d, h, hd => by
  simp only [Lib.decFrom, Option.some.injEq] at h
  subst h
  have : Lib.digitVal (UInt8.ofNat (48 + d)) = some d := by unfold Lib.digitVal; rw [digit_nat hd, zC (by omega)]; congr 1; omega
  simp only [List.nil_append, Lib.decFrom, this]
 | b :: l, acc, n, d, h, hd => by
  simp only [List.cons_append, Lib.decFrom] at h ⊢
  cases hv : Lib.digitVal b with
  | none => rw [hv] at h; simp at h
  | some v => rw [hv] at h; simp only at h ⊢; exact from_snoc l _ n d h hd
theorem dec_val : ∀ (u : Nat), Lib.decFrom 0 (Lib.decDigits u) = some u := by
 intro u
 induction u using Nat.strongRecOn with
 | _ u ih =>
  by_cases h : u < 10
  ·rw [dec_small h]; have := from_snoc [] 0 0 u rfl h; simpa using this
  ·rw [dec_big h, from_snoc _ 0 _ (u % 10) (ih (u / 10) (by omega)) (by omega)]; congr 1; omega
theorem dec_atoi {u : Nat} (h : u < 10000000000) : Lib.atoiAll (Lib.decDigits u) = .ok (u : Int) := by
 have hl := dec_len 9 u (by simpa using h)
 rw [Lib.atoiAll_short _ (by omega)]
 have hv := dec_val u
 have hm := dec_mem u
 cases hd : Lib.decDigits u with
 | nil => exact absurd hd (dec_ne u)
 | cons b r =>
  rw [hd] at hv hm
  have hb := hm b List.mem_cons_self
  have e1 : (b == 45) = false := by rw [beq_eq_false_iff_ne]; intro e; subst e; simp at hb
  have e2 : (b == 43) = false := by rw [beq_eq_false_iff_ne]; intro e; subst e; simp at hb
  unfold Lib.atoi
  simp only [e1, e2, Bool.false_eq_true, if_false, Lib.decNat, List.isEmpty_cons, hv, Option.map_some, Lib.NumEnd.ofOption]
def num (n : Int) : ByteArray := ⟨(Lib.decDigits n.toNat).toArray⟩
theorem num_list (n : Int) : (num n).data.toList = Lib.decDigits n.toNat := by simp [num]
theorem itoa_num {n : Int} (h : 0 ≤ n) : (⟨(Lib.itoa n).toArray⟩ : ByteArray) = num n := by
 unfold num Lib.itoa
 rw [zD (by omega)]
theorem numOf_num {n : Int} (h0 : 0 ≤ n) (h1 : n < 2147483648) : numOf (num n) = some n := by
 have h := dec_atoi (u := n.toNat) (by omega)
 rw [← num_list, Int.toNat_of_nonneg h0] at h
 rw [numOf_ok h, zC ⟨h0, h1, itoa_num h0⟩]
theorem numOf_some {t : ByteArray} {v : Int} (h : numOf t = some v) : 0 ≤ v ∧ v < 2147483648 ∧ t = num v := by
 unfold numOf at h
 split at h
 ·split at h
  ·rename_i hc
   obtain rfl := zI h
   exact ⟨hc.1, hc.2.1, by rw [← hc.2.2, itoa_num hc.1]⟩
  ·cases h
 ·cases h
theorem num_size {n : Int} (h1 : n < 2147483648) : (num n).size ≤ 10 := by
 have := dec_len 9 n.toNat (by have e10 : (10 : Nat) ^ (9 + 1) = 10000000000 := (by decide); omega)
 show (num n).data.size ≤ 10
 rw [← Array.length_toList, num_list]
 exact this
def tens : ByteArray := ⟨#[48, 49, 50, 51, 52, 53, 54, 55, 56, 57]⟩
theorem tens_at {d : Nat} (h : d < 10) : (tens.extract d (d + 1)).data.toList = [UInt8.ofNat (48 + d)] := by
 have : d = 0 ∨ d = 1 ∨ d = 2 ∨ d = 3 ∨ d = 4 ∨ d = 5 ∨ d = 6 ∨ d = 7 ∨ d = 8 ∨ d = 9 := by omega
 rcases this with rfl | rfl | rfl | rfl | rfl | rfl | rfl | rfl | rfl | rfl <;> rfl
theorem tens_size {d : Nat} (h : d < 10) : ((⟨#[48, 49, 50, 51, 52, 53, 54, 55, 56, 57]⟩ : ByteArray).extract d (d + 1)).size = 1 := by
 show (tens.extract d (d + 1)).data.size = 1
 rw [← Array.length_toList, tens_at h]; rfl
theorem ba_ext {a b : ByteArray} (h : a.data.toList = b.data.toList) : a = b := toList_inj.1 (by rw [toList_data, toList_data, h])
theorem digits_loop : ∀ (d : Nat) (n : Nat) (acc : ByteArray), n < 10 ^ (d + 1) → n ≤ 4611686018427387904 → acc.size + d ≤ 1000 → Ev (fun k => cubbyref08_Digits.l0 k (n : Int) acc) (⟨(Lib.decDigits n ++ acc.data.toList).toArray⟩ : ByteArray)
 | d, n, acc, hn, hb, ha => by
  by_cases h : n < 10
  ·refine ⟨1, fun k hk => ?_⟩
   obtain ⟨q, rfl⟩ : ∃ q, k = q + 1 := ⟨k - 1, by omega⟩
   simp only [cubbyref08_Digits.l0]
   have e1 : wrap64 ((n : Int) + 1) = ((n + 1 : Nat) : Int) := wrap_nat (by omega)
   rw [zD (by omega), zC (by omega), e1, zC (by omega), zC (by omega), Int.toNat_natCast, Int.toNat_natCast]
   have e2 := tens_size h
   rw [zC (by rw [e2]; omega)]
   congr 1
   refine ba_ext ?_
   rw [ByteArray.data_append, Array.toList_append, dec_small h]
   rw [show ((⟨#[48, 49, 50, 51, 52, 53, 54, 55, 56, 57]⟩ : ByteArray).extract n (n + 1)).data.toList = [UInt8.ofNat (48 + n)] from tens_at h]
  ·cases d with
   | zero => simp at hn; omega
   | succ d =>
    have hq : n / 10 < 10 ^ (d + 1) := by rw [Nat.pow_succ] at hn; omega
    have hm : n % 10 < 10 := by omega
    have e2 := tens_size hm
    have e0 : Int.tmod (n : Int) 10 = ((n % 10 : Nat) : Int) := by rw [Int.tmod_eq_emod_of_nonneg (by omega)]; omega
    have e1 : wrap64 (((n % 10 : Nat) : Int) + 1) = ((n % 10 + 1 : Nat) : Int) := wrap_nat (by omega)
    have e3 : wrap64 (Int.tdiv (n : Int) 10) = ((n / 10 : Nat) : Int) := by rw [Int.tdiv_eq_ediv_of_nonneg (by omega), wrap_id (by omega) (by omega)]; omega
    have ih := digits_loop d (n / 10) ((⟨#[48, 49, 50, 51, 52, 53, 54, 55, 56, 57]⟩ : ByteArray).extract (n % 10) (n % 10 + 1) ++ acc) hq (by omega) (by rw [ByteArray.size_append, e2]; omega)
    have e4 : (Lib.decDigits (n / 10) ++ ((⟨#[48, 49, 50, 51, 52, 53, 54, 55, 56, 57]⟩ : ByteArray).extract (n % 10) (n % 10 + 1) ++ acc).data.toList) = Lib.decDigits n ++ acc.data.toList := by
     rw [ByteArray.data_append, Array.toList_append, dec_big h, List.append_assoc, show ((⟨#[48, 49, 50, 51, 52, 53, 54, 55, 56, 57]⟩ : ByteArray).extract (n % 10) (n % 10 + 1)).data.toList = [UInt8.ofNat (48 + n % 10)] from tens_at hm]
    rw [e4] at ih
    refine Ev.step (fun k => ?_) ih
    simp only [cubbyref08_Digits.l0]
    rw [zC (by omega), e0, zC (by omega), e1, zC (by omega), zC (by omega), Int.toNat_natCast, Int.toNat_natCast, zC (by rw [e2]; omega), e3]
theorem digits_ev {n : Int} (h0 : 0 ≤ n) (h1 : n < 2147483648) : Ev (fun k => cubbyref08_Digits.f k n) (num n) := by
 obtain ⟨m, rfl⟩ : ∃ m : Nat, n = m := ⟨n.toNat, by omega⟩
 have h := digits_loop 9 m ⟨#[]⟩ (by have e10 : (10 : Nat) ^ (9 + 1) = 10000000000 := (by decide); omega) (by omega) (by decide)
 simp only [List.append_nil] at h
 exact h
theorem bt_get {s : ByteArray} {j : Nat} (h : j < s.data.toList.length) : bt s (j : Int) = ((s.data.toList[j]).toNat : Int) := by
 have hs : j < s.size := by simpa using h
 unfold bt
 rw [dif_pos (by simpa using hs)]
 simp
 rfl
theorem number_loop (s : ByteArray) (hs : s.size ≤ 10) (hd : ∀ b ∈ s.data.toList, 48 ≤ b.toNat ∧ b.toNat ≤ 57) : ∀ (d j acc v : Nat), s.data.toList.length - j = d → j ≤ s.data.toList.length → acc < 10 ^ j → Lib.decFrom acc (s.data.toList.drop j) = some v →
 Ev (fun k => cubbyref08_Number.l0 k s (acc : Int) (j : Int)) ((v : Int), decide ((v : Int) ≤ 2147483647)) := by
 have hsl : s.data.toList.length = s.size := by simp
 intro d
 induction d with
 | zero =>
  intro j acc v hj hjl ha hv
  rw [List.drop_eq_nil_of_le (by omega)] at hv
  simp only [Lib.decFrom, Option.some.injEq] at hv
  subst hv
  refine ⟨1, fun k hk => ?_⟩
  obtain ⟨q, rfl⟩ : ∃ q, k = q + 1 := ⟨k - 1, by omega⟩
  simp only [cubbyref08_Number.l0]
  rw [zD (by omega)]
 | succ d ih =>
  intro j acc v hj hjl ha hv
  have hlt : j < s.data.toList.length := by omega
  rw [List.drop_eq_getElem_cons hlt] at hv
  have hb := hd _ (List.getElem_mem hlt)
  have hbt := bt_get hlt
  generalize s.data.toList[j] = b at hv hb hbt
  have hdv : Lib.digitVal b = some (b.toNat - 48) := by unfold Lib.digitVal; rw [zC hb]
  simp only [Lib.decFrom, hdv] at hv
  have h10 : (10 : Nat) ^ (j + 1) ≤ 10 ^ 10 := Nat.pow_le_pow_right (by decide) (by omega)
  have h10' : (10 : Nat) ^ 10 = 10000000000 := by decide
  have ha2 : acc * 10 + (b.toNat - 48) < 10 ^ (j + 1) := by rw [Nat.pow_succ]; omega
  refine Ev.step (fun k => ?_) (ih (j + 1) (acc * 10 + (b.toNat - 48)) v (by omega) (by omega) ha2 hv)
  simp only [cubbyref08_Number.l0]
  have ha3 : acc * 10 < 10000000000 := by omega
  rw [zC (by omega), zC (by omega), hbt, zD (by omega), zD (by omega), wrap_nat (by omega), wrap_id (i := (acc : Int) * 10) (by omega) (by omega), show ((b.toNat : Int) - 48) % 256 = ((b.toNat - 48 : Nat) : Int) by omega, wrap_id (by omega) (by omega)]
  rfl
theorem number_num {n : Int} (h0 : 0 ≤ n) (h1 : n < 2147483648) : Ev (fun k => cubbyref08_Number.f k (num n)) (n, true) := by
 obtain ⟨m, rfl⟩ : ∃ m : Nat, n = m := ⟨n.toNat, by omega⟩
 have hsz := num_size h1
 have hl := num_list (m : Int)
 rw [Int.toNat_natCast] at hl
 have hne := dec_ne m
 have hpos : 0 < (num (m : Int)).size := by
  rw [← hl] at hne
  have := List.length_pos_iff.2 hne
  simpa using this
 have h := number_loop (num m) hsz (by rw [hl]; exact dec_mem m) _ 0 0 m rfl (by omega) (by simp) (by rw [List.drop_zero, hl]; exact dec_val m)
 rw [show (decide ((m : Int) ≤ 2147483647)) = true from zF (by omega)] at h
 have hb0 : bt (num (m : Int)) 0 = 48 → ¬ ((num (m : Int)).size : Int) > 1 := by
  intro hb
  have hlt : 0 < (num (m : Int)).data.toList.length := by simpa using hpos
  have hg := bt_get hlt
  cases hd : Lib.decDigits m with
  | nil => exact absurd hd (dec_ne m)
  | cons b r =>
   have e : (num (m : Int)).data.toList[0] = b := by simp only [hl, hd, List.getElem_cons_zero]
   rw [e] at hg
   have hr := dec_head m b r hd (by have : bt (num (m : Int)) ((0 : Nat) : Int) = 48 := hb; omega)
   have : (num (m : Int)).data.toList.length = 1 := by rw [hl, hd, hr]; rfl
   have : (num (m : Int)).size = 1 := by simpa using this
   omega
 refine Ev.congr (f := fun k => cubbyref08_Number.j0 k (num m) false) (fun k => ?_) (Ev.step (fun k => ?_) h)
 ·unfold cubbyref08_Number.f
  rw [zD (by omega), zD (by omega), zC (by omega)]
  by_cases hb : bt (num (m : Int)) 0 = 48
  ·rw [zC hb, zG (hb0 hb)]
  ·rw [zD hb]
 ·simp only [cubbyref08_Number.j0]
  rw [zD (by simp)]
  rfl
theorem number_end (s : ByteArray) (hs : s.size ≤ 10) : ∀ (d j acc : Nat), s.data.toList.length - j = d → j ≤ s.data.toList.length → acc < 10 ^ j →
 ∃ r : Int × Bool, Ev (fun k => cubbyref08_Number.l0 k s (acc : Int) (j : Int)) r ∧ (r.2 = true → 0 ≤ r.1 ∧ r.1 < 2147483648) := by
 have hsl : s.data.toList.length = s.size := by simp
 intro d
 induction d with
 | zero =>
  intro j acc hj hjl ha
  refine ⟨((acc : Int), decide ((acc : Int) ≤ 2147483647)), ⟨1, fun k hk => ?_⟩, fun h => ?_⟩
  ·obtain ⟨q, rfl⟩ : ∃ q, k = q + 1 := ⟨k - 1, by omega⟩
   simp only [cubbyref08_Number.l0]
   rw [zD (by omega)]
  ·have := zB h
   simp only
   omega
 | succ d ih =>
  intro j acc hj hjl ha
  have hlt : j < s.data.toList.length := by omega
  have hbt := bt_get hlt
  generalize s.data.toList[j] = b at hbt
  have stop : (b.toNat : Int) < 48 ∨ (b.toNat : Int) > 57 → ∃ r : Int × Bool, Ev (fun k => cubbyref08_Number.l0 k s (acc : Int) (j : Int)) r ∧ (r.2 = true → 0 ≤ r.1 ∧ r.1 < 2147483648) := fun hc => by
   refine ⟨(0, false), ⟨1, fun k hk => ?_⟩, fun h => by cases h⟩
   obtain ⟨q, rfl⟩ : ∃ q, k = q + 1 := ⟨k - 1, by omega⟩
   simp only [cubbyref08_Number.l0]
   rw [zC (by omega), zC (by omega), hbt]
   rcases hc with hc | hc
   ·rw [zC hc]
   ·by_cases h1 : (b.toNat : Int) < 48
    ·rw [zC h1]
    ·rw [zD h1, zC hc]
  by_cases h1 : (b.toNat : Int) < 48
  ·exact stop (.inl h1)
  by_cases h2 : (b.toNat : Int) > 57
  ·exact stop (.inr h2)
  have h10 : (10 : Nat) ^ (j + 1) ≤ 10 ^ 10 := Nat.pow_le_pow_right (by decide) (by omega)
  have h10' : (10 : Nat) ^ 10 = 10000000000 := by decide
  have ha2 : acc * 10 + (b.toNat - 48) < 10 ^ (j + 1) := by rw [Nat.pow_succ]; omega
  obtain ⟨r, hr, hr2⟩ := ih (j + 1) (acc * 10 + (b.toNat - 48)) (by omega) (by omega) ha2
  refine ⟨r, Ev.step (fun k => ?_) hr, hr2⟩
  simp only [cubbyref08_Number.l0]
  have ha3 : acc * 10 < 10000000000 := by omega
  rw [zC (by omega), zC (by omega), hbt, zD h1, zD h2, wrap_nat (by omega), wrap_id (i := (acc : Int) * 10) (by omega) (by omega), show ((b.toNat : Int) - 48) % 256 = ((b.toNat - 48 : Nat) : Int) by omega, wrap_id (by omega) (by omega)]
  rfl
theorem number_total (s : ByteArray) : ∃ r : Int × Bool, Ev (fun k => cubbyref08_Number.f k s) r ∧ (r.2 = true → 0 ≤ r.1 ∧ r.1 < 2147483648) := by
 have no : ∀ (g : Nat → Option (Int × Bool)), (∀ k, g k = cubbyref08_Number.j0 k s true) → ∃ r : Int × Bool, Ev g r ∧ (r.2 = true → 0 ≤ r.1 ∧ r.1 < 2147483648) := fun g hg =>
  ⟨(0, false), ⟨1, fun k hk => by obtain ⟨q, rfl⟩ : ∃ q, k = q + 1 := ⟨k - 1, by omega⟩; rw [hg]; simp only [cubbyref08_Number.j0]; rw [zC trivial]⟩, fun h => by cases h⟩
 by_cases h1 : (s.size : Int) < 1
 ·exact no _ (fun k => by unfold cubbyref08_Number.f; rw [zC h1])
 by_cases h2 : (s.size : Int) > 10
 ·exact no _ (fun k => by unfold cubbyref08_Number.f; rw [zD h1, zC h2])
 obtain ⟨r, hr, hr2⟩ := number_end s (by omega) _ 0 0 rfl (by omega) (by simp)
 have go : ∀ (g : Nat → Option (Int × Bool)), (∀ k, g k = cubbyref08_Number.j0 k s false) → ∃ r : Int × Bool, Ev g r ∧ (r.2 = true → 0 ≤ r.1 ∧ r.1 < 2147483648) := fun g hg =>
  ⟨r, Ev.congr (f := fun k => cubbyref08_Number.j0 k s false) hg (Ev.step (fun k => by simp only [cubbyref08_Number.j0]; rw [zD (by simp)]; rfl) hr), hr2⟩
 by_cases hb : bt s 0 = 48
 ·by_cases h3 : (s.size : Int) > 1
  ·exact no _ (fun k => by unfold cubbyref08_Number.f; rw [zD h1, zD h2, zC (by omega), zC hb, zF h3])
  ·exact go _ (fun k => by unfold cubbyref08_Number.f; rw [zD h1, zD h2, zC (by omega), zC hb, zG h3])
 ·exact go _ (fun k => by unfold cubbyref08_Number.f; rw [zD h1, zD h2, zC (by omega), zD hb])
def wordsL : List UInt8 → List (List UInt8)
 | [] => [[]]
 | b :: l => if b = 32 then [] :: wordsL l else match wordsL l with
  | w :: r => (b :: w) :: r
  | [] => [[b]]
theorem wordsL_ne : ∀ l, wordsL l ≠ []
 | [] => by simp [wordsL]
 | b :: l => by
  unfold wordsL
  split
  ·simp
  ·split <;> simp
theorem wordsL_one : ∀ {a : List UInt8}, (32 : UInt8) ∉ a → wordsL a = [a]
 | [], _ => rfl
 | b :: a, h => by
  have h1 : ¬ b = 32 := fun e => h (by rw [e]; exact List.mem_cons_self)
  unfold wordsL
  rw [zD h1, wordsL_one (fun hm => h (List.mem_cons_of_mem _ hm))]
theorem wordsL_cons : ∀ {a : List UInt8} (b : List UInt8), (32 : UInt8) ∉ a → wordsL (a ++ 32 :: b) = a :: wordsL b
 | [], b, _ => by simp [wordsL]
 | c :: a, b, h => by
  have h1 : ¬ c = 32 := fun e => h (by rw [e]; exact List.mem_cons_self)
  simp only [List.cons_append, wordsL, zD h1, wordsL_cons b (fun hm => h (List.mem_cons_of_mem _ hm))]
def unw : List (List UInt8) → List UInt8
 | [] => []
 | [w] => w
 | w :: v :: r => w ++ 32 :: unw (v :: r)
theorem unw_words : ∀ l, unw (wordsL l) = l
 | [] => rfl
 | b :: l => by
  have ih := unw_words l
  have hne := wordsL_ne l
  unfold wordsL
  split
  ·rename_i h
   cases hw : wordsL l with
   | nil => exact absurd hw hne
   | cons w r => rw [hw] at ih; simp only [unw, List.nil_append, ih, h]
  ·cases hw : wordsL l with
   | nil => exact absurd hw hne
   | cons w r =>
    rw [hw] at ih
    cases r with
    | nil => simp only [unw] at ih ⊢; rw [ih]
    | cons v r => simp only [unw, List.cons_append] at ih ⊢; rw [ih]
def bytesOfL (ws : List ByteArray) : List (List UInt8) := ws.map fun w => w.data.toList
theorem bytes_inj {ws vs : List ByteArray} (h : bytesOfL ws = bytesOfL vs) : ws = vs := by
 exact (List.map_inj_right (f := fun w : ByteArray => w.data.toList) (fun x y hxy => ba_ext hxy)).1 h
theorem ex_list (s : ByteArray) (i j : Nat) : (s.extract i j).data.toList = (s.data.toList.drop i).take (j - i) := by
 rw [ByteArray.data_extract, Array.toList_extract]
 first | done | rfl | simp [List.extract]
theorem index_none : ∀ {l : List UInt8}, Lib.indexByte l 32 = -1 → (32 : UInt8) ∉ l
 | [], _ => by simp
 | b :: l, h => by
  unfold Lib.indexByte at h
  split at h
  ·simp at h
  ·rename_i hb
   have hge := Lib.indexByte_ge l 32
   split at h
   ·rename_i h2
    have := index_none (by simpa using h2)
    intro hm
    rcases List.mem_cons.1 hm with h3 | h3
    ·exact hb (by simp [h3])
    ·exact this h3
   ·rename_i h2
    have h3 : Lib.indexByte l 32 ≠ -1 := by simpa using h2
    omega
theorem index_some : ∀ {l : List UInt8} {i : Nat}, Lib.indexByte l 32 = (i : Int) → i < l.length ∧ l = l.take i ++ 32 :: l.drop (i + 1) ∧ (32 : UInt8) ∉ l.take i
 | [], i, h => by simp only [Lib.indexByte] at h; omega
 | b :: l, i, h => by
  unfold Lib.indexByte at h
  split at h
  ·rename_i hb
   obtain rfl : i = 0 := by omega
   have : b = 32 := by simpa using hb
   subst this
   simp
  ·rename_i hb
   have hge := Lib.indexByte_ge l 32
   split at h
   ·omega
   ·rename_i h2
    have h3 : Lib.indexByte l 32 ≠ -1 := by simpa using h2
    obtain ⟨q, hq⟩ : ∃ q : Nat, Lib.indexByte l 32 = q := ⟨(Lib.indexByte l 32).toNat, by omega⟩
    obtain rfl : i = q + 1 := by omega
    obtain ⟨h4, h5, h6⟩ := index_some hq
    refine ⟨by simp; omega, ?_, ?_⟩
    ·rw [List.take_succ_cons, List.drop_succ_cons, List.cons_append, ← h5]
    ·rw [List.take_succ_cons]
     intro hm
     rcases List.mem_cons.1 hm with h7 | h7
     ·exact hb (by simp [h7])
     ·exact h6 h7
theorem splitB_words : ∀ (k : Nat) (s : ByteArray), s.data.toList.count 32 ≤ k → bytesOfL (Lib.splitB blank1 0 k s) = wordsL s.data.toList
 | 0, s, h => by
  have hn : (32 : UInt8) ∉ s.data.toList := fun hm => by have := List.count_pos_iff.2 hm; omega
  rw [wordsL_one hn]; rfl
 | k + 1, s, h => by
  have hi : Lib.indexB s blank1 = Lib.indexByte s.data.toList 32 := by show Lib.index s.data.toList [32] = _; rw [Lib.index_one]
  unfold Lib.splitB
  rw [hi]
  have hge := Lib.indexByte_ge s.data.toList 32
  by_cases h1 : Lib.indexByte s.data.toList 32 = -1
  ·rw [zC (by rw [h1]; rfl), wordsL_one (index_none h1)]; rfl
  ·obtain ⟨i, hq⟩ : ∃ i : Nat, Lib.indexByte s.data.toList 32 = i := ⟨(Lib.indexByte s.data.toList 32).toNat, by omega⟩
   obtain ⟨h2, h3, h4⟩ := index_some hq
   rw [zD (by simpa using h1), hq, Int.toNat_natCast]
   have hsz : s.size = s.data.toList.length := by simp
   have e1 : (s.extract 0 (i + 0)).data.toList = s.data.toList.take i := by rw [ex_list]; simp
   have e2 : (s.extract (i + blank1.size) s.size).data.toList = s.data.toList.drop (i + 1) := by
    rw [ex_list, hsz]
    show (s.data.toList.drop (i + 1)).take _ = _
    have hb1 : blank1.size = 1 := rfl
    rw [List.take_of_length_le (by rw [List.length_drop, hb1]; omega)]
   have hc : (s.data.toList.drop (i + 1)).count 32 ≤ k := by
    have := congrArg (List.count 32) h3
    rw [List.count_append, List.count_cons_self] at this
    omega
   have ih := splitB_words k (s.extract (i + blank1.size) s.size) (by rw [e2]; exact hc)
   have hw := wordsL_cons (s.data.toList.drop (i + 1)) h4
   rw [← h3] at hw
   rw [hw, ← e2, ← ih]
   show (s.extract 0 (i + 0)).data.toList :: _ = _
   rw [e1]
   rfl
theorem wordsOf_bytes (s : ByteArray) : bytesOfL (wordsOf s) = wordsL s.data.toList := by
 refine splitB_words _ s ?_
 show _ ≤ Lib.count s.data.toList [32]
 rw [Lib.count_one]
 exact Nat.le_refl _
theorem wordsOf_of {s : ByteArray} {ws : List ByteArray} (h : bytesOfL ws = wordsL s.data.toList) : wordsOf s = ws := bytes_inj ((wordsOf_bytes s).trans h.symm)
theorem refwords_loop (s : ByteArray) (hs : s.size ≤ 1000000) : ∀ (d i f : Nat) (out : List ByteArray), s.size + 1 - i = d → i ≤ s.size + 1 → f ≤ i → out.length ≤ i → (i ≤ s.size → (32 : UInt8) ∉ (s.data.toList.drop f).take (i - f)) →
 ∃ r, Ev (fun k => cubbyref21_words.l0 k s out (f : Int) (i : Int)) r ∧ bytesOfL r = bytesOfL out ++ (if i ≤ s.size then wordsL (s.data.toList.drop f) else []) := by
 have hsz : s.size = s.data.toList.length := by simp
 intro d
 induction d with
 | zero =>
  intro i f out hd hi hf ho hn
  refine ⟨out, ⟨1, fun k hk => ?_⟩, by rw [zD (by omega), List.append_nil]⟩
  obtain ⟨q, rfl⟩ : ∃ q, k = q + 1 := ⟨k - 1, by omega⟩
  simp only [cubbyref21_words.l0]
  rw [zD (by omega)]
 | succ d ih =>
  intro i f out hd hi hf ho hn
  have hie : i ≤ s.size := by omega
  have hex : (s.extract f i).data.toList = (s.data.toList.drop f).take (i - f) := ex_list s f i
  have hnn := hn hie
  by_cases hend : i = s.size
  ·obtain ⟨r, hr, hr2⟩ := ih (i + 1) (i + 1) (out ++ [s.extract f i]) (by omega) (by omega) (Nat.le_refl _) (by simp; omega) (fun h => absurd h (by omega))
   refine ⟨r, Ev.step (fun k => ?_) hr, ?_⟩
   ·simp only [cubbyref21_words.l0]
    rw [zC (by omega), zC (by omega), zC (by omega), zC (by omega), zC (by omega), wrap_nat (by omega), Int.toNat_natCast, Int.toNat_natCast]
   ·rw [hr2, zD (by omega), List.append_nil, zC hie]
    have e : (s.data.toList.drop f).take (i - f) = s.data.toList.drop f := List.take_of_length_le (by simp; omega)
    rw [e] at hnn hex
    rw [wordsL_one hnn]
    simp only [bytesOfL, List.map_append, List.map_cons, List.map_nil, hex]
  ·have hlt : i < s.data.toList.length := by omega
   have hbt := bt_get hlt
   have hsplit : s.data.toList.drop f = (s.data.toList.drop f).take (i - f) ++ s.data.toList[i] :: s.data.toList.drop (i + 1) := by
    have h1 := (List.take_append_drop (i - f) (s.data.toList.drop f)).symm
    rw [List.drop_drop, show f + (i - f) = i by omega, List.drop_eq_getElem_cons hlt] at h1
    exact h1
   by_cases hb : s.data.toList[i] = 32
   ·obtain ⟨r, hr, hr2⟩ := ih (i + 1) (i + 1) (out ++ [s.extract f i]) (by omega) (by omega) (Nat.le_refl _) (by simp; omega) (fun h => by simp)
    refine ⟨r, Ev.step (fun k => ?_) hr, ?_⟩
    ·simp only [cubbyref21_words.l0]
     rw [zC (by omega), zD (by omega), zC (by omega), zC (by omega), hbt, hb, zC (by decide), zC (by omega), zC (by omega), zC (by omega), wrap_nat (by omega), Int.toNat_natCast, Int.toNat_natCast]
    ·rw [hr2, zC (by omega), zC hie]
     rw [hb] at hsplit
     rw [hsplit, wordsL_cons _ hnn]
     simp only [bytesOfL, List.map_append, List.map_cons, List.map_nil, hex, List.append_assoc, List.cons_append, List.nil_append]
   ·obtain ⟨r, hr, hr2⟩ := ih (i + 1) f out (by omega) (by omega) (by omega) (by omega) (fun h => by
     have e : (s.data.toList.drop f).take (i + 1 - f) = (s.data.toList.drop f).take (i - f) ++ [s.data.toList[i]] := by
      rw [show i + 1 - f = (i - f) + 1 by omega, List.take_succ_eq_append_getElem (by simp; omega)]
      simp only [List.getElem_drop, show f + (i - f) = i by omega]
     rw [e]
     intro hm
     rcases List.mem_append.1 hm with h1 | h1
     ·exact hnn h1
     ·exact hb (List.mem_singleton.1 h1).symm)
    refine ⟨r, Ev.step (fun k => ?_) hr, ?_⟩
    ·simp only [cubbyref21_words.l0]
     have hne : ¬ ((s.data.toList[i]).toNat : Int) = 32 := fun e => hb (by
      have : (s.data.toList[i]).toNat = 32 := by omega
      exact UInt8.toNat_inj.1 this)
     rw [zC (by omega), zD (by omega), zC (by omega), zC (by omega), hbt, zD hne, wrap_nat (by omega)]
    ·rw [hr2, zC hie, zC (by omega)]
theorem refwords_ev (s : ByteArray) (hs : s.size ≤ 1000000) : Ev (fun k => cubbyref21_words.f k s) (wordsOf s) := by
 obtain ⟨r, hr, hr2⟩ := refwords_loop s hs _ 0 0 [] rfl (by omega) (Nat.le_refl _) (Nat.zero_le _) (fun _ => by simp)
 rw [zC (by omega), List.drop_zero] at hr2
 rw [wordsOf_of (ws := r) (by rw [hr2]; rfl)]
 exact hr
def sp : ByteArray := ⟨#[32]⟩
def IsNum (n : Int) : Prop := 0 ≤ n ∧ n < 2147483648
instance (n : Int) : Decidable (IsNum n) := by unfold IsNum; infer_instance
def tellL (w : ByteArray) : List Int → ByteArray
 | [] => w
 | n :: l => tellL (w ++ (sp ++ num n)) l
def tellOr (w : ByteArray) (l : List Int) : ByteArray × Int := if ∀ n ∈ l, IsNum n then (tellL w l, 0) else (noS, 210)
def tellA (k a b c : Int) (t : ByteArray) : ByteArray × Int :=
 if k = 1 then tellOr okS [a] else if k = 2 then (codeS ++ t, 0) else if k = 3 then (missS, 0) else if k = 4 then tellOr errorS [a, b] else if k = 5 then tellOr statsS [a, b, c] else (noS, 210)
theorem apsz (a b : ByteArray) : (a ++ b).size = a.size + b.size := ByteArray.size_append
theorem apas (a b c : ByteArray) : a ++ b ++ c = a ++ (b ++ c) := ByteArray.append_assoc
theorem line_loop (L : List Int) : ∀ (l : List Int) (j : Nat) (w : ByteArray), L.drop j = l → j ≤ L.length → L.length ≤ 1000 → w.size ≤ 1000 + 100 * j →
 Ev (fun k => ask_line.l0 k w L (L.length : Int) (j : Int)) (tellOr w l)
 | [], j, w, hl, hj, hL, hw => by
  have : j = L.length := by have := congrArg List.length hl; simp at this; omega
  refine ⟨1, fun k hk => ?_⟩
  obtain ⟨q, rfl⟩ : ∃ q, k = q + 1 := ⟨k - 1, by omega⟩
  simp only [ask_line.l0]
  rw [zD (by omega)]
  rfl
 | n :: l, j, w, hl, hj, hL, hw => by
  have hlt : j < L.length := by
   rcases Nat.lt_or_ge j L.length with h | h
   ·exact h
   ·rw [List.drop_eq_nil_of_le h] at hl; cases hl
  rw [drop_cons hlt] at hl
  simp only [List.cons.injEq] at hl
  obtain ⟨hn, hl⟩ := hl
  have hrd : rd L (j : Int) = n := by rw [rd_get hlt, hn]
  have bad : ¬ IsNum n → tellOr w (n :: l) = (noS, 210) := fun h => zD (fun ha => h (ha n List.mem_cons_self))
  by_cases h1 : n < 0
  ·rw [bad (fun h => by have := h.1; omega)]
   refine ⟨1, fun k hk => ?_⟩
   obtain ⟨q, rfl⟩ : ∃ q, k = q + 1 := ⟨k - 1, by omega⟩
   simp only [ask_line.l0]
   rw [zC (by omega), zC (by omega), zC (by omega), hrd, zC h1]
   rfl
  by_cases h2 : n ≥ 2147483648
  ·rw [bad (fun h => by have := h.2; omega)]
   refine ⟨1, fun k hk => ?_⟩
   obtain ⟨q, rfl⟩ : ∃ q, k = q + 1 := ⟨k - 1, by omega⟩
   simp only [ask_line.l0]
   rw [zC (by omega), zC (by omega), zC (by omega), hrd, zD h1, zC h2]
   rfl
  have hz := num_size (n := n) (by omega)
  have hsp : sp.size = 1 := rfl
  have hsz : (w ++ (sp ++ num n)).size = w.size + (1 + (num n).size) := by rw [apsz, apsz, hsp]
  have ih := line_loop L l (j + 1) (w ++ (sp ++ num n)) hl (by omega) hL (by rw [hsz]; omega)
  have e : tellOr w (n :: l) = tellOr (w ++ (sp ++ num n)) l := by
   unfold tellOr
   have : (∀ m ∈ n :: l, IsNum m) ↔ ∀ m ∈ l, IsNum m := ⟨fun h m hm => h m (List.mem_cons_of_mem _ hm), fun h m hm => by
    rcases List.mem_cons.1 hm with hm | hm
    ·rw [hm]; exact ⟨by omega, by omega⟩
    ·exact h m hm⟩
   simp only [this, tellL]
  rw [e]
  have hi : strconv_Itoa_28.f n = some (num n) := by unfold strconv_Itoa_28.f; rw [zC (by omega), itoa_num (by omega)]
  refine Ev.step (fun k => ?_) ih
  simp only [ask_line.l0]
  rw [zC (by omega), zC (by omega), zC (by omega), hrd, zD h1, zD h2, hi, zJ, zC (by omega), zC (by rw [apsz]; show _ + (1 + _) ≤ _; omega), wrap_nat (by omega)]
  rfl
theorem line_ev (w : ByteArray) (l : List Int) (hl : l.length ≤ 1000) (hw : w.size ≤ 1000) : Ev (fun k => ask_line.f k w l) (tellOr w l) := line_loop l l 0 w rfl (Nat.zero_le _) hl (by omega)
theorem tell_ev (k a b c : Int) (t : ByteArray) (ht : t.size ≤ 1000000) : Ev (fun q => ask_Tell.f q k a b c t) (tellA k a b c t) := by
 unfold ask_Tell.f tellA
 by_cases h1 : k = 1
 ·simp only [zC h1]; exact Ev.bind (line_ev okS [a] (by simp) (by decide)) (Ev.now _)
 simp only [zD h1]
 by_cases h2 : k = 2
 ·simp only [zC h2, zC (show 5 + t.size ≤ 9223372036854775807 by omega)]; exact Ev.now _
 simp only [zD h2]
 by_cases h3 : k = 3
 ·simp only [zC h3]; exact Ev.bind (line_ev missS [] (by simp) (by decide)) (Ev.now _)
 simp only [zD h3]
 by_cases h4 : k = 4
 ·simp only [zC h4]; exact Ev.bind (line_ev errorS [a, b] (by simp) (by decide)) (Ev.now _)
 simp only [zD h4]
 by_cases h5 : k = 5
 ·simp only [zC h5]; exact Ev.bind (line_ev statsS [a, b, c] (by simp) (by decide)) (Ev.now _)
 simp only [zD h5]
 exact Ev.now _
theorem number_eq (n : Int) : cubbyref21_number.f n = some (decide (IsNum n)) := by
 unfold cubbyref21_number.f IsNum
 by_cases h : n ≥ 0
 ·simp [h]
 ·have : ¬ 0 ≤ n := h
  simp [this]
theorem tellOr_yes {w : ByteArray} {l : List Int} (h : ∀ n ∈ l, IsNum n) : tellOr w l = (tellL w l, 0) := zC h
theorem tellOr_no {w : ByteArray} {l : List Int} {n : Int} (hm : n ∈ l) (h : ¬ IsNum n) : tellOr w l = (noS, 210) := zD (fun ha => h (ha n hm))
theorem reftell_ev (k a b c : Int) (t : ByteArray) (ht : t.size ≤ 1000000) : Ev (fun q => cubbyref21_Tell.f q k a b c t) (tellA k a b c t) := by
 have hz : ∀ {n : Int}, IsNum n → (num n).size ≤ 10 := fun h => num_size h.2
 have hd : ∀ {n : Int}, IsNum n → Ev (fun q => cubbyref08_Digits.f q n) (num n) := fun h => digits_ev h.1 h.2
 have j2 : ∀ x : Bool, (x = true ↔ k = 5 ∧ IsNum a ∧ IsNum b ∧ IsNum c) → ¬ k = 1 → ¬ k = 2 → ¬ k = 3 → ¬ k = 4 → Ev (fun q => cubbyref21_Tell.j2 q x k a b c t) (tellA k a b c t) := by
  intro x hx n1 n2 n3 n4
  by_cases h : x = true
  ·obtain ⟨h5, ha, hb, hc⟩ := hx.1 h
   have e : tellA k a b c t = ((((((⟨#[115, 116, 97, 116, 115, 32]⟩ : ByteArray) ++ num a) ++ (⟨#[32]⟩ : ByteArray)) ++ num b) ++ (⟨#[32]⟩ : ByteArray)) ++ num c, 0) := by
    unfold tellA
    rw [zD n1, zD n2, zD n3, zD n4, zC h5, tellOr_yes (by intro n hn; simp at hn; rcases hn with rfl | rfl | rfl <;> assumption)]
    have e0 : (⟨#[115, 116, 97, 116, 115, 32]⟩ : ByteArray) = statsS ++ sp := rfl
    have e1 : (⟨#[32]⟩ : ByteArray) = sp := rfl
    rw [e0, e1]
    simp only [tellL, apas]
   rw [e]
   have za := hz ha; have zb := hz hb; have zc := hz hc
   have s1 : (⟨#[115, 116, 97, 116, 115, 32]⟩ : ByteArray).size = 6 := rfl
   have s2 : (⟨#[32]⟩ : ByteArray).size = 1 := rfl
   refine Ev.step (fun q => by simp only [cubbyref21_Tell.j2]; rw [zC h]) (Ev.bind (hd ha) ?_)
   simp only [zC (show 6 + (num a).size ≤ 9223372036854775807 by omega), zC (show ((⟨#[115, 116, 97, 116, 115, 32]⟩ : ByteArray) ++ num a).size + 1 ≤ 9223372036854775807 by rw [apsz, s1]; omega)]
   refine Ev.bind (hd hb) ?_
   simp only [zC (show (((⟨#[115, 116, 97, 116, 115, 32]⟩ : ByteArray) ++ num a) ++ (⟨#[32]⟩ : ByteArray)).size + (num b).size ≤ 9223372036854775807 by rw [apsz, apsz, s1, s2]; omega), zC (show ((((⟨#[115, 116, 97, 116, 115, 32]⟩ : ByteArray) ++ num a) ++ (⟨#[32]⟩ : ByteArray)) ++ num b).size + 1 ≤ 9223372036854775807 by rw [apsz, apsz, apsz, s1, s2]; omega)]
   refine Ev.bind (hd hc) ?_
   simp only [zC (show (((((⟨#[115, 116, 97, 116, 115, 32]⟩ : ByteArray) ++ num a) ++ (⟨#[32]⟩ : ByteArray)) ++ num b) ++ (⟨#[32]⟩ : ByteArray)).size + (num c).size ≤ 9223372036854775807 by rw [apsz, apsz, apsz, apsz, s1, s2]; omega)]
   exact Ev.now _
  ·have e : tellA k a b c t = (noS, 210) := by
    unfold tellA
    rw [zD n1, zD n2, zD n3, zD n4]
    by_cases h5 : k = 5
    ·rw [zC h5]
     by_cases ha : IsNum a
     ·by_cases hb : IsNum b
      ·exact tellOr_no (n := c) (by simp) (fun hc => h (hx.2 ⟨h5, ha, hb, hc⟩))
      ·exact tellOr_no (n := b) (by simp) hb
     ·exact tellOr_no (n := a) (by simp) ha
    ·rw [zD h5]
   rw [e]
   exact Ev.step (fun q => by simp only [cubbyref21_Tell.j2]; rw [zD h]; rfl) (Ev.now _)
 have j1 : ∀ x : Bool, (x = true ↔ k = 4 ∧ IsNum a ∧ IsNum b) → ¬ k = 1 → ¬ k = 2 → ¬ k = 3 → Ev (fun q => cubbyref21_Tell.j1 q (decide (IsNum a)) (decide (IsNum b)) (decide (IsNum c)) x k a b c t) (tellA k a b c t) := by
  intro x hx n1 n2 n3
  by_cases h : x = true
  ·obtain ⟨h4, ha, hb⟩ := hx.1 h
   have e : tellA k a b c t = ((((⟨#[101, 114, 114, 111, 114, 32]⟩ : ByteArray) ++ num a) ++ (⟨#[32]⟩ : ByteArray)) ++ num b, 0) := by
    unfold tellA
    rw [zD n1, zD n2, zD n3, zC h4, tellOr_yes (by intro n hn; simp at hn; rcases hn with rfl | rfl <;> assumption)]
    have e0 : (⟨#[101, 114, 114, 111, 114, 32]⟩ : ByteArray) = errorS ++ sp := rfl
    have e1 : (⟨#[32]⟩ : ByteArray) = sp := rfl
    rw [e0, e1]
    simp only [tellL, apas]
   rw [e]
   have za := hz ha; have zb := hz hb
   have s1 : (⟨#[101, 114, 114, 111, 114, 32]⟩ : ByteArray).size = 6 := rfl
   have s2 : (⟨#[32]⟩ : ByteArray).size = 1 := rfl
   refine Ev.step (fun q => by simp only [cubbyref21_Tell.j1]; rw [zC h]) (Ev.bind (hd ha) ?_)
   simp only [zC (show 6 + (num a).size ≤ 9223372036854775807 by omega), zC (show ((⟨#[101, 114, 114, 111, 114, 32]⟩ : ByteArray) ++ num a).size + 1 ≤ 9223372036854775807 by rw [apsz, s1]; omega)]
   refine Ev.bind (hd hb) ?_
   simp only [zC (show (((⟨#[101, 114, 114, 111, 114, 32]⟩ : ByteArray) ++ num a) ++ (⟨#[32]⟩ : ByteArray)).size + (num b).size ≤ 9223372036854775807 by rw [apsz, apsz, s1, s2]; omega)]
   exact Ev.now _
  ·by_cases n4 : k = 4
   ·have e : tellA k a b c t = (noS, 210) := by
     unfold tellA
     rw [zD n1, zD n2, zD n3, zC n4]
     by_cases ha : IsNum a
     ·exact tellOr_no (n := b) (by simp) (fun hb => h (hx.2 ⟨n4, ha, hb⟩))
     ·exact tellOr_no (n := a) (by simp) ha
    rw [e]
    refine Ev.step (fun q => by simp only [cubbyref21_Tell.j1]; rw [zD h, zD (by omega)]) (Ev.step (fun q => by simp only [cubbyref21_Tell.j2]; rw [zD (by simp)]; rfl) (Ev.now _))
   ·by_cases h5 : k = 5
    ·by_cases ha : IsNum a
     ·by_cases hb : IsNum b
      ·exact Ev.step (fun q => by simp only [cubbyref21_Tell.j1]; rw [zD h, zC h5, zC (by simpa using ha), zC (by simpa using hb)]) (j2 (decide (IsNum c)) (by simp [h5, ha, hb]) n1 n2 n3 n4)
      ·exact Ev.step (fun q => by simp only [cubbyref21_Tell.j1]; rw [zD h, zC h5, zC (by simpa using ha), zD (by simpa using hb)]) (j2 false (by simp [hb]) n1 n2 n3 n4)
     ·exact Ev.step (fun q => by simp only [cubbyref21_Tell.j1]; rw [zD h, zC h5, zD (by simpa using ha)]) (j2 false (by simp [ha]) n1 n2 n3 n4)
    ·exact Ev.step (fun q => by simp only [cubbyref21_Tell.j1]; rw [zD h, zD h5]) (j2 false (by simp [h5]) n1 n2 n3 n4)
 have j0 : ∀ x : Bool, (x = true ↔ k = 1 ∧ IsNum a) → Ev (fun q => cubbyref21_Tell.j0 q (decide (IsNum a)) (decide (IsNum b)) (decide (IsNum c)) x k a b c t) (tellA k a b c t) := by
  intro x hx
  by_cases h : x = true
  ·obtain ⟨h1, ha⟩ := hx.1 h
   have e : tellA k a b c t = ((⟨#[111, 107, 32]⟩ : ByteArray) ++ num a, 0) := by
    unfold tellA
    rw [zC h1, tellOr_yes (by intro n hn; simp at hn; rw [hn]; exact ha)]
    have e0 : (⟨#[111, 107, 32]⟩ : ByteArray) = okS ++ sp := rfl
    rw [e0]
    simp only [tellL, apas]
   rw [e]
   have za := hz ha
   refine Ev.step (fun q => by simp only [cubbyref21_Tell.j0]; rw [zC h]) (Ev.bind (hd ha) ?_)
   simp only [zC (show 3 + (num a).size ≤ 9223372036854775807 by omega)]
   exact Ev.now _
  by_cases n2 : k = 2
  ·have e : tellA k a b c t = (codeS ++ t, 0) := by unfold tellA; rw [zD (by omega), zC n2]
   rw [e]
   exact Ev.step (fun q => by simp only [cubbyref21_Tell.j0]; rw [zD h, zC n2, zC (by omega)]; rfl) (Ev.now _)
  by_cases n3 : k = 3
  ·have e : tellA k a b c t = (missS, 0) := by unfold tellA; rw [zD (by omega), zD n2, zC n3]
   rw [e]
   exact Ev.step (fun q => by simp only [cubbyref21_Tell.j0]; rw [zD h, zD n2, zC n3]; rfl) (Ev.now _)
  by_cases n1 : k = 1
  ·have e : tellA k a b c t = (noS, 210) := by unfold tellA; rw [zC n1]; exact tellOr_no (n := a) (by simp) (fun ha => h (hx.2 ⟨n1, ha⟩))
   rw [e]
   refine Ev.step (fun q => by simp only [cubbyref21_Tell.j0]; rw [zD h, zD n2, zD n3, zD (by omega)]) (Ev.step (fun q => by simp only [cubbyref21_Tell.j1]; rw [zD (by simp), zD (by omega)]) (Ev.step (fun q => by simp only [cubbyref21_Tell.j2]; rw [zD (by simp)]; rfl) (Ev.now _)))
  by_cases n4 : k = 4
  ·by_cases ha : IsNum a
   ·exact Ev.step (fun q => by simp only [cubbyref21_Tell.j0]; rw [zD h, zD n2, zD n3, zC n4, zC (by simpa using ha)]) (j1 (decide (IsNum b)) (by simp [n4, ha]) n1 n2 n3)
   ·exact Ev.step (fun q => by simp only [cubbyref21_Tell.j0]; rw [zD h, zD n2, zD n3, zC n4, zD (by simpa using ha)]) (j1 false (by simp [ha]) n1 n2 n3)
  ·exact Ev.step (fun q => by simp only [cubbyref21_Tell.j0]; rw [zD h, zD n2, zD n3, zD n4]) (j1 false (by simp [n4]) n1 n2 n3)
 unfold cubbyref21_Tell.f
 simp only [number_eq, zJ]
 by_cases h1 : k = 1
 ·simp only [zC h1]; exact j0 (decide (IsNum a)) (by simp [h1])
 ·simp only [zD h1]; exact j0 false (by simp [h1])
theorem tl_data {a b : ByteArray} : a.toList = b.toList ↔ a.data.toList = b.data.toList := by rw [toList_data, toList_data]
theorem size_len (s : ByteArray) : s.data.toList.length = s.size := by simp
theorem prefix_eq (s p : ByteArray) : strings_CutPrefix.f s p = some (if s.data.toList.take p.size = p.data.toList then (s.extract p.size s.size, true) else (s, false)) := by
 unfold strings_CutPrefix.f stringslite_CutPrefix.f stringslite_HasPrefix.f
 by_cases c : (s.size : Int) ≥ (p.size : Int)
 ·have e : ((s.extract 0 ((p.size : Int)).toNat).toList == p.toList) = decide (s.data.toList.take p.size = p.data.toList) := by
   rw [Bool.eq_iff_iff, beq_iff_eq, decide_eq_true_iff, tl_data, Int.toNat_natCast, ex_list]
   simp
  rw [zC c, zC (by omega), zC c, e, zJ]
  by_cases c1 : s.data.toList.take p.size = p.data.toList
  ·rw [zF c1, zC rfl, zC c1, zC (by omega), zC c, zJ, Int.toNat_natCast]
  ·rw [zG c1, zD Bool.false_ne_true, zD c1, zJ]
 ·have c1 : ¬ s.data.toList.take p.size = p.data.toList := by
   intro h
   have := congrArg List.length h
   rw [List.length_take, size_len, size_len] at this
   omega
  rw [zD c, zJ, zD Bool.false_ne_true, zD c1, zJ]
noncomputable def nr (t : ByteArray) : Int × Bool := Classical.choose (number_total t)
theorem nr_ev (t : ByteArray) : Ev (fun k => cubbyref08_Number.f k t) (nr t) := (Classical.choose_spec (number_total t)).1
theorem nr_is (t : ByteArray) : (nr t).2 = true → IsNum (nr t).1 := (Classical.choose_spec (number_total t)).2
theorem ev_unique {α : Type} {g : Nat → Option α} {a b : α} (h : Ev g a) (h' : Ev g b) : a = b := by
 obtain ⟨K, h⟩ := h
 obtain ⟨K', h'⟩ := h'
 exact zI ((h (max K K') (by omega)).symm.trans (h' (max K K') (by omega)))
theorem nr_num {n : Int} (h : IsNum n) : nr (num n) = (n, true) := ev_unique (nr_ev _) (number_num h.1 h.2)
noncomputable def vo (t : ByteArray) : Int := if (nr t).2 = true then (nr t).1 else 0
theorem vo_is (t : ByteArray) : IsNum (vo t) := by
 unfold vo
 split
 ·rename_i h; exact nr_is t h
 ·exact ⟨by omega, by omega⟩
theorem vo_num {n : Int} (h : IsNum n) : vo (num n) = n := by unfold vo; rw [nr_num h]; rfl
noncomputable def at_ (ws : List ByteArray) (i : Nat) : Int := match ws[i]? with | some t => vo t | none => 0
theorem at_is (ws : List ByteArray) (i : Nat) : IsNum (at_ ws i) := by
 unfold at_
 split
 ·exact vo_is _
 ·exact ⟨by omega, by omega⟩
theorem l0_end {s : ByteArray} {ws : List ByteArray} {l : List Int} {i : Nat} {R : Int × Int × Int × Int × ByteArray × Int} (hi : ws.length ≤ i ∨ i = 4) (hb : i ≤ 4) (h : Ev (fun k => cubbyref21_Hear.l1 k s l 1) R) : Ev (fun k => cubbyref21_Hear.l0 k s ws l (i : Int)) R := by
 have hj : Ev (fun k => cubbyref21_Hear.j1 k s ws l (i : Int) false) R := Ev.step (fun k => by simp only [cubbyref21_Hear.j1]; rw [zD (by simp)]) h
 refine Ev.step (fun k => ?_) hj
 simp only [cubbyref21_Hear.l0]
 by_cases h1 : (i : Int) < (ws.length : Int)
 ·rw [zC h1, zG (by omega)]
 ·rw [zD h1]
theorem set_same {l : List Int} {j : Nat} {x : Int} (h : l[j]? = some x) : l.set j x = l := by
 apply List.ext_getElem?
 intro m
 by_cases hm : j = m
 ·subst hm; rw [List.getElem?_set_self (List.getElem?_eq_some_iff.1 h).1, h]
 ·rw [List.getElem?_set_ne hm]
theorem l0_step {s : ByteArray} {ws : List ByteArray} {l : List Int} {i : Nat} {R : Int × Int × Int × Int × ByteArray × Int} (h0 : 1 ≤ i) (hi : i < 4) (hl : l.length = 3) (hz : l[i - 1]? = some 0)
 (h : Ev (fun k => cubbyref21_Hear.l0 k s ws (l.set (i - 1) (at_ ws i)) ((i + 1 : Nat) : Int)) R) (hend : ws.length ≤ i → Ev (fun k => cubbyref21_Hear.l0 k s ws l (i : Int)) R) : Ev (fun k => cubbyref21_Hear.l0 k s ws l (i : Int)) R := by
 by_cases h1 : i < ws.length
 ·refine Ev.step (f := fun k => cubbyref21_Hear.j1 k s ws l (i : Int) true) (fun k => ?_) (Ev.step (fun k => ?_) (Ev.bind (nr_ev ws[i]) (f := fun k bt170 => (if bt170.2 = true then cubbyref21_Hear.l0 k s ws (l.set (i - 1) bt170.1) ((i + 1 : Nat) : Int) else cubbyref21_Hear.l0 k s ws l ((i + 1 : Nat) : Int))) ?_))
  ·simp only [cubbyref21_Hear.l0]
   rw [zC (by omega), zF (by omega)]
  ·simp only [cubbyref21_Hear.j1]
   have e1 : wrap64 ((i : Int) - 1) = ((i - 1 : Nat) : Int) := wrap_pred h0 (by omega)
   have e2 : rdOf ByteArray.empty ws (i : Int) = ws[i] := by show ws.getD _ _ = _; rw [Int.toNat_natCast, List.getD_eq_getElem?_getD, List.getElem?_eq_getElem h1]; rfl
   rw [zC trivial, zC (by omega), zC (by omega), e1, e2, wrap_nat (by omega), Int.toNat_natCast]
   congr 1
   funext bt
   by_cases hb : bt.2 = true
   ·rw [zC hb, zC hb, zC (by omega), zC (by rw [hl]; omega)]
   ·rw [zD hb, zD hb]
  ·have e : at_ ws i = vo ws[i] := by unfold at_; rw [List.getElem?_eq_getElem h1]
   rw [e] at h
   unfold vo at h
   by_cases h2 : (nr ws[i]).2 = true
   ·simp only [zC h2] at h ⊢; exact h
   ·simp only [zD h2] at h ⊢
    rw [set_same hz] at h
    exact h
 ·exact hend (by omega)
theorem l0_ev {s : ByteArray} {ws : List ByteArray} {R : Int × Int × Int × Int × ByteArray × Int} (h : Ev (fun k => cubbyref21_Hear.l1 k s [at_ ws 1, at_ ws 2, at_ ws 3] 1) R) : Ev (fun k => cubbyref21_Hear.l0 k s ws [0, 0, 0] 1) R := by
 have z : ∀ i, ws.length ≤ i → at_ ws i = 0 := fun i hi => by unfold at_; rw [List.getElem?_eq_none hi]
 refine l0_step (i := 1) (by omega) (by omega) rfl rfl ?_ (fun hl => ?_)
 ·refine l0_step (i := 2) (by omega) (by omega) rfl rfl ?_ (fun hl => ?_)
  ·refine l0_step (i := 3) (by omega) (by omega) rfl rfl ?_ (fun hl => ?_)
   ·exact l0_end (i := 4) (.inr rfl) (by omega) h
   ·exact l0_end (i := 3) (.inl hl) (by omega) (by rw [z 3 hl] at h; exact h)
  ·exact l0_end (i := 2) (.inl hl) (by omega) (by rw [z 3 (by omega), z 2 hl] at h; exact h)
 ·exact l0_end (i := 1) (.inl hl) (by omega) (by rw [z 3 (by omega), z 2 (by omega), z 1 hl] at h; exact h)
def textOf (s : ByteArray) (k : Int) : ByteArray := if k = 2 ∧ 4 < s.size then s.extract 5 s.size else noS
def replyOf (s : ByteArray) (a b c : Int) (k : Int) : Int × Int × Int × Int × ByteArray := (k, if k = 1 ∨ k > 3 then a else 0, if k > 3 then b else 0, if k = 5 then c else 0, textOf s k)
def tellR (r : Int × Int × Int × Int × ByteArray) : ByteArray × Int := tellA r.1 r.2.1 r.2.2.1 r.2.2.2.1 r.2.2.2.2
theorem l1_step {s : ByteArray} {a b c : Int} {R : Int × Int × Int × Int × ByteArray × Int} (k k' : Int) (hk' : k + 1 = k') (hs : s.size ≤ 1000000) (h1 : 1 ≤ k) (h5 : k ≤ 5)
 (hyes : (tellR (replyOf s a b c k)).2 = 0 ∧ (tellR (replyOf s a b c k)).1 = s → R = ((replyOf s a b c k).1, (replyOf s a b c k).2.1, (replyOf s a b c k).2.2.1, (replyOf s a b c k).2.2.2.1, (replyOf s a b c k).2.2.2.2, 0))
 (hno : ¬ ((tellR (replyOf s a b c k)).2 = 0 ∧ (tellR (replyOf s a b c k)).1 = s) → Ev (fun q => cubbyref21_Hear.l1 q s [a, b, c] k') R) : Ev (fun q => cubbyref21_Hear.l1 q s [a, b, c] k) R := by
 subst hk'
 have htx : (textOf s k).size ≤ 1000000 := by
  unfold textOf
  split
  ·rw [ByteArray.size_extract]; omega
  ·decide
 have hw : wrap64 (k + 1) = k + 1 := wrap_id (by omega) (by omega)
 -- the last part
 have fin : ∀ (A B C : Int) (f : Nat → Option (Int × Int × Int × Int × ByteArray × Int)), replyOf s a b c k = (k, A, B, C, textOf s k) → (∀ q, f q = (cubbyref21_Tell.f q k A B C (textOf s k)).bind fun t => (if t.2 = 0 then (if t.1.toList = s.toList then some (k, A, B, C, textOf s k, 0) else cubbyref21_Hear.l1 q s [a, b, c] (wrap64 (k + 1))) else cubbyref21_Hear.l1 q s [a, b, c] (wrap64 (k + 1)))) → Ev f R := by
  intro A B C f hr hf
  refine Ev.congr hf (Ev.bind (reftell_ev k A B C _ htx) ?_)
  have et : tellA k A B C (textOf s k) = tellR (replyOf s a b c k) := by rw [hr]; rfl
  rw [et]
  by_cases c1 : (tellR (replyOf s a b c k)).2 = 0
  ·simp only [zC c1]
   by_cases c2 : (tellR (replyOf s a b c k)).1.toList = s.toList
   ·simp only [zC c2]
    have := hyes ⟨c1, toList_inj.1 c2⟩
    rw [hr] at this
    rw [this]
    exact Ev.now _
   ·simp only [zD c2, hw]
    exact hno (fun h => c2 (by rw [h.2]))
  ·simp only [zD c1, hw]
   exact hno (fun h => c1 h.1)
 have e7 : ∀ (A B : Int), replyOf s a b c k = (k, A, B, if k = 5 then c else 0, textOf s k) → Ev (fun q => cubbyref21_Hear.j7 q s [a, b, c] k k A B 0 (textOf s k)) R := by
  intro A B hr
  by_cases c5 : k = 5
  ·rw [zC c5] at hr
   have hf := fin A B c (fun q => (cubbyref21_Tell.f q k A B c (textOf s k)).bind fun t => (if t.2 = 0 then (if t.1.toList = s.toList then some (k, A, B, c, textOf s k, 0) else cubbyref21_Hear.l1 q s [a, b, c] (wrap64 (k + 1))) else cubbyref21_Hear.l1 q s [a, b, c] (wrap64 (k + 1)))) hr (fun _ => rfl)
   refine Ev.step (fun q => ?_) hf
   simp only [cubbyref21_Hear.j7]
   rw [zC c5, zC (by simp)]
   rfl
  ·rw [zD c5] at hr
   have hf := fin A B 0 (fun q => (cubbyref21_Tell.f q k A B 0 (textOf s k)).bind fun t => (if t.2 = 0 then (if t.1.toList = s.toList then some (k, A, B, 0, textOf s k, 0) else cubbyref21_Hear.l1 q s [a, b, c] (wrap64 (k + 1))) else cubbyref21_Hear.l1 q s [a, b, c] (wrap64 (k + 1)))) hr (fun _ => rfl)
   refine Ev.step (fun q => ?_) hf
   simp only [cubbyref21_Hear.j7]
   rw [zD c5]
 have e6 : ∀ (A : Int), replyOf s a b c k = (k, A, if k > 3 then b else 0, if k = 5 then c else 0, textOf s k) → Ev (fun q => cubbyref21_Hear.j6 q s [a, b, c] k k A 0 0 (textOf s k)) R := by
  intro A hr
  by_cases c3 : k > 3
  ·rw [zC c3] at hr
   exact Ev.step (fun q => by simp only [cubbyref21_Hear.j6]; rw [zC c3, zC (by simp)]; rfl) (e7 A b hr)
  ·rw [zD c3] at hr
   exact Ev.step (fun q => by simp only [cubbyref21_Hear.j6]; rw [zD c3]) (e7 A 0 hr)
 have e5 : ∀ x : Bool, (x = true ↔ k = 1 ∨ k > 3) → Ev (fun q => cubbyref21_Hear.j5 q s [a, b, c] k x k 0 0 0 (textOf s k)) R := by
  intro x hx
  by_cases c1 : x = true
  ·exact Ev.step (fun q => by simp only [cubbyref21_Hear.j5]; rw [zC c1, zC (by simp)]; rfl) (e6 a (by unfold replyOf; rw [zC (hx.1 c1)]))
  ·exact Ev.step (fun q => by simp only [cubbyref21_Hear.j5]; rw [zD c1]) (e6 0 (by unfold replyOf; rw [zD (fun h => c1 (hx.2 h))]))
 have e4 : Ev (fun q => cubbyref21_Hear.j4 q s [a, b, c] k k 0 0 0 (textOf s k)) R := by
  by_cases c1 : k = 1
  ·exact Ev.step (fun q => by simp only [cubbyref21_Hear.j4]; rw [zC c1]) (e5 true (by simp [c1]))
  ·exact Ev.step (fun q => by simp only [cubbyref21_Hear.j4]; rw [zD c1]) (e5 (decide (k > 3)) (by simp [c1]))
 have e3 : ∀ x : Bool, (x = true ↔ k = 2 ∧ 4 < s.size) → Ev (fun q => cubbyref21_Hear.j3 q s [a, b, c] k x k 0 0 0 (⟨#[]⟩ : ByteArray)) R := by
  intro x hx
  by_cases c1 : x = true
  ·have h2 := hx.1 c1
   have et : textOf s k = s.extract 5 s.size := zC h2
   rw [et] at e4
   exact Ev.step (fun q => by simp only [cubbyref21_Hear.j3]; rw [zC c1, zC (by omega)]) e4
  ·have et : textOf s k = noS := zD (fun h => c1 (hx.2 h))
   rw [et] at e4
   exact Ev.step (fun q => by simp only [cubbyref21_Hear.j3]; rw [zD c1]; rfl) e4
 by_cases c2 : k = 2
 ·exact Ev.step (fun q => by simp only [cubbyref21_Hear.l1]; rw [zC h5, zC c2]) (e3 (decide ((s.size : Int) > 4)) (by simp [c2]; omega))
 ·exact Ev.step (fun q => by simp only [cubbyref21_Hear.l1]; rw [zC h5, zD c2]) (e3 false (by simp [c2]))
theorem l1_end (s : ByteArray) (l : List Int) : Ev (fun q => cubbyref21_Hear.l1 q s l 6) (0, 0, 0, 0, noS, 210) := Ev.step (fun q => by simp only [cubbyref21_Hear.l1]; rw [zD (by omega)]; rfl) (Ev.now _)
def tailB (xs : List Int) : List UInt8 := xs.flatMap fun x => 32 :: Lib.decDigits x.toNat
theorem tellL_bytes : ∀ (xs : List Int) (w : ByteArray), (tellL w xs).data.toList = w.data.toList ++ tailB xs
 | [], w => by simp [tellL, tailB]
 | x :: xs, w => by
  have e : (sp ++ num x).data.toList = 32 :: Lib.decDigits x.toNat := by rw [ByteArray.data_append, Array.toList_append, num_list]; rfl
  unfold tellL
  rw [tellL_bytes xs, ByteArray.data_append, Array.toList_append, e]
  simp [tailB]
theorem dec_blank (u : Nat) : (32 : UInt8) ∉ Lib.decDigits u := fun h => by have := (dec_mem u 32 h).1; simp at this
theorem words_tail : ∀ (xs : List Int) {a : List UInt8}, (32 : UInt8) ∉ a → wordsL (a ++ tailB xs) = a :: xs.map fun x => Lib.decDigits x.toNat
 | [], a, h => by simp only [tailB, List.flatMap_nil, List.append_nil, List.map_nil]; exact wordsL_one h
 | x :: xs, a, h => by
  have e : a ++ tailB (x :: xs) = a ++ 32 :: (Lib.decDigits x.toNat ++ tailB xs) := by simp [tailB]
  rw [e, wordsL_cons _ h, words_tail xs (dec_blank _)]
  rfl
theorem bytes_num (w : ByteArray) (xs : List Int) : bytesOfL (w :: xs.map num) = w.data.toList :: xs.map fun x => Lib.decDigits x.toNat := by
 simp only [bytesOfL, List.map_cons, List.map_map]
 first | done | (congr 1; done) | (congr 1; apply List.map_congr_left; intro x _; exact num_list x)
theorem tell_words {s w : ByteArray} {xs : List Int} (hw : (32 : UInt8) ∉ w.data.toList) : tellL w xs = s ↔ wordsOf s = w :: xs.map num := by
 have hb : wordsL (tellL w xs).data.toList = bytesOfL (w :: xs.map num) := by rw [tellL_bytes, words_tail xs hw, bytes_num]
 constructor
 ·rintro rfl
  exact wordsOf_of hb.symm
 ·intro h
  have h2 := wordsOf_bytes s
  rw [h, ← hb] at h2
  have h3 := congrArg unw h2
  rw [unw_words, unw_words] at h3
  exact ba_ext h3
theorem map_some : ∀ {l : List ByteArray} {ys : List Int}, l.mapM numOf = some ys → l = ys.map num ∧ ∀ y ∈ ys, IsNum y
 | [], ys, h => by
  simp only [List.mapM_nil] at h
  obtain rfl := zI h
  exact ⟨rfl, by simp⟩
 | t :: l, ys, h => by
  simp only [List.mapM_cons, Option.bind_eq_bind, Option.bind_eq_some_iff] at h
  obtain ⟨y, hy, zs, hz, h⟩ := h
  obtain rfl := zI h
  obtain ⟨h1, h2⟩ := map_some hz
  obtain ⟨a, b, c⟩ := numOf_some hy
  refine ⟨by rw [h1, c]; rfl, fun q hq => ?_⟩
  rcases List.mem_cons.1 hq with hq | hq
  ·rw [hq]; exact ⟨a, b⟩
  ·exact h2 q hq
theorem map_num : ∀ {ys : List Int}, (∀ y ∈ ys, IsNum y) → (ys.map num).mapM numOf = some ys
 | [], _ => rfl
 | y :: ys, h => by
  have h1 := h y List.mem_cons_self
  simp only [List.map_cons, List.mapM_cons, numOf_num h1.1 h1.2, Option.bind_eq_bind, zJ]
  rw [map_num (fun q hq => h q (List.mem_cons_of_mem _ hq))]
  rfl
theorem numbers_iff {s w : ByteArray} {n : Nat} {ys : List Int} : numbersOf s w n = some ys ↔ wordsOf s = w :: ys.map num ∧ ys.length = n ∧ ∀ y ∈ ys, IsNum y := by
 unfold numbersOf
 constructor
 ·intro h
  split at h
  ·rename_i hc
   obtain ⟨h1, h2⟩ := map_some h
   cases hw : wordsOf s with
   | nil => rw [hw] at hc; simp at hc
   | cons a l =>
    rw [hw] at hc h1
    simp only [List.getElem?_cons_zero, Option.some.injEq] at hc
    simp only [List.drop_succ_cons, List.drop_zero] at h1
    refine ⟨by rw [hc.1, h1], ?_, h2⟩
    have := hc.2
    rw [h1] at this
    simpa using this
  ·cases h
 ·rintro ⟨h1, h2, h3⟩
  rw [h1, zC ⟨rfl, by simp [h2]⟩]
  exact map_num h3
def hearA (s : ByteArray) : Int × Int × Int × Int × ByteArray × Int :=
 if s.data.toList.take 5 = codeS.data.toList then (2, 0, 0, 0, s.extract 5 s.size, 0) else if s = missS then (3, 0, 0, 0, noS, 0) else heardOf s
theorem hear_eq {s : ByteArray} (hs : s.size ≤ 1000000) : ask_Hear.f s = some (hearA s) := by
 unfold ask_Hear.f hearA
 rw [prefix_eq s codeS]
 have h5 : codeS.size = 5 := rfl
 rw [h5]
 by_cases h : s.data.toList.take 5 = codeS.data.toList
 ·rw [zC h, zC h]; rfl
 ·rw [zD h, zD h, zJ, zD (by simp)]
  by_cases h2 : s = missS
  ·rw [zC (by rw [h2]), zC h2]
  ·rw [zD (fun e => h2 (toList_inj.1 e)), zD h2, zC (by omega)]
theorem at_num {s w : ByteArray} {ys : List Int} (h : wordsOf s = w :: ys.map num) (i : Nat) (hy : ∀ y ∈ ys, IsNum y) : at_ (wordsOf s) (i + 1) = ys.getD i 0 := by
 unfold at_
 rw [h, List.getElem?_cons_succ, List.getElem?_map, List.getD_eq_getElem?_getD]
 cases e : ys[i]? with
 | none => rfl
 | some y => exact vo_num (hy y (List.mem_of_getElem? e))
theorem blank_ok : (32 : UInt8) ∉ okS.data.toList := by decide
theorem blank_error : (32 : UInt8) ∉ errorS.data.toList := by decide
theorem blank_stats : (32 : UInt8) ∉ statsS.data.toList := by decide
theorem head_of {s w : ByteArray} {xs : List Int} (h : tellL w xs = s) : s.data.toList = w.data.toList ++ tailB xs := by rw [← h, tellL_bytes]
theorem refhear_ev {s : ByteArray} (hs : s.size ≤ 1000000) : Ev (fun k => cubbyref21_Hear.f k s) (hearA s) := by
 have hL := size_len s
 obtain ⟨ws, hws⟩ : ∃ ws, wordsOf s = ws := ⟨_, rfl⟩
 have ia := at_is ws 1
 have ib := at_is ws 2
 have ic := at_is ws 3
 have r1 : ∀ b c, tellR (replyOf s (at_ ws 1) b c 1) = (tellL okS [at_ ws 1], 0) := fun b c => by
  rw [show replyOf s (at_ ws 1) b c 1 = (1, at_ ws 1, 0, 0, noS) by simp [replyOf, textOf]]
  show tellA _ _ _ _ _ = _
  unfold tellA
  rw [zC rfl]
  exact tellOr_yes (by intro n hn; rw [List.mem_singleton.1 hn]; exact ia)
 have r4 : ∀ c, tellR (replyOf s (at_ ws 1) (at_ ws 2) c 4) = (tellL errorS [at_ ws 1, at_ ws 2], 0) := fun c => by
  rw [show replyOf s (at_ ws 1) (at_ ws 2) c 4 = (4, at_ ws 1, at_ ws 2, 0, noS) by simp [replyOf, textOf]]
  show tellA _ _ _ _ _ = _
  unfold tellA
  rw [zD (by omega), zD (by omega), zD (by omega), zC rfl]
  exact tellOr_yes (by intro n hn; simp at hn; rcases hn with rfl | rfl <;> assumption)
 have r5 : tellR (replyOf s (at_ ws 1) (at_ ws 2) (at_ ws 3) 5) = (tellL statsS [at_ ws 1, at_ ws 2, at_ ws 3], 0) := by
  rw [show replyOf s (at_ ws 1) (at_ ws 2) (at_ ws 3) 5 = (5, at_ ws 1, at_ ws 2, at_ ws 3, noS) by simp [replyOf, textOf]]
  show tellA _ _ _ _ _ = _
  unfold tellA
  rw [zD (by omega), zD (by omega), zD (by omega), zD (by omega), zC rfl]
  exact tellOr_yes (by intro n hn; simp at hn; rcases hn with rfl | rfl | rfl <;> assumption)
 -- what each reply's text says of the words
 have w1 : ∀ ys, numbersOf s okS 1 = some ys → ys = [at_ ws 1] ∧ tellL okS [at_ ws 1] = s := fun ys h => by
  obtain ⟨a, b, c⟩ := numbers_iff.1 h
  have e1 := at_num a 0 c
  rw [hws] at e1
  obtain ⟨y, rfl⟩ : ∃ y, ys = [y] := by match ys, b with | [y], _ => exact ⟨y, rfl⟩
  simp only [List.getD_cons_zero] at e1
  rw [e1]
  exact ⟨rfl, (tell_words blank_ok).2 a⟩
 have w4 : ∀ ys, numbersOf s errorS 2 = some ys → ys = [at_ ws 1, at_ ws 2] ∧ tellL errorS [at_ ws 1, at_ ws 2] = s := fun ys h => by
  obtain ⟨a, b, c⟩ := numbers_iff.1 h
  have e1 := at_num a 0 c
  have e2 := at_num a 1 c
  rw [hws] at e1 e2
  obtain ⟨y, z, rfl⟩ : ∃ y z, ys = [y, z] := by match ys, b with | [y, z], _ => exact ⟨y, z, rfl⟩
  simp only [List.getD_cons_zero, List.getD_cons_succ] at e1 e2
  rw [e1, e2]
  exact ⟨rfl, (tell_words blank_error).2 a⟩
 have w5 : ∀ ys, numbersOf s statsS 3 = some ys → ys = [at_ ws 1, at_ ws 2, at_ ws 3] ∧ tellL statsS [at_ ws 1, at_ ws 2, at_ ws 3] = s := fun ys h => by
  obtain ⟨a, b, c⟩ := numbers_iff.1 h
  have e1 := at_num a 0 c
  have e2 := at_num a 1 c
  have e3 := at_num a 2 c
  rw [hws] at e1 e2 e3
  obtain ⟨y, z, q, rfl⟩ : ∃ y z q, ys = [y, z, q] := by match ys, b with | [y, z, q], _ => exact ⟨y, z, q, rfl⟩
  simp only [List.getD_cons_zero, List.getD_cons_succ] at e1 e2 e3
  rw [e1, e2, e3]
  exact ⟨rfl, (tell_words blank_stats).2 a⟩
 have v1 : tellL okS [at_ ws 1] = s → numbersOf s okS 1 = some [at_ ws 1] := fun h => numbers_iff.2 ⟨(tell_words blank_ok).1 h, rfl, by intro n hn; rw [List.mem_singleton.1 hn]; exact ia⟩
 have v4 : tellL errorS [at_ ws 1, at_ ws 2] = s → numbersOf s errorS 2 = some [at_ ws 1, at_ ws 2] := fun h => numbers_iff.2 ⟨(tell_words blank_error).1 h, rfl, by intro n hn; simp at hn; rcases hn with rfl | rfl <;> assumption⟩
 have v5 : tellL statsS [at_ ws 1, at_ ws 2, at_ ws 3] = s → numbersOf s statsS 3 = some [at_ ws 1, at_ ws 2, at_ ws 3] := fun h => numbers_iff.2 ⟨(tell_words blank_stats).1 h, rfl, by intro n hn; simp at hn; rcases hn with rfl | rfl | rfl <;> assumption⟩
 have code_of : ∀ l : List UInt8, s.data.toList = 111 :: l ∨ s.data.toList = 101 :: l ∨ s.data.toList = 115 :: l → ¬ s.data.toList.take 5 = codeS.data.toList ∧ s ≠ missS := fun l h => by
  refine ⟨fun e => ?_, fun e => ?_⟩
  ·have := congrArg List.head? e
   rcases h with h | h | h <;> rw [h] at this <;> simp [codeS] at this
  ·rw [e] at h
   rcases h with h | h | h <;> simp [missS] at h
 have hno : ∀ x : Option (List Int), (∀ ys, x = some ys → False) → x = none := fun x h => by cases x with | none => rfl | some y => exact (h y rfl).elim
 refine Ev.bind (g := fun k => cubbyref21_words.f k s) (f := fun k t163 => cubbyref21_Hear.l0 k s t163 [0, 0, 0] 1) (refwords_ev s hs) ?_
 rw [hws]
 refine l0_ev ?_
 refine l1_step 1 2 rfl hs (by omega) (by omega) (fun h => ?_) (fun h1 => ?_)
 ·rw [r1] at h
  have hh := head_of h.2
  obtain ⟨n1, n2⟩ := code_of _ (.inl (hh.trans rfl))
  unfold hearA
  rw [zD n1, zD n2]
  unfold heardOf
  rw [v1 h.2]
  rfl
 rw [r1] at h1
 have n1 : numbersOf s okS 1 = none := hno _ (fun ys hy => h1 ⟨rfl, (w1 ys hy).2⟩)
 refine l1_step 2 3 rfl hs (by omega) (by omega) (fun h => ?_) (fun h2 => ?_)
 ·have h' : codeS ++ textOf s 2 = s := h.2
  have hp : s.data.toList.take 5 = codeS.data.toList := by
   have := congrArg (fun q : ByteArray => q.data.toList.take 5) h'
   simp only [ByteArray.data_append, Array.toList_append] at this
   rw [← this]
   rfl
  have h4 : 4 < s.size := by
   have := congrArg List.length hp
   rw [List.length_take] at this
   have e : codeS.data.toList.length = 5 := rfl
   omega
  unfold hearA
  rw [zC hp]
  have et : textOf s 2 = s.extract 5 s.size := zC ⟨rfl, h4⟩
  show _ = (_, _, _, _, textOf s 2, _)
  rw [et]
  rfl
 have p2 : ¬ s.data.toList.take 5 = codeS.data.toList := fun hp => h2 (by
  have h4 : 4 < s.size := by
   have := congrArg List.length hp
   rw [List.length_take] at this
   have e : codeS.data.toList.length = 5 := rfl
   omega
  refine ⟨rfl, ?_⟩
  show codeS ++ textOf s 2 = s
  have et : textOf s 2 = s.extract 5 s.size := zC ⟨rfl, h4⟩
  rw [et]
  refine ba_ext ?_
  rw [ByteArray.data_append, Array.toList_append, ex_list, List.take_of_length_le (by rw [List.length_drop]; omega), ← hp, List.take_append_drop])
 refine l1_step 3 4 rfl hs (by omega) (by omega) (fun h => ?_) (fun h3 => ?_)
 ·have h' : missS = s := h.2
  unfold hearA
  rw [zD p2, zC h'.symm]
  rfl
 have p3 : s ≠ missS := fun e => h3 ⟨rfl, e.symm⟩
 have eA : hearA s = heardOf s := by unfold hearA; rw [zD p2, zD p3]
 rw [eA]
 unfold heardOf
 rw [n1]
 simp only
 refine l1_step 4 5 rfl hs (by omega) (by omega) (fun h => ?_) (fun h4 => ?_)
 ·rw [r4] at h
  rw [v4 h.2]
  rfl
 rw [r4] at h4
 have n4 : numbersOf s errorS 2 = none := hno _ (fun ys hy => h4 ⟨rfl, (w4 ys hy).2⟩)
 rw [n4]
 simp only
 refine l1_step 5 6 rfl hs (by omega) (by omega) (fun h => ?_) (fun h5 => ?_)
 ·rw [r5] at h
  rw [v5 h.2]
  rfl
 rw [r5] at h5
 have n5 : numbersOf s statsS 3 = none := hno _ (fun ys hy => h5 ⟨rfl, (w5 ys hy).2⟩)
 rw [n5]
 exact l1_end s _
theorem code_back {s : ByteArray} (hp : s.data.toList.take 5 = codeS.data.toList) : codeS ++ s.extract 5 s.size = s := by
 refine ba_ext ?_
 rw [ByteArray.data_append, Array.toList_append, ex_list, List.take_of_length_le (by rw [List.length_drop, size_len]; omega), ← hp, List.take_append_drop]
theorem tell_hear {s : ByteArray} (h : (hearA s).2.2.2.2.2 = 0) : tellA (hearA s).1 (hearA s).2.1 (hearA s).2.2.1 (hearA s).2.2.2.1 (hearA s).2.2.2.2.1 = (s, 0) := by
 unfold hearA at h ⊢
 by_cases h1 : s.data.toList.take 5 = codeS.data.toList
 ·rw [zC h1] at h ⊢
  show (codeS ++ s.extract 5 s.size, (0 : Int)) = _
  rw [code_back h1]
 rw [zD h1] at h ⊢
 by_cases h2 : s = missS
 ·rw [zC h2, h2]; rfl
 rw [zD h2] at h ⊢
 unfold heardOf at h ⊢
 cases n1 : numbersOf s okS 1 with
 | some ys =>
  rw [n1] at h
  obtain ⟨a, b, c⟩ := numbers_iff.1 n1
  obtain ⟨y, rfl⟩ : ∃ y, ys = [y] := by match ys, b with | [y], _ => exact ⟨y, rfl⟩
  show tellOr okS [y] = _
  rw [tellOr_yes c, (tell_words blank_ok).2 a]
 | none =>
 rw [n1] at h
 simp only at h ⊢
 cases n4 : numbersOf s errorS 2 with
 | some ys =>
  obtain ⟨a, b, c⟩ := numbers_iff.1 n4
  obtain ⟨y, z, rfl⟩ : ∃ y z, ys = [y, z] := by match ys, b with | [y, z], _ => exact ⟨y, z, rfl⟩
  show tellOr errorS [y, z] = _
  rw [tellOr_yes c, (tell_words blank_error).2 a]
 | none =>
 rw [n4] at h
 simp only at h ⊢
 cases n5 : numbersOf s statsS 3 with
 | some ys =>
  obtain ⟨a, b, c⟩ := numbers_iff.1 n5
  obtain ⟨y, z, q, rfl⟩ : ∃ y z q, ys = [y, z, q] := by match ys, b with | [y, z, q], _ => exact ⟨y, z, q, rfl⟩
  show tellOr statsS [y, z, q] = _
  rw [tellOr_yes c, (tell_words blank_stats).2 a]
 | none =>
 rw [n5] at h
 simp at h
end Go.Proofs.YtmojmnhaabonpaaDoor.PlainNum
namespace Go.Proofs.YtmojmnhaabonpaaDoor.RAskBack.Pure
open Go Go.RowKit Go.Proofs.YtmojmnhaabonpaaDoorW.PrintWords Go.Proofs.YtmojmnhaabonpaaDoorW.PrintMore Go.Proofs.YtmojmnhaabonpaaDoor.Q Go.Proofs.YtmojmnhaabonpaaDoor.Plain Go.Proofs.YtmojmnhaabonpaaDoor.PlainAsk
set_option linter.unusedVariables false
theorem from_print (s : ByteArray) : ∀ (d : Nat) (k : Int), (parseFrom s d k).2.1.size ≤ s.size ∧ (parseFrom s d k).2.2.1.size ≤ s.size ∧ ((parseFrom s d k).2.2.2 = 0 → (printA (parseFrom s d k).1 (parseFrom s d k).2.1 (parseFrom s d k).2.2.1).2 = 0 ∧ (printA (parseFrom s d k).1 (parseFrom s d k).2.1 (parseFrom s d k).2.2.1).1.toList = s.toList)
 | 0, k => ⟨Nat.zero_le _, Nat.zero_le _, fun h => by simp [parseFrom] at h⟩
 | d + 1, k => by
  unfold parseFrom
  by_cases h : hit k s
  ·rw [zC h]; exact ⟨name_size k s, text_size k s, fun _ => h⟩
  ·rw [zD h]; exact from_print s d (k + 1)
theorem AskBack : AskBack.Pure := by
 intro s h1
 refine Ev.rounds ?_
 by_cases c0 : (s.size : Int) > 4096
 ·exact Ev.congr (f := fun _ => some true) (fun q => by unfold cubbylaw21_AskBack.f; rw [zC c0]) (Ev.now _)
 refine Ev.congr (fun q => by unfold cubbylaw21_AskBack.f; rw [zD c0]) ?_
 obtain ⟨r, ⟨s1, s2, s3, s4⟩, hE⟩ := parse_ev s (by omega)
 obtain ⟨z1, z2, z3⟩ : (parseA s).2.1.size ≤ s.size ∧ (parseA s).2.2.1.size ≤ s.size ∧ ((parseA s).2.2.2 = 0 → (printA (parseA s).1 (parseA s).2.1 (parseA s).2.2.1).2 = 0 ∧ (printA (parseA s).1 (parseA s).2.1 (parseA s).2.2.1).1.toList = s.toList) := from_print s 9 1
 refine Ev.bind hE ?_
 simp only [PlainNum.hear_eq (s := s) (by omega), zJ]
 refine Ev.bind (refparse_ev s (by omega)) (Ev.bind (PlainNum.refhear_ev (by omega)) ?_)
 rw [toList_inj.1 s2, toList_inj.1 s3, s1, s4]
 simp only [if_true, bne_self_eq_false]
 have ht : (PlainNum.hearA s).2.2.2.2.1.size ≤ 1000000 := by
  unfold PlainNum.hearA heardOf
  split
  ·simp only [ByteArray.size_extract]; omega
  split
  ·exact (by decide : noS.size ≤ 1000000)
  split
  ·exact (by decide : noS.size ≤ 1000000)
  split
  ·exact (by decide : noS.size ≤ 1000000)
  split
  ·exact (by decide : noS.size ≤ 1000000)
  ·exact (by decide : noS.size ≤ 1000000)
 refine Ev.step (fun q => by simp only [cubbylaw21_AskBack.j0]; rw [zD Bool.false_ne_true]) (Ev.bind (print_ev (parseA s).1 (parseA s).2.1 (parseA s).2.2.1 (by omega) (by omega)) (Ev.bind (PlainNum.tell_ev _ _ _ _ _ ht) ?_))
 have hb : ∀ f : Nat → Option Bool, (∀ q, f q = if (PlainNum.hearA s).2.2.2.2.2 = 0 then (if (PlainNum.tellA (PlainNum.hearA s).1 (PlainNum.hearA s).2.1 (PlainNum.hearA s).2.2.1 (PlainNum.hearA s).2.2.2.1 (PlainNum.hearA s).2.2.2.2.1).2 = 0 then some ((PlainNum.tellA (PlainNum.hearA s).1 (PlainNum.hearA s).2.1 (PlainNum.hearA s).2.2.1 (PlainNum.hearA s).2.2.2.1 (PlainNum.hearA s).2.2.2.2.1).1.toList == s.toList) else some false) else some true) → Ev f true := fun f hf => by
  refine Ev.congr hf ?_
  by_cases h : (PlainNum.hearA s).2.2.2.2.2 = 0
  ·have e := PlainNum.tell_hear h
   simp only [zC h, e, if_true, beq_self_eq_true]
   exact Ev.now _
  ·simp only [zD h]
   exact Ev.now _
 refine hb _ (fun q => ?_)
 by_cases h : (parseA s).2.2.2 = 0
 ·obtain ⟨a, b⟩ := z3 h
  rw [zC h, zC a, zC b]
 ·rw [zD h]
end Go.Proofs.YtmojmnhaabonpaaDoor.RAskBack.Pure
namespace Go.Proofs.YtmojmnhaabonpaaDoor.RAskBack
open Go.ChangeShapes Go.WideShapes Go.ChangeAt
open Go.ChangeMaps (open_string shut_string)
open Go Go.RowKit Go.Proofs.YtmojmnhaabonpaaDoorW.PrintWords Go.Proofs.YtmojmnhaabonpaaDoorW.PrintLast Go.Proofs.YtmojmnhaabonpaaDoorW.PrintMore Go.Proofs.YtmojmnhaabonpaaDoor.Q Go.Proofs.YtmojmnhaabonpaaDoor.Open
set_option linter.unusedVariables false
theorem own : ownKnob Tryd.prog.godebug = none := by kernel_rfl
theorem laidOut : laidOutB Tryd.prog = true := by kernel_rfl
set_option maxRecDepth 100000 in
theorem lifted (os : Os) (started : os.Started) (H : Type) (enc : TypeId × Value → H) :
 ReturnsInHanded {} Tryd.checked os 5 .any (fun w args => (Rows.askBackSpec.pre enc Tryd.prog Tryd.f5 [] false w args ∧ laidMetH Tryd.prog Rows.askBackRow.laid w) ∧ sizedMet enc Tryd.prog Tryd.f5 (OpenSpec.ofChange Rows.askBackSpec) false w args) (Rows.askBackSpec.post enc Tryd.prog Tryd.f5 false true false false) := by
 refine returnsInHanded_of_change_and (C := Tryd.checked) (X := fun w _ => laidMetH Tryd.prog Rows.askBackRow.laid w) (fun _ _ _ hh h => h.of_heap hh) own started (by kernel_rfl) Tryd.func5
  (ChangeSpec.witness_shaped (enc := enc) (C := Tryd.checked) (os := os) (X := fun w _ => laidMetH Tryd.prog Rows.askBackRow.laid w) false (World.laidAll Tryd.prog os Rows.askBackRow.laid) #[.string ByteArray.empty] 8 (World.laidAll_os _ _ _)
    (World.shaped_of_ZipB (by kernel_rfl) (by kernel_rfl)) (by kernel_rfl) (by kernel_rfl) (by kernel_rfl)
    (by rw [MakeChecks.laidMetH_plain _ _ _ (by kernel_rfl)]; exact laidMet_laidAll _ (by kernel_rfl) (by kernel_rfl))) ?_
 intro W base args ds gs before hval0 hW hcnd hsz0 hL0 _
 rw [MakeChecks.laidMetH_plain _ _ _ (by kernel_rfl)] at hL0
 have LAIDF : LaidW W := LaidW.of_met (show laidMet Tryd.prog laidList W from hL0)
 have hsz : (DataW.weightsEach Tryd.prog (Tryd.f5.params.toList ++ Rows.askBackSpec.plain.varTypes Tryd.prog) (ds ++ gs)).all (· ≤ reachBytes) = true := hsz0
 have hval : ∀ (j : Nat) t v, Tryd.f5.params[j]? = some t → args[j]? = some v → Value.okWide Tryd.prog W .any base t v := hval0
 have hW' := hW
 obtain ⟨p, q, hA0, hV, rfl, hfz, hnd⟩ := hW
 have hA : DataW.TrodAll enc Tryd.prog W 0 (fun _ => true) true Tryd.f5.params.toList args.toList ds p := hA0
 rw [Tryd.params5] at hA hval hsz
 obtain ⟨v0, vs0, d0, ds0, p0, q0, hargs, rfl, rfl, h0, r0⟩ := trodAll_cons hA
 obtain ⟨rfl, rfl, rfl⟩ := trodAll_nil r0
 obtain rfl : args = #[v0] := by cases args; simp_all
 obtain ⟨rfl, rfl⟩ := trodVars_none hV
 have lt0 : ∀ x ∈ p0, x.block < W.heap.size := by obtain ⟨m, hm⟩ := h0; exact DataW.trod_lt m _ _ _ hm
 obtain ⟨a0, rfl, rfl, rfl, w0⟩ := open_string Tryd.underlying9 (hval 0 9 v0 rfl rfl) h0
 have g0 : a0.size ≤ 140737488351232 := by
  have z := sized_string hsz (j := 0) (t := 9) rfl rfl
  rw [Array.length_toList] at z
  exact z
 clear hA0 hval0 hsz0 hsz
 obtain ⟨k, hf⟩ := Pure.AskBack a0 g0
 refine (Q.cubbylaw21_AskBack.calls k a0 true W LAIDF rfl  hf).mono ?_
 rintro e W' ⟨rfl, hd⟩
 have bel : Below W.heap.size W W' := hd
 exact ⟨_, rfl, _, _, _, [], _, [], hW', trodAll_mk1 (shut_bool Tryd.underlying4 _), (trodAll_cons_mk (Below.trod laidOut (by kernel_rfl) (zB (by kernel_rfl)) h0 bel lt0) trodAll_mk0), rfl, bel.frame _, fun h => by cases h⟩
theorem over : Rows.askBackRow.holds Tryd.pinned (OpenSpec.ofChange Rows.askBackSpec) :=
 OpenClaim.holds_of_wide 5 Tryd.f5 rfl rfl rfl rfl rfl rfl rfl ⟨rfl, rfl, rfl, rfl, rfl⟩ rfl rfl rfl rfl rfl (by kernel_rfl) Tryd.func5 (by kernel_rfl)
  (zB (by kernel_rfl)) (by unfold Func.isWrapper; first | (rw [zC (by decide +kernel)]; kernel_rfl) | (rw [zD (by decide +kernel)]; exact ⟨rfl, rfl⟩))
  (fun os started H enc _ => lifted os started H enc)
end Go.Proofs.YtmojmnhaabonpaaDoor.RAskBack
namespace Go.Proofs.YtmojmnhaabonpaaDoor
theorem askBack_holds : Rows.AskBackSaid := RAskBack.over
theorem askBack_card : Rows.AskBackCardSaid :=
 Claim7.holds_tied_plain_at .later [] [.data, .data, .data, .data, .sentinel, .sentinel, .pinned] true (true, "fd5c55a3e85524a783e020c83ca468e8894ce98b3bc4ba02a3da3b94c409b69a") true askBack_holds (fun _ h => by cases h) (by kernel_rfl) (fun _ h => by cases h) askBack_row_tie rfl ⟨rfl, rfl⟩ (by kernel_rfl) rfl
  (fun f fn hf hfn => by
    obtain rfl : f = 5 := zI ((show Tryd.prog.funcNamed "cubby/cubbylaw21.AskBack" = some 5 by kernel_rfl).symm.trans hf) |>.symm
    obtain rfl : fn = Tryd.f5 := (zI (Tryd.func5.symm.trans hfn)).symm
    exact ⟨by kernel_rfl, fun j t ht => by
     rw [Tryd.params5] at ht
     have hm : t ∈ [9] := by simpa using Array.mem_of_getElem? ht
     have hall : ([9].all fun u => !Tryd.prog.wantsStandIn u) = true := by kernel_rfl
     exact (show Tryd.prog.wantsStandIn t = false by simpa using List.all_eq_true.1 hall t hm)⟩)
  (by kernel_rfl)
#print axioms askBack_card
end Go.Proofs.YtmojmnhaabonpaaDoor
