/- TextOne: parts of the proofs, put together. -/
import Derived.Lib.AtoiTie
import Derived.Lib.ItoaNum
import Derived.Lib.ItoaMem
import Derived.Test.YtniknpjeknmpjaaGreatDoorMTextOne1
import Derived.Test.YtniknpjeknmpjaaGreatDoorMTextOne2
namespace Go.Proofs.YtniknpjeknmpjaaGreatDoor.Q
open Go.RowKit Go.Proofs.YtniknpjeknmpjaaGreatDoorW.PrintWords Go.Proofs.YtniknpjeknmpjaaGreatDoorW.PrintLast Go.Proofs.YtniknpjeknmpjaaGreatDoorW.PrintMore
attribute [local go_sem] max2_int min2_int max_two min_two max_three min_three max_four min_four
set_option linter.unusedVariables false
set_option linter.unusedSimpArgs false

mutual
def cubbyref08_Number.j0 : Nat → ByteArray → Bool → Option (Int × Bool)
 | 0, _, _ => none
 | k + 1, x0, x23 => if x23 = true then (some (0, false)) else (cubbyref08_Number.l0 k x0 0 0)
def cubbyref08_Number.l0 : Nat → ByteArray → Int → Int → Option (Int × Bool)
 | 0, _, _, _ => none
 | k + 1, x0, x4, x5 => if x5 < (x0.size : Int) then (if 0 ≤ x5 then (if (bt x0 x5) < 48 then (some (0, false)) else (if (bt x0 x5) > 57 then (some (0, false)) else (cubbyref08_Number.l0 k x0 (wrap64 ((wrap64 (x4 * 10)) + (((bt x0 x5) - 48) % 256))) (wrap64 (x5 + 1))))) else (none)) else (some (x4, decide (x4 ≤ 2147483647)))
end
def cubbyref08_Number.f (k : Nat) (a0 : ByteArray) : Option (Int × Bool) := if (a0.size : Int) < 1 then (cubbyref08_Number.j0 k a0 true) else (if (a0.size : Int) > 10 then (cubbyref08_Number.j0 k a0 true) else (if 0 < (a0.size : Int) then (if (bt a0 0) = 48 then (cubbyref08_Number.j0 k a0 (decide ((a0.size : Int) > 1))) else (cubbyref08_Number.j0 k a0 false)) else (none)))
set_option maxHeartbeats 8000000 in
set_option maxRecDepth 100000 in
theorem cubbyref08_Number.calls (k : Nat) (a0 : ByteArray) (r1 : Int) (r2 : Bool) (w : World) (h : cubbyref08_Number.f k a0 = some (r1, r2)) :
 Calls Tryz.prog 68 #[.string a0] w fun e w' => e = .returned (.tuple #[.int .i64 r1, .bool r2]) ∧ Drawn0 w w' := by
 have H := h; clear h; unfold cubbyref08_Number.f at H
 have HC2 := zA H
 clear H
 go_enter Tryz.func68, Tryz.ntmps68
 go_upto_region 1 with (fail)
 go_cut [23] (fun v23 wc => ∃ (kq : Nat) (x23_1 : Bool), v23 = .bool x23_1 ∧ Aside0 (cubbyref08_Number.j0 kq a0 x23_1 = some (r1, r2)) ∧ Aside0 (kq ≤ k) ∧ Drawn0 w wc)
 case first =>
  have H := HC2.out
  clear HC2
  by_cases c3 : (a0.size : Int) < 1
  ·rw [zC c3] at H
   have c3b0 := zF c3
   have c3b1 : decide (a0.size < 1) = true := zF (by omega)
   clear c3
   (first | rw [c3b0] | (simp only [i64_w, i32_w]; rw [c3b0]) | skip)
   have H' := zA H
   clear H
   go_wp2
   go_meet
   case rel => exact ⟨_, (true), qT, H', ⟨qO⟩, qD⟩
  ·rw [zD c3] at H
   have c3b0 := zG c3
   have c3b1 : decide (a0.size < 1) = false := zG (by omega)
   clear c3
   (first | rw [c3b0] | (simp only [i64_w, i32_w]; rw [c3b0]) | skip)
   by_cases c4 : (a0.size : Int) > 10
   ·rw [zC c4] at H
    have c4b0 : decide (10 < (a0.size : Int)) = true := zF c4
    have c4b1 : decide (10 < a0.size) = true := zF (by omega)
    clear c4
    have H' := zA H
    clear H
    go_wp2
    go_meet
    case rel => exact ⟨_, (true), qT, H', ⟨qO⟩, qD⟩
   ·rw [zD c4] at H
    have c4b0 : decide (10 < (a0.size : Int)) = false := zG c4
    have c4b1 : decide (10 < a0.size) = false := zG (by omega)
    clear c4
    by_cases c5 : 0 < (a0.size : Int)
    ·rw [zC c5] at H
     have c5b0 := zF c5
     have c5b1 : decide (0 < a0.size) = true := zF (by omega)
     clear c5
     by_cases c7 : (bt a0 0) = 48
     ·rw [zC c7] at H
      obtain ⟨c7b0, c7b1⟩ := qe c7; clear c7
      have H' := zA H
      clear H
      have p6 : 0 ≤ (0 : Int) := (by omega)
      have q6 : 0 < a0.size := (by have : (0 : Int) < (a0.size : Int) := zB qA; omega)
      have hx6 : ∀ h : 0 < a0.size, ((a0[0]'h).toNat : Int) = bt a0 0 := bt_at a0 0
      clear p6
      have qi6 : (0 < (a0.size : Int)) = True := eq_true (zB qA)
      replace q6 := eq_true q6
      go_wp2
      go_meet
      case rel => exact ⟨_, (decide ((a0.size : Int) > 1)), qT, H', ⟨qO⟩, qD⟩
     ·rw [zD c7] at H
      obtain ⟨c7b0, c7b1⟩ := qn c7
      have H' := zA H
      clear H
      have p6 : 0 ≤ (0 : Int) := (by omega)
      have q6 : 0 < a0.size := (by have : (0 : Int) < (a0.size : Int) := zB qA; omega)
      have hx6 : ∀ h : 0 < a0.size, ((a0[0]'h).toNat : Int) = bt a0 0 := bt_at a0 0
      clear p6
      have qi6 : (0 < (a0.size : Int)) = True := eq_true (zB qA)
      replace q6 := eq_true q6
      go_wp2
      go_meet
      case rel => exact ⟨_, (false), qT, H', ⟨qO⟩, qD⟩
    ·rw [zD c5] at H
     exact absurd H (by simp)
 case rest =>
  clear HC2
  try clear p2; try clear c3; try clear c3b0 c3b1; try clear c4; try clear c4b0 c4b1; try clear c5; try clear c5b0 c5b1; try clear c6; try clear p6; try clear q6; try clear hx6; try clear qi6; try clear c7; try clear c7b0 c7b1
  obtain ⟨kq, x23_1, rfl, HA, HJ1, ⟨mc1, rfl⟩⟩ := hcut
  cases kq with
  | zero => exact absurd HA.out (by simp [cubbyref08_Number.j0])
  | succ kj1 =>
   have H := HA.out
   clear HA
   simp only [cubbyref08_Number.j0] at H
   by_cases c8 : x23_1 = true
   ·subst c8
    have H1 : (some (0, false)) = some (r1, r2) := by rw [zC rfl] at H; exact H
    clear H
    have H := H1
    clear H1
    simp only [Option.some.injEq, Prod.mk.injEq] at H
    obtain ⟨rfl, rfl⟩ := H
    go_wp2
    go_ret2
    exact ⟨by first | rfl | (simp; done) | (simp [*]; done), qD⟩
   ·replace c8 := Bool.eq_false_iff.mpr c8
    subst c8
    have H1 : (cubbyref08_Number.l0 kj1 a0 0 0) = some (r1, r2) := by rw [zD (show ¬ (false = true) by decide)] at H; exact H
    clear H
    have H := H1
    clear H1
    have H' := zA H
    clear H
    go_wp2
    go_loopg [4, 5] kj1 (fun kq v4 v5 w' => ∃ (x4_2 : Int) (x5_2 : Int), v4 = .int .i64 x4_2 ∧ v5 = .int .i64 x5_2 ∧ Aside0 (cubbyref08_Number.l0 kq a0 x4_2 x5_2 = some (r1, r2)) ∧ Aside0 (kq ≤ kj1) ∧ Drawn0 w w')
    case atStart => exact ⟨(0), (0), qT, qT, H', ⟨Nat.le_refl _⟩, qD⟩
    case round =>
     clear H'
     try clear c1; try clear p2; try clear c3; try clear c3b0 c3b1; try clear c4; try clear c4b0 c4b1; try clear c5; try clear c5b0 c5b1; try clear c6; try clear p6; try clear q6; try clear hx6; try clear qi6; try clear c7; try clear c7b0 c7b1; try clear c8
     obtain ⟨x4_2, x5_2, rfl, rfl, HA, HK2, ⟨m2, rfl⟩⟩ := hrel
     cases gk with
     | zero => exact absurd HA.out (by simp [cubbyref08_Number.l0])
     | succ k2 =>
      have H := HA.out
      clear HA
      simp only [cubbyref08_Number.l0] at H
      by_cases c9 : x5_2 < (a0.size : Int)
      ·rw [zC c9] at H
       have c9b0 := zF c9
       clear c9
       by_cases c10 : 0 ≤ x5_2
       ·rw [zC c10] at H
        have c10b0 := zF c10
        clear c10
        by_cases c12 : (bt a0 x5_2) < 48
        ·rw [zC c12] at H
         have c12b0 := zF c12
         clear c12
         simp only [Option.some.injEq, Prod.mk.injEq] at H
         obtain ⟨rfl, rfl⟩ := H
         have p11 : 0 ≤ (x5_2 : Int) := zB qA
         have q11 : x5_2 < (a0.size : Int) := zB qA
         have hx11 := bt_at a0 x5_2
         replace p11 := eq_true p11
         replace q11 := eq_true q11
         go_wp2
         go_ret2
         exact ⟨by first | rfl | (simp; done) | (simp [*]; done), qD⟩
        ·rw [zD c12] at H
         have c12b0 := zG c12
         clear c12
         by_cases c14 : (bt a0 x5_2) > 57
         ·rw [zC c14] at H
          have c14b0 : decide (57 < (bt a0 x5_2)) = true := zF c14
          clear c14
          simp only [Option.some.injEq, Prod.mk.injEq] at H
          obtain ⟨rfl, rfl⟩ := H
          have p11 : 0 ≤ (x5_2 : Int) := zB qA
          have q11 : x5_2 < (a0.size : Int) := zB qA
          have hx11 := bt_at a0 x5_2
          replace p11 := eq_true p11
          replace q11 := eq_true q11
          have p13 : 0 ≤ (x5_2 : Int) := zB qA
          have q13 : x5_2 < (a0.size : Int) := zB qA
          have hx13 := bt_at a0 x5_2
          replace p13 := eq_true p13
          replace q13 := eq_true q13
          go_wp2
          go_ret2
          exact ⟨by first | rfl | (simp; done) | (simp [*]; done), qD⟩
         ·rw [zD c14] at H
          have c14b0 : decide (57 < (bt a0 x5_2)) = false := zG c14
          clear c14
          have H' := zA H
          clear H
          have p11 : 0 ≤ (x5_2 : Int) := zB qA
          have q11 : x5_2 < (a0.size : Int) := zB qA
          have hx11 := bt_at a0 x5_2
          replace p11 := eq_true p11
          replace q11 := eq_true q11
          have p13 : 0 ≤ (x5_2 : Int) := zB qA
          have q13 : x5_2 < (a0.size : Int) := zB qA
          have hx13 := bt_at a0 x5_2
          replace p13 := eq_true p13
          replace q13 := eq_true q13
          have p15 : 0 ≤ (x5_2 : Int) := zB qA
          have q15 : x5_2 < (a0.size : Int) := zB qA
          have hx15 := bt_at a0 x5_2
          replace p15 := eq_true p15
          replace q15 := eq_true q15
          go_wp2
          go_roundg k2
          case measure => have := HJ1.out; have := HK2.out; omega
          case rel => exact ⟨(wrap64 ((wrap64 (x4_2 * 10)) + (((bt a0 x5_2) - 48) % 256))), (wrap64 (x5_2 + 1)), qT, qT, H', ⟨by have := HJ1.out; have := HK2.out; omega⟩, qD⟩
       ·rw [zD c10] at H
        exact absurd H (by simp)
      ·rw [zD c9] at H
       have c9b0 := zG c9
       clear c9
       simp only [Option.some.injEq, Prod.mk.injEq] at H
       obtain ⟨rfl, rfl⟩ := H
       go_wp2
       go_ret2
       exact ⟨by first | rfl | (simp; done) | (simp [*]; done), qD⟩
end Go.Proofs.YtniknpjeknmpjaaGreatDoor.Q
namespace Go.Proofs.YtniknpjeknmpjaaGreatDoor.PlainNum
open Go Go.RowKit Go.Proofs.YtniknpjeknmpjaaGreatDoorW.PrintWords Go.Proofs.YtniknpjeknmpjaaGreatDoorW.PrintMore Go.Proofs.YtniknpjeknmpjaaGreatDoor.Q Go.Proofs.YtniknpjeknmpjaaGreatDoor.Plain
set_option linter.unusedVariables false
theorem dec_small {u : Nat} (h : u < 10) : Lib.decDigits u = [UInt8.ofNat (48 + u)] := Lib.decDigits_one h
theorem dec_big {u : Nat} (h : ¬ u < 10) : Lib.decDigits u = Lib.decDigits (u / 10) ++ [UInt8.ofNat (48 + u % 10)] := by rw [Lib.decDigits, dif_neg h]
theorem digit_nat {d : Nat} (h : d < 10) : (UInt8.ofNat (48 + d)).toNat = 48 + d := by simp; omega
theorem dec_mem : ∀ (u : Nat), ∀ b ∈ Lib.decDigits u, 48 ≤ b.toNat ∧ b.toNat ≤ 57 := by
 intro u
 induction u using Nat.strongRecOn with
 | _ u ih =>
  by_cases h : u < 10
  ·rw [dec_small h]; intro b hb; rw [List.mem_singleton.1 hb, digit_nat h]; omega
  ·rw [dec_big h]; intro b hb
   rcases List.mem_append.1 hb with hb | hb
   ·exact ih (u / 10) (by omega) b hb
   ·rw [List.mem_singleton.1 hb, digit_nat (by omega)]; omega
theorem dec_ne (u : Nat) : Lib.decDigits u ≠ [] := by
 by_cases h : u < 10
 ·rw [dec_small h]; simp
 ·rw [dec_big h]; simp
theorem dec_head (u : Nat) (b : UInt8) (l : List UInt8) (h : Lib.decDigits u = b :: l) (h0 : b.toNat = 48) : l = [] := by
 have : ∀ (u : Nat), ∀ b l, Lib.decDigits u = b :: l → 0 < u → b.toNat ≠ 48 := by
  intro u
  induction u using Nat.strongRecOn with
  | _ u ih =>
   intro b l h hu
   by_cases h1 : u < 10
   ·rw [dec_small h1] at h; simp only [List.cons.injEq] at h; rw [← h.1, digit_nat h1]; omega
   ·rw [dec_big h1] at h
    cases hd : Lib.decDigits (u / 10) with
    | nil => exact absurd hd (dec_ne _)
    | cons c r =>
     rw [hd] at h
     simp only [List.cons_append, List.cons.injEq] at h
     rw [← h.1]
     exact ih (u / 10) (by omega) c r hd (by omega)
 by_cases hu : 0 < u
 ·exact absurd h0 (this u b l h hu)
 ·obtain rfl : u = 0 := by omega
  rw [dec_small (by omega)] at h
  simp only [List.cons.injEq] at h
  exact h.2.symm
theorem dec_len : ∀ (k u : Nat), u < 10 ^ (k + 1) → (Lib.decDigits u).length ≤ k + 1
 | 0, u, h => by rw [dec_small (by simpa using h)]; simp
 | k + 1, u, h => by
  by_cases h1 : u < 10
  ·rw [dec_small h1]; simp
  ·have := dec_len k (u / 10) (by rw [Nat.pow_succ] at h; omega)
   rw [dec_big h1]; simp; omega
theorem from_snoc : ∀ (l : List UInt8) (acc n : Nat) (d : Nat), Lib.decFrom acc l = some n → d < 10 → Lib.decFrom acc (l ++ [UInt8.ofNat (48 + d)]) = some (n * 10 + d)
 | [], acc, n, d, h, hd => by
  simp only [Lib.decFrom, Option.some.injEq] at h
  subst h
  have : Lib.digitVal (UInt8.ofNat (48 + d)) = some d := by unfold Lib.digitVal; rw [digit_nat hd, zC (by omega)]; congr 1; omega
  simp only [List.nil_append, Lib.decFrom, this]
 | b :: l, acc, n, d, h, hd => by
  simp only [List.cons_append, Lib.decFrom] at h ⊢
  cases hv : Lib.digitVal b with
  | none => rw [hv] at h; simp at h
  | some v => rw [hv] at h; simp only at h ⊢; exact from_snoc l _ n d h hd
theorem dec_val : ∀ (u : Nat), Lib.decFrom 0 (Lib.decDigits u) = some u := by
 intro u
 induction u using Nat.strongRecOn with
 | _ u ih =>
  by_cases h : u < 10
  ·rw [dec_small h]; have := from_snoc [] 0 0 u rfl h; simpa using this
  ·rw [dec_big h, from_snoc _ 0 _ (u % 10) (ih (u / 10) (by omega)) (by omega)]; congr 1; omega
theorem dec_atoi {u : Nat} (h : u < 10000000000) : Lib.atoiAll (Lib.decDigits u) = .ok (u : Int) := by
 have hl := dec_len 9 u (by simpa using h)
 rw [Lib.atoiAll_short _ (by omega)]
 have hv := dec_val u
 have hm := dec_mem u
 cases hd : Lib.decDigits u with
 | nil => exact absurd hd (dec_ne u)
 | cons b r =>
  rw [hd] at hv hm
  have hb := hm b List.mem_cons_self
  have e1 : (b == 45) = false := by rw [beq_eq_false_iff_ne]; intro e; subst e; simp at hb
  have e2 : (b == 43) = false := by rw [beq_eq_false_iff_ne]; intro e; subst e; simp at hb
  unfold Lib.atoi
  simp only [e1, e2, Bool.false_eq_true, if_false, Lib.decNat, List.isEmpty_cons, hv, Option.map_some, Lib.NumEnd.ofOption]
def num (n : Int) : ByteArray := ⟨(Lib.decDigits n.toNat).toArray⟩
theorem num_list (n : Int) : (num n).data.toList = Lib.decDigits n.toNat := by simp [num]
theorem itoa_num {n : Int} (h : 0 ≤ n) : (⟨(Lib.itoa n).toArray⟩ : ByteArray) = num n := by
 unfold num Lib.itoa
 rw [zD (by omega)]
theorem numOf_num {n : Int} (h0 : 0 ≤ n) (h1 : n < 2147483648) : numOf (num n) = some n := by
 have h := dec_atoi (u := n.toNat) (by omega)
 rw [← num_list, Int.toNat_of_nonneg h0] at h
 rw [numOf_ok h, zC ⟨h0, h1, itoa_num h0⟩]
theorem numOf_some {t : ByteArray} {v : Int} (h : numOf t = some v) : 0 ≤ v ∧ v < 2147483648 ∧ t = num v := by
 unfold numOf at h
 split at h
 ·split at h
  ·rename_i hc
   obtain rfl := zI h
   exact ⟨hc.1, hc.2.1, by rw [← hc.2.2, itoa_num hc.1]⟩
  ·cases h
 ·cases h
theorem num_size {n : Int} (h1 : n < 2147483648) : (num n).size ≤ 10 := by
 have := dec_len 9 n.toNat (by have e10 : (10 : Nat) ^ (9 + 1) = 10000000000 := (by decide); omega)
 show (num n).data.size ≤ 10
 rw [← Array.length_toList, num_list]
 exact this
def tens : ByteArray := ⟨#[48, 49, 50, 51, 52, 53, 54, 55, 56, 57]⟩
theorem tens_at {d : Nat} (h : d < 10) : (tens.extract d (d + 1)).data.toList = [UInt8.ofNat (48 + d)] := by
 have : d = 0 ∨ d = 1 ∨ d = 2 ∨ d = 3 ∨ d = 4 ∨ d = 5 ∨ d = 6 ∨ d = 7 ∨ d = 8 ∨ d = 9 := by omega
 rcases this with rfl | rfl | rfl | rfl | rfl | rfl | rfl | rfl | rfl | rfl <;> rfl
theorem tens_size {d : Nat} (h : d < 10) : ((⟨#[48, 49, 50, 51, 52, 53, 54, 55, 56, 57]⟩ : ByteArray).extract d (d + 1)).size = 1 := by
 show (tens.extract d (d + 1)).data.size = 1
 rw [← Array.length_toList, tens_at h]; rfl
theorem ba_ext {a b : ByteArray} (h : a.data.toList = b.data.toList) : a = b := toList_inj.1 (by rw [toList_data, toList_data, h])
theorem bt_get {s : ByteArray} {j : Nat} (h : j < s.data.toList.length) : bt s (j : Int) = ((s.data.toList[j]).toNat : Int) := by
 have hs : j < s.size := by simpa using h
 unfold bt
 rw [dif_pos (by simpa using hs)]
 simp
 rfl
theorem number_loop (s : ByteArray) (hs : s.size ≤ 10) (hd : ∀ b ∈ s.data.toList, 48 ≤ b.toNat ∧ b.toNat ≤ 57) : ∀ (d j acc v : Nat), s.data.toList.length - j = d → j ≤ s.data.toList.length → acc < 10 ^ j → Lib.decFrom acc (s.data.toList.drop j) = some v →
 Ev (fun k => cubbyref08_Number.l0 k s (acc : Int) (j : Int)) ((v : Int), decide ((v : Int) ≤ 2147483647)) := by
 have hsl : s.data.toList.length = s.size := by simp
 intro d
 induction d with
 | zero =>
  intro j acc v hj hjl ha hv
  rw [List.drop_eq_nil_of_le (by omega)] at hv
  simp only [Lib.decFrom, Option.some.injEq] at hv
  subst hv
  refine ⟨1, fun k hk => ?_⟩
  obtain ⟨q, rfl⟩ : ∃ q, k = q + 1 := ⟨k - 1, by omega⟩
  simp only [cubbyref08_Number.l0]
  rw [zD (by omega)]
 | succ d ih =>
  intro j acc v hj hjl ha hv
  have hlt : j < s.data.toList.length := by omega
  rw [List.drop_eq_getElem_cons hlt] at hv
  have hb := hd _ (List.getElem_mem hlt)
  have hbt := bt_get hlt
  generalize s.data.toList[j] = b at hv hb hbt
  have hdv : Lib.digitVal b = some (b.toNat - 48) := by unfold Lib.digitVal; rw [zC hb]
  simp only [Lib.decFrom, hdv] at hv
  have h10 : (10 : Nat) ^ (j + 1) ≤ 10 ^ 10 := Nat.pow_le_pow_right (by decide) (by omega)
  have h10' : (10 : Nat) ^ 10 = 10000000000 := by decide
  have ha2 : acc * 10 + (b.toNat - 48) < 10 ^ (j + 1) := by rw [Nat.pow_succ]; omega
  refine Ev.step (fun k => ?_) (ih (j + 1) (acc * 10 + (b.toNat - 48)) v (by omega) (by omega) ha2 hv)
  simp only [cubbyref08_Number.l0]
  have ha3 : acc * 10 < 10000000000 := by omega
  rw [zC (by omega), zC (by omega), hbt, zD (by omega), zD (by omega), wrap_nat (by omega), wrap_id (i := (acc : Int) * 10) (by omega) (by omega), show ((b.toNat : Int) - 48) % 256 = ((b.toNat - 48 : Nat) : Int) by omega, wrap_id (by omega) (by omega)]
  rfl
theorem number_num {n : Int} (h0 : 0 ≤ n) (h1 : n < 2147483648) : Ev (fun k => cubbyref08_Number.f k (num n)) (n, true) := by
 obtain ⟨m, rfl⟩ : ∃ m : Nat, n = m := ⟨n.toNat, by omega⟩
 have hsz := num_size h1
 have hl := num_list (m : Int)
 rw [Int.toNat_natCast] at hl
 have hne := dec_ne m
 have hpos : 0 < (num (m : Int)).size := by
  rw [← hl] at hne
  have := List.length_pos_iff.2 hne
  simpa using this
 have h := number_loop (num m) hsz (by rw [hl]; exact dec_mem m) _ 0 0 m rfl (by omega) (by simp) (by rw [List.drop_zero, hl]; exact dec_val m)
 rw [show (decide ((m : Int) ≤ 2147483647)) = true from zF (by omega)] at h
 have hb0 : bt (num (m : Int)) 0 = 48 → ¬ ((num (m : Int)).size : Int) > 1 := by
  intro hb
  have hlt : 0 < (num (m : Int)).data.toList.length := by simpa using hpos
  have hg := bt_get hlt
  cases hd : Lib.decDigits m with
  | nil => exact absurd hd (dec_ne m)
  | cons b r =>
   have e : (num (m : Int)).data.toList[0] = b := by simp only [hl, hd, List.getElem_cons_zero]
   rw [e] at hg
   have hr := dec_head m b r hd (by have : bt (num (m : Int)) ((0 : Nat) : Int) = 48 := hb; omega)
   have : (num (m : Int)).data.toList.length = 1 := by rw [hl, hd, hr]; rfl
   have : (num (m : Int)).size = 1 := by simpa using this
   omega
 refine Ev.congr (f := fun k => cubbyref08_Number.j0 k (num m) false) (fun k => ?_) (Ev.step (fun k => ?_) h)
 ·unfold cubbyref08_Number.f
  rw [zD (by omega), zD (by omega), zC (by omega)]
  by_cases hb : bt (num (m : Int)) 0 = 48
  ·rw [zC hb, zG (hb0 hb)]
  ·rw [zD hb]
 ·simp only [cubbyref08_Number.j0]
  rw [zD (by simp)]
  rfl
theorem number_end (s : ByteArray) (hs : s.size ≤ 10) : ∀ (d j acc : Nat), s.data.toList.length - j = d → j ≤ s.data.toList.length → acc < 10 ^ j → Lib.decFrom 0 (s.data.toList.take j) = some acc →
 ∃ r : Int × Bool, Ev (fun k => cubbyref08_Number.l0 k s (acc : Int) (j : Int)) r ∧ (r.2 = true → (0 ≤ r.1 ∧ r.1 < 2147483648) ∧ Lib.decFrom 0 s.data.toList = some r.1.toNat) := by
 have hsl : s.data.toList.length = s.size := by simp
 intro d
 induction d with
 | zero =>
  intro j acc hj hjl ha hv
  refine ⟨((acc : Int), decide ((acc : Int) ≤ 2147483647)), ⟨1, fun k hk => ?_⟩, fun h => ?_⟩
  ·obtain ⟨q, rfl⟩ : ∃ q, k = q + 1 := ⟨k - 1, by omega⟩
   simp only [cubbyref08_Number.l0]
   rw [zD (by omega)]
  ·have := zB h
   refine ⟨by simp only; omega, ?_⟩
   rw [List.take_of_length_le (by omega)] at hv
   exact hv
 | succ d ih =>
  intro j acc hj hjl ha hv
  have hlt : j < s.data.toList.length := by omega
  have hbt := bt_get hlt
  have hgt : s.data.toList[j]? = some s.data.toList[j] := List.getElem?_eq_getElem hlt
  generalize s.data.toList[j] = b at hbt hgt
  have stop : (b.toNat : Int) < 48 ∨ (b.toNat : Int) > 57 → ∃ r : Int × Bool, Ev (fun k => cubbyref08_Number.l0 k s (acc : Int) (j : Int)) r ∧ (r.2 = true → (0 ≤ r.1 ∧ r.1 < 2147483648) ∧ Lib.decFrom 0 s.data.toList = some r.1.toNat) := fun hc => by
   refine ⟨(0, false), ⟨1, fun k hk => ?_⟩, fun h => by cases h⟩
   obtain ⟨q, rfl⟩ : ∃ q, k = q + 1 := ⟨k - 1, by omega⟩
   simp only [cubbyref08_Number.l0]
   rw [zC (by omega), zC (by omega), hbt]
   rcases hc with hc | hc
   ·rw [zC hc]
   ·by_cases h1 : (b.toNat : Int) < 48
    ·rw [zC h1]
    ·rw [zD h1, zC hc]
  by_cases h1 : (b.toNat : Int) < 48
  ·exact stop (.inl h1)
  by_cases h2 : (b.toNat : Int) > 57
  ·exact stop (.inr h2)
  have h10 : (10 : Nat) ^ (j + 1) ≤ 10 ^ 10 := Nat.pow_le_pow_right (by decide) (by omega)
  have h10' : (10 : Nat) ^ 10 = 10000000000 := by decide
  have ha2 : acc * 10 + (b.toNat - 48) < 10 ^ (j + 1) := by rw [Nat.pow_succ]; omega
  obtain ⟨r, hr, hr2⟩ := ih (j + 1) (acc * 10 + (b.toNat - 48)) (by omega) (by omega) ha2 (Lib.decFrom_take _ _ _ _ _ _ hv hgt (by unfold Lib.digitVal; rw [zC (by omega)]))
  refine ⟨r, Ev.step (fun k => ?_) hr, hr2⟩
  simp only [cubbyref08_Number.l0]
  have ha3 : acc * 10 < 10000000000 := by omega
  rw [zC (by omega), zC (by omega), hbt, zD h1, zD h2, wrap_nat (by omega), wrap_id (i := (acc : Int) * 10) (by omega) (by omega), show ((b.toNat : Int) - 48) % 256 = ((b.toNat - 48 : Nat) : Int) by omega, wrap_id (by omega) (by omega)]
  rfl
theorem number_total (s : ByteArray) : ∃ r : Int × Bool, Ev (fun k => cubbyref08_Number.f k s) r ∧ (r.2 = true → (0 ≤ r.1 ∧ r.1 < 2147483648) ∧ Lib.decFrom 0 s.data.toList = some r.1.toNat ∧ 1 ≤ s.size ∧ (bt s 0 = 48 → s.size = 1)) := by
 have no : ∀ (g : Nat → Option (Int × Bool)), (∀ k, g k = cubbyref08_Number.j0 k s true) → ∃ r : Int × Bool, Ev g r ∧ (r.2 = true → (0 ≤ r.1 ∧ r.1 < 2147483648) ∧ Lib.decFrom 0 s.data.toList = some r.1.toNat ∧ 1 ≤ s.size ∧ (bt s 0 = 48 → s.size = 1)) := fun g hg =>
  ⟨(0, false), ⟨1, fun k hk => by obtain ⟨q, rfl⟩ : ∃ q, k = q + 1 := ⟨k - 1, by omega⟩; rw [hg]; simp only [cubbyref08_Number.j0]; rw [zC trivial]⟩, fun h => by cases h⟩
 by_cases h1 : (s.size : Int) < 1
 ·exact no _ (fun k => by unfold cubbyref08_Number.f; rw [zC h1])
 by_cases h2 : (s.size : Int) > 10
 ·exact no _ (fun k => by unfold cubbyref08_Number.f; rw [zD h1, zC h2])
 obtain ⟨r, hr, hr2⟩ := number_end s (by omega) _ 0 0 rfl (by omega) (by simp) rfl
 have go : ∀ (g : Nat → Option (Int × Bool)), (bt s 0 = 48 → s.size = 1) → (∀ k, g k = cubbyref08_Number.j0 k s false) → ∃ r : Int × Bool, Ev g r ∧ (r.2 = true → (0 ≤ r.1 ∧ r.1 < 2147483648) ∧ Lib.decFrom 0 s.data.toList = some r.1.toNat ∧ 1 ≤ s.size ∧ (bt s 0 = 48 → s.size = 1)) := fun g hz hg =>
  ⟨r, Ev.congr (f := fun k => cubbyref08_Number.j0 k s false) hg (Ev.step (fun k => by simp only [cubbyref08_Number.j0]; rw [zD (by simp)]; rfl) hr), fun h => ⟨(hr2 h).1, (hr2 h).2, by omega, hz⟩⟩
 by_cases hb : bt s 0 = 48
 ·by_cases h3 : (s.size : Int) > 1
  ·exact no _ (fun k => by unfold cubbyref08_Number.f; rw [zD h1, zD h2, zC (by omega), zC hb, zF h3])
  ·exact go _ (fun _ => by omega) (fun k => by unfold cubbyref08_Number.f; rw [zD h1, zD h2, zC (by omega), zC hb, zG h3])
 ·exact go _ (fun h => absurd h hb) (fun k => by unfold cubbyref08_Number.f; rw [zD h1, zD h2, zC (by omega), zD hb])
theorem dec_back (n : Nat) : ∀ (l : List UInt8) (m : Nat), l.length = n → l ≠ [] → (∀ b r, l = b :: r → b.toNat = 48 → r = []) → Lib.decFrom 0 l = some m → Lib.decDigits m = l := by
 induction n with
 | zero => intro l m hl hne; exact absurd (List.eq_nil_of_length_eq_zero hl) hne
 | succ n ih =>
  intro l m hl hne hz hm
  have hlt : n < l.length := by omega
  obtain ⟨d, hd⟩ := Lib.digit_of_decFrom l 0 m hm n l[n] (List.getElem?_eq_getElem hlt)
  obtain ⟨q, hq⟩ := Lib.decFrom_prefix l 0 m hm n
  have hs := Lib.decFrom_take l n 0 q l[n] d hq (List.getElem?_eq_getElem hlt) hd
  rw [List.take_of_length_le (by omega), hm] at hs
  injection hs with hs
  have hsp : l = l.take n ++ [l[n]] := by
   conv => lhs; rw [← List.take_append_drop n l]
   rw [List.drop_eq_getElem_cons hlt, List.drop_eq_nil_of_le (by omega)]
  have hb : l[n].toNat = 48 + d ∧ d < 10 := by
   unfold Lib.digitVal at hd
   split at hd
   ·injection hd with hd; omega
   ·cases hd
  have hbb : l[n] = UInt8.ofNat (48 + d) := by rw [← hb.1]; simp
  generalize l[n] = c at hsp hb hbb hd
  by_cases h0 : n = 0
  ·subst h0
   have : q = 0 := by simpa [Lib.decFrom] using hq.symm
   subst this
   have e : m = d := by omega
   rw [e, dec_small hb.2, hsp]
   simpa using hbb.symm
  ·have hq0 : q ≠ 0 := by
    intro e
    subst e
    have := ih (l.take n) 0 (by simp; omega) (by intro h; have := congrArg List.length h; rw [List.length_take, List.length_nil] at this; omega) ?_ hq
    ·have h1 : Lib.decDigits 0 = [UInt8.ofNat 48] := dec_small (by decide)
     rw [h1] at this
     have hl1 := congrArg List.length this
     simp at hl1
     have := hz (UInt8.ofNat 48) [c] (by rw [hsp, ← this]; rfl) (by decide)
     cases this
    ·intro b r hbr hb48
     have := hz b (r ++ [c]) (by rw [hsp, hbr]; rfl) hb48
     simp at this
   have hbig : ¬ m < 10 := by omega
   rw [dec_big hbig, show m / 10 = q by omega, show m % 10 = d by omega, ih (l.take n) q (by simp; omega) (by intro h; have := congrArg List.length h; rw [List.length_take, List.length_nil] at this; omega) ?_ hq, ← hbb]
   ·exact hsp.symm
   ·intro b r hbr hb48
    have := hz b (r ++ [c]) (by rw [hsp, hbr]; rfl) hb48
    simp at this
theorem number_all (s : ByteArray) : ∃ x : Int, Ev (fun k => cubbyref08_Number.f k s) (match numOf s with | some v => (v, true) | none => (x, false)) := by
 cases hn : numOf s with
 | some v =>
  obtain ⟨h0, h1, rfl⟩ := numOf_some hn
  exact ⟨0, number_num h0 h1⟩
 | none =>
  obtain ⟨⟨x, b⟩, he, hb⟩ := number_total s
  cases b with
  | false => exact ⟨x, he⟩
  | true =>
   obtain ⟨⟨h0, h1⟩, hd, hs1, hz⟩ := hb rfl
   have hsl : s.data.toList.length = s.size := by simp
   have hne : s.data.toList ≠ [] := fun h => by rw [h] at hsl; simp at hsl; omega
   have hbk := dec_back _ s.data.toList x.toNat rfl hne (fun b r hbr hb48 => ?_) hd
   ·have : s = num x := ba_ext (by rw [num_list]; exact hbk.symm)
    rw [this, numOf_num h0 h1] at hn
    cases hn
   ·have hlt : 0 < s.data.toList.length := by omega
    have hg := bt_get hlt
    have e : s.data.toList[0] = b := by simp only [hbr, List.getElem_cons_zero]
    rw [e] at hg
    have h1 : s.size = 1 := hz (by show bt s ((0 : Nat) : Int) = 48; omega)
    rw [hbr] at hsl
    simp at hsl
    exact List.eq_nil_of_length_eq_zero (by omega)
end Go.Proofs.YtniknpjeknmpjaaGreatDoor.PlainNum
namespace Go.Proofs.YtniknpjeknmpjaaGreatDoor.Q
open Go.RowKit Go.Proofs.YtniknpjeknmpjaaGreatDoorW.PrintWords Go.Proofs.YtniknpjeknmpjaaGreatDoorW.PrintLast Go.Proofs.YtniknpjeknmpjaaGreatDoorW.PrintMore
attribute [local go_sem] max2_int min2_int max_two min_two max_three min_three max_four min_four
set_option linter.unusedVariables false
set_option linter.unusedSimpArgs false

def cubbyref08_words.l0 : Nat → ByteArray → List ByteArray → Int → Int → Option (List ByteArray)
 | 0, _, _, _, _ => none
 | k + 1, x0, x3, x4, x5 => if x5 ≤ (x0.size : Int) then (if x5 = (x0.size : Int) then (if 0 ≤ x4 then (if x4 ≤ x5 then (if x3.length < 8796093022208 then (cubbyref08_words.l0 k x0 (x3 ++ [x0.extract (x4 : Int).toNat (x5 : Int).toNat]) (wrap64 (x5 + 1)) (wrap64 (x5 + 1))) else (none)) else (none)) else (none)) else (if 0 ≤ x5 then (if x5 < (x0.size : Int) then (if (bt x0 x5) = 32 then (if 0 ≤ x4 then (if x4 ≤ x5 then (if x3.length < 8796093022208 then (cubbyref08_words.l0 k x0 (x3 ++ [x0.extract (x4 : Int).toNat (x5 : Int).toNat]) (wrap64 (x5 + 1)) (wrap64 (x5 + 1))) else (none)) else (none)) else (none)) else (cubbyref08_words.l0 k x0 x3 x4 (wrap64 (x5 + 1)))) else (none)) else (none))) else (some x3)
def cubbyref08_words.f (k : Nat) (a0 : ByteArray) : Option (List ByteArray) := cubbyref08_words.l0 k a0 (([] : List ByteArray)) 0 0
set_option maxHeartbeats 8000000 in
set_option maxRecDepth 100000 in
theorem cubbyref08_words.calls (k : Nat) (a0 : ByteArray) (r : List ByteArray) (w : World) (h : cubbyref08_words.f k a0 = some r) :
 Calls Tryz.prog 52 #[.string a0] w fun e w' => ∃ v0_ : Value, e = .returned (v0_) ∧ Kd.R Kd.string 9 w' w.heap.size (fun _ => True) v0_ r ∧ Below w.heap.size w w' := by
 have HB := zA (Below.refl w.heap.size w)
 have H := h; clear h; unfold cubbyref08_words.f at H
 obtain ⟨y358, hy358⟩ : ∃ y_ : List ByteArray, y_ = (([] : List ByteArray)) := ⟨_, rfl⟩
 replace H : (cubbyref08_words.l0 k a0 y358 0 0) = some r := by (try rw [hy358]); first | with_reducible exact H | exact (zJ _ _).symm.trans H | exact H
 have Ny358 := zA hy358
 clear hy358
 have H' := zA H
 clear H
 go_enter Tryz.func52, Tryz.ntmps52
 go_wp2_with (first | ((with_reducible refine gate_dst (N := 6) rfl ?_); refine Kd.R_lit Kd.string _ 9 (by rfl) (N := 6) (by rfl) (xs := ([] : List ByteArray)) (inner := []) (ok := fun _ => True) (okp := fun _ => True) ?hr ?hp (fun _ hk => hk) trivial (Below.refl _ _) (Nat.le_refl _) (by simp) ?_; (case hr => go_simp <;> rfl); (case hp => exact (Reps.none _ _)); intro v359 w2 ho3 hb hg_ hnew_; clear hg_ hnew_; (first | rw [← Ny358.out] at ho3 | (simp only [Int.reduceToNat] at ho3; rw [← Ny358.out] at ho3)); have HO360 := zA (Kd.R_lower ho3 (below_size qB)); replace HB := qH hb; clear hb ho3))
 go_loopg [3, 4, 5] k (fun kq v3 v4 v5 w' => ∃ (x3_1 : List ByteArray) (x4_1 : Int) (x5_1 : Int), v4 = .int .i64 x4_1 ∧ v5 = .int .i64 x5_1 ∧ Aside0 (cubbyref08_words.l0 kq a0 x3_1 x4_1 x5_1 = some r) ∧ Aside0 (kq ≤ k) ∧ Aside0 (Kd.R Kd.string 9 w' w.heap.size (fun _ => True) v3 x3_1) ∧ Aside0 (Below w.heap.size w w'))
 case atStart => exact ⟨(y358), (0), (0), qT, qT, H', ⟨Nat.le_refl _⟩, ⟨qR HO360.out⟩, ⟨qB⟩⟩
 case round =>
  clear H'
  try clear p2
  obtain ⟨x3_1, x4_1, x5_1, rfl, rfl, HA, HK1, HO_3, HB⟩ := hrel
  cases gk with
  | zero => exact absurd HA.out (by simp [cubbyref08_words.l0])
  | succ k1 =>
   have H := HA.out
   clear HA
   simp only [cubbyref08_words.l0] at H
   by_cases c4 : x5_1 ≤ (a0.size : Int)
   ·rw [zC c4] at H
    have c4b0 := zF c4
    clear c4
    by_cases c5 : x5_1 = (a0.size : Int)
    ·rw [zC c5] at H
     obtain ⟨c5b0, c5b1⟩ := qe c5; clear c5
     by_cases c6 : 0 ≤ x4_1
     ·rw [zC c6] at H
      have c6b0 := eq_true c6
      have c6b1 := zF c6
      clear c6
      by_cases c7 : x4_1 ≤ x5_1
      ·rw [zC c7] at H
       have c7b0 := eq_true c7
       have c7b1 := zF c7
       clear c7
       have c8b0 := eq_true (zB qA : x5_1 ≤ (a0.size : Int))
       by_cases c9 : x3_1.length < 8796093022208
       ·rw [zC c9] at H
        have LMc9 := zA c9
        clear c9
        obtain ⟨y361, hy361⟩ : ∃ y_ : List ByteArray, y_ = (x3_1 ++ [a0.extract (x4_1 : Int).toNat (x5_1 : Int).toNat]) := ⟨_, rfl⟩
        replace H : (cubbyref08_words.l0 k1 a0 y361 (wrap64 (x5_1 + 1)) (wrap64 (x5_1 + 1))) = some r := by (try rw [hy361]); first | with_reducible exact H | exact (zJ _ _).symm.trans H | exact H
        have Ny361 := zA hy361
        clear hy361
        have H' := zA H
        clear H
        go_wp2_with (first | ((with_reducible refine gate_builtin (b := .append) (xs := #[.tmp 23, .tmp 28]) rfl ?_); at_builtin; refine Kd.R_append Kd.string (w0 := w) w.heap.size rfl (.tmp 23) (.tmp 28) 70 9 (.string ⟨#[]⟩) 16 rfl Tryz.underlying70 info9 rfl (by decide) (by omega) u3 x3_1 (a0.extract (x4_1 : Int).toNat (x5_1 : Int).toNat) [.string (a0.extract (x4_1 : Int).toNat (x5_1 : Int).toNat)] (fun _ => True) (fun _ => False) rfl rfl ?aP (fun _ hk => hk.elim) ?aF ?aO ?aB ?aS ?aL ?_; (case aP => exact rfl); (case aB => exact qB); (case aF => exact (fun _ _ => trivial)); (case aO => exact (qR HO_3.out)); (case aS => exact (below_size qB)); (case aL => have := LMc9.out; omega); intro v362 w10 ho hb hg hat; rw [← Ny361.out] at ho; replace HB := zA (hb); have HO363 := zA (ho); clear HO_3; clear ho hb hg hat))
        go_roundg k1
        case measure => have := HK1.out; omega
        case rel => exact ⟨(y361), (wrap64 (x5_1 + 1)), (wrap64 (x5_1 + 1)), qT, qT, H', ⟨by have := HK1.out; omega⟩, ⟨qR HO363.out⟩, ⟨qB⟩⟩
       ·rw [zD c9] at H
        exact absurd H (by simp)
      ·rw [zD c7] at H
       exact absurd H (by simp)
     ·rw [zD c6] at H
      exact absurd H (by simp)
    ·rw [zD c5] at H
     obtain ⟨c5b0, c5b1⟩ := qn c5
     by_cases c11 : 0 ≤ x5_1
     ·rw [zC c11] at H
      have c11b0 := zF c11
      clear c11
      by_cases c12 : x5_1 < (a0.size : Int)
      ·rw [zC c12] at H
       have c12b0 := zF c12
       clear c12
       by_cases c14 : (bt a0 x5_1) = 32
       ·rw [zC c14] at H
        obtain ⟨c14b0, c14b1⟩ := qe c14; clear c14
        by_cases c15 : 0 ≤ x4_1
        ·rw [zC c15] at H
         have c15b0 := eq_true c15
         have c15b1 := zF c15
         clear c15
         by_cases c16 : x4_1 ≤ x5_1
         ·rw [zC c16] at H
          have c16b0 := eq_true c16
          have c16b1 := zF c16
          clear c16
          have c17b0 := eq_true (zB qA : x5_1 ≤ (a0.size : Int))
          by_cases c18 : x3_1.length < 8796093022208
          ·rw [zC c18] at H
           have LMc18 := zA c18
           clear c18
           obtain ⟨y364, hy364⟩ : ∃ y_ : List ByteArray, y_ = (x3_1 ++ [a0.extract (x4_1 : Int).toNat (x5_1 : Int).toNat]) := ⟨_, rfl⟩
           replace H : (cubbyref08_words.l0 k1 a0 y364 (wrap64 (x5_1 + 1)) (wrap64 (x5_1 + 1))) = some r := by (try rw [hy364]); first | with_reducible exact H | exact (zJ _ _).symm.trans H | exact H
           have Ny364 := zA hy364
           clear hy364
           have H' := zA H
           clear H
           have p13 : 0 ≤ (x5_1 : Int) := zB qA
           have q13 : x5_1 < (a0.size : Int) := zB qA
           have hx13 := bt_at a0 x5_1
           replace p13 := eq_true p13
           replace q13 := eq_true q13
           go_wp2_with (first | ((with_reducible refine gate_builtin (b := .append) (xs := #[.tmp 23, .tmp 28]) rfl ?_); at_builtin; refine Kd.R_append Kd.string (w0 := w) w.heap.size rfl (.tmp 23) (.tmp 28) 70 9 (.string ⟨#[]⟩) 16 rfl Tryz.underlying70 info9 rfl (by decide) (by omega) u3 x3_1 (a0.extract (x4_1 : Int).toNat (x5_1 : Int).toNat) [.string (a0.extract (x4_1 : Int).toNat (x5_1 : Int).toNat)] (fun _ => True) (fun _ => False) rfl rfl ?aP (fun _ hk => hk.elim) ?aF ?aO ?aB ?aS ?aL ?_; (case aP => exact rfl); (case aB => exact qB); (case aF => exact (fun _ _ => trivial)); (case aO => exact (qR HO_3.out)); (case aS => exact (below_size qB)); (case aL => have := LMc18.out; omega); intro v365 w19 ho hb hg hat; rw [← Ny364.out] at ho; replace HB := zA (hb); have HO366 := zA (ho); clear HO_3; clear ho hb hg hat))
           go_roundg k1
           case measure => have := HK1.out; omega
           case rel => exact ⟨(y364), (wrap64 (x5_1 + 1)), (wrap64 (x5_1 + 1)), qT, qT, H', ⟨by have := HK1.out; omega⟩, ⟨qR HO366.out⟩, ⟨qB⟩⟩
          ·rw [zD c18] at H
           exact absurd H (by simp)
         ·rw [zD c16] at H
          exact absurd H (by simp)
        ·rw [zD c15] at H
         exact absurd H (by simp)
       ·rw [zD c14] at H
        obtain ⟨c14b0, c14b1⟩ := qn c14
        have H' := zA H
        clear H
        have p13 : 0 ≤ (x5_1 : Int) := zB qA
        have q13 : x5_1 < (a0.size : Int) := zB qA
        have hx13 := bt_at a0 x5_1
        replace p13 := eq_true p13
        replace q13 := eq_true q13
        go_wp2
        go_roundg k1
        case measure => have := HK1.out; omega
        case rel => exact ⟨(x3_1), (x4_1), (wrap64 (x5_1 + 1)), qT, qT, H', ⟨by have := HK1.out; omega⟩, ⟨qR HO_3.out⟩, ⟨qB⟩⟩
      ·rw [zD c12] at H
       exact absurd H (by simp)
     ·rw [zD c11] at H
      exact absurd H (by simp)
   ·rw [zD c4] at H
    have c4b0 := zG c4
    clear c4
    obtain rfl := zI H
    go_wp2
    go_ret
    exact ⟨_, qE, qR HO_3.out, qB⟩
end Go.Proofs.YtniknpjeknmpjaaGreatDoor.Q
namespace Go.Proofs.YtniknpjeknmpjaaGreatDoor.PlainNum
open Go Go.RowKit Go.Proofs.YtniknpjeknmpjaaGreatDoorW.PrintWords Go.Proofs.YtniknpjeknmpjaaGreatDoorW.PrintMore Go.Proofs.YtniknpjeknmpjaaGreatDoor.Q Go.Proofs.YtniknpjeknmpjaaGreatDoor.Plain
set_option linter.unusedVariables false
def wordsL : List UInt8 → List (List UInt8)
 | [] => [[]]
 | b :: l => if b = 32 then [] :: wordsL l else match wordsL l with
  | w :: r => (b :: w) :: r
  | [] => [[b]]
theorem wordsL_ne : ∀ l, wordsL l ≠ []
 | [] => by simp [wordsL]
 | b :: l => by
  unfold wordsL
  split
  ·simp
  ·split <;> simp
theorem wordsL_one : ∀ {a : List UInt8}, (32 : UInt8) ∉ a → wordsL a = [a]
 | [], _ => rfl
 | b :: a, h => by
  have h1 : ¬ b = 32 := fun e => h (by rw [e]; exact List.mem_cons_self)
  unfold wordsL
  rw [zD h1, wordsL_one (fun hm => h (List.mem_cons_of_mem _ hm))]
theorem wordsL_cons : ∀ {a : List UInt8} (b : List UInt8), (32 : UInt8) ∉ a → wordsL (a ++ 32 :: b) = a :: wordsL b
 | [], b, _ => by simp [wordsL]
 | c :: a, b, h => by
  have h1 : ¬ c = 32 := fun e => h (by rw [e]; exact List.mem_cons_self)
  simp only [List.cons_append, wordsL, zD h1, wordsL_cons b (fun hm => h (List.mem_cons_of_mem _ hm))]
def unw : List (List UInt8) → List UInt8
 | [] => []
 | [w] => w
 | w :: v :: r => w ++ 32 :: unw (v :: r)
theorem unw_words : ∀ l, unw (wordsL l) = l
 | [] => rfl
 | b :: l => by
  have ih := unw_words l
  have hne := wordsL_ne l
  unfold wordsL
  split
  ·rename_i h
   cases hw : wordsL l with
   | nil => exact absurd hw hne
   | cons w r => rw [hw] at ih; simp only [unw, List.nil_append, ih, h]
  ·cases hw : wordsL l with
   | nil => exact absurd hw hne
   | cons w r =>
    rw [hw] at ih
    cases r with
    | nil => simp only [unw] at ih ⊢; rw [ih]
    | cons v r => simp only [unw, List.cons_append] at ih ⊢; rw [ih]
def bytesOfL (ws : List ByteArray) : List (List UInt8) := ws.map fun w => w.data.toList
theorem bytes_inj {ws vs : List ByteArray} (h : bytesOfL ws = bytesOfL vs) : ws = vs := by
 exact (List.map_inj_right (f := fun w : ByteArray => w.data.toList) (fun x y hxy => ba_ext hxy)).1 h
theorem ex_list (s : ByteArray) (i j : Nat) : (s.extract i j).data.toList = (s.data.toList.drop i).take (j - i) := by
 rw [ByteArray.data_extract, Array.toList_extract]
 first | done | rfl | simp [List.extract]
theorem index_none : ∀ {l : List UInt8}, Lib.indexByte l 32 = -1 → (32 : UInt8) ∉ l
 | [], _ => by simp
 | b :: l, h => by
  unfold Lib.indexByte at h
  split at h
  ·simp at h
  ·rename_i hb
   have hge := Lib.indexByte_ge l 32
   split at h
   ·rename_i h2
    have := index_none (by simpa using h2)
    intro hm
    rcases List.mem_cons.1 hm with h3 | h3
    ·exact hb (by simp [h3])
    ·exact this h3
   ·rename_i h2
    have h3 : Lib.indexByte l 32 ≠ -1 := by simpa using h2
    omega
theorem index_some : ∀ {l : List UInt8} {i : Nat}, Lib.indexByte l 32 = (i : Int) → i < l.length ∧ l = l.take i ++ 32 :: l.drop (i + 1) ∧ (32 : UInt8) ∉ l.take i
 | [], i, h => by simp only [Lib.indexByte] at h; omega
 | b :: l, i, h => by
  unfold Lib.indexByte at h
  split at h
  ·rename_i hb
   obtain rfl : i = 0 := by omega
   have : b = 32 := by simpa using hb
   subst this
   simp
  ·rename_i hb
   have hge := Lib.indexByte_ge l 32
   split at h
   ·omega
   ·rename_i h2
    have h3 : Lib.indexByte l 32 ≠ -1 := by simpa using h2
    obtain ⟨q, hq⟩ : ∃ q : Nat, Lib.indexByte l 32 = q := ⟨(Lib.indexByte l 32).toNat, by omega⟩
    obtain rfl : i = q + 1 := by omega
    obtain ⟨h4, h5, h6⟩ := index_some hq
    refine ⟨by simp; omega, ?_, ?_⟩
    ·rw [List.take_succ_cons, List.drop_succ_cons, List.cons_append, ← h5]
    ·rw [List.take_succ_cons]
     intro hm
     rcases List.mem_cons.1 hm with h7 | h7
     ·exact hb (by simp [h7])
     ·exact h6 h7
theorem splitB_words : ∀ (k : Nat) (s : ByteArray), s.data.toList.count 32 ≤ k → bytesOfL (Lib.splitB blank1 0 k s) = wordsL s.data.toList
 | 0, s, h => by
  have hn : (32 : UInt8) ∉ s.data.toList := fun hm => by have := List.count_pos_iff.2 hm; omega
  rw [wordsL_one hn]; rfl
 | k + 1, s, h => by
  have hi : Lib.indexB s blank1 = Lib.indexByte s.data.toList 32 := by show Lib.index s.data.toList [32] = _; rw [Lib.index_one]
  unfold Lib.splitB
  rw [hi]
  have hge := Lib.indexByte_ge s.data.toList 32
  by_cases h1 : Lib.indexByte s.data.toList 32 = -1
  ·rw [zC (by rw [h1]; rfl), wordsL_one (index_none h1)]; rfl
  ·obtain ⟨i, hq⟩ : ∃ i : Nat, Lib.indexByte s.data.toList 32 = i := ⟨(Lib.indexByte s.data.toList 32).toNat, by omega⟩
   obtain ⟨h2, h3, h4⟩ := index_some hq
   rw [zD (by simpa using h1), hq, Int.toNat_natCast]
   have hsz : s.size = s.data.toList.length := by simp
   have e1 : (s.extract 0 (i + 0)).data.toList = s.data.toList.take i := by rw [ex_list]; simp
   have e2 : (s.extract (i + blank1.size) s.size).data.toList = s.data.toList.drop (i + 1) := by
    rw [ex_list, hsz]
    show (s.data.toList.drop (i + 1)).take _ = _
    have hb1 : blank1.size = 1 := rfl
    rw [List.take_of_length_le (by rw [List.length_drop, hb1]; omega)]
   have hc : (s.data.toList.drop (i + 1)).count 32 ≤ k := by
    have := congrArg (List.count 32) h3
    rw [List.count_append, List.count_cons_self] at this
    omega
   have ih := splitB_words k (s.extract (i + blank1.size) s.size) (by rw [e2]; exact hc)
   have hw := wordsL_cons (s.data.toList.drop (i + 1)) h4
   rw [← h3] at hw
   rw [hw, ← e2, ← ih]
   show (s.extract 0 (i + 0)).data.toList :: _ = _
   rw [e1]
   rfl
theorem wordsOf_bytes (s : ByteArray) : bytesOfL (wordsOf s) = wordsL s.data.toList := by
 refine splitB_words _ s ?_
 show _ ≤ Lib.count s.data.toList [32]
 rw [Lib.count_one]
 exact Nat.le_refl _
theorem wordsOf_of {s : ByteArray} {ws : List ByteArray} (h : bytesOfL ws = wordsL s.data.toList) : wordsOf s = ws := bytes_inj ((wordsOf_bytes s).trans h.symm)
theorem refwords_loop (s : ByteArray) (hs : s.size ≤ 1000000) : ∀ (d i f : Nat) (out : List ByteArray), s.size + 1 - i = d → i ≤ s.size + 1 → f ≤ i → out.length ≤ i → (i ≤ s.size → (32 : UInt8) ∉ (s.data.toList.drop f).take (i - f)) →
 ∃ r, Ev (fun k => cubbyref08_words.l0 k s out (f : Int) (i : Int)) r ∧ bytesOfL r = bytesOfL out ++ (if i ≤ s.size then wordsL (s.data.toList.drop f) else []) := by
 have hsz : s.size = s.data.toList.length := by simp
 intro d
 induction d with
 | zero =>
  intro i f out hd hi hf ho hn
  refine ⟨out, ⟨1, fun k hk => ?_⟩, by rw [zD (by omega), List.append_nil]⟩
  obtain ⟨q, rfl⟩ : ∃ q, k = q + 1 := ⟨k - 1, by omega⟩
  simp only [cubbyref08_words.l0]
  rw [zD (by omega)]
 | succ d ih =>
  intro i f out hd hi hf ho hn
  have hie : i ≤ s.size := by omega
  have hex : (s.extract f i).data.toList = (s.data.toList.drop f).take (i - f) := ex_list s f i
  have hnn := hn hie
  by_cases hend : i = s.size
  ·obtain ⟨r, hr, hr2⟩ := ih (i + 1) (i + 1) (out ++ [s.extract f i]) (by omega) (by omega) (Nat.le_refl _) (by simp; omega) (fun h => absurd h (by omega))
   refine ⟨r, Ev.step (fun k => ?_) hr, ?_⟩
   ·simp only [cubbyref08_words.l0]
    rw [zC (by omega), zC (by omega), zC (by omega), zC (by omega), zC (by omega), wrap_nat (by omega), Int.toNat_natCast, Int.toNat_natCast]
   ·rw [hr2, zD (by omega), List.append_nil, zC hie]
    have e : (s.data.toList.drop f).take (i - f) = s.data.toList.drop f := List.take_of_length_le (by simp; omega)
    rw [e] at hnn hex
    rw [wordsL_one hnn]
    simp only [bytesOfL, List.map_append, List.map_cons, List.map_nil, hex]
  ·have hlt : i < s.data.toList.length := by omega
   have hbt := bt_get hlt
   have hsplit : s.data.toList.drop f = (s.data.toList.drop f).take (i - f) ++ s.data.toList[i] :: s.data.toList.drop (i + 1) := by
    have h1 := (List.take_append_drop (i - f) (s.data.toList.drop f)).symm
    rw [List.drop_drop, show f + (i - f) = i by omega, List.drop_eq_getElem_cons hlt] at h1
    exact h1
   by_cases hb : s.data.toList[i] = 32
   ·obtain ⟨r, hr, hr2⟩ := ih (i + 1) (i + 1) (out ++ [s.extract f i]) (by omega) (by omega) (Nat.le_refl _) (by simp; omega) (fun h => by simp)
    refine ⟨r, Ev.step (fun k => ?_) hr, ?_⟩
    ·simp only [cubbyref08_words.l0]
     rw [zC (by omega), zD (by omega), zC (by omega), zC (by omega), hbt, hb, zC (by decide), zC (by omega), zC (by omega), zC (by omega), wrap_nat (by omega), Int.toNat_natCast, Int.toNat_natCast]
    ·rw [hr2, zC (by omega), zC hie]
     rw [hb] at hsplit
     rw [hsplit, wordsL_cons _ hnn]
     simp only [bytesOfL, List.map_append, List.map_cons, List.map_nil, hex, List.append_assoc, List.cons_append, List.nil_append]
   ·obtain ⟨r, hr, hr2⟩ := ih (i + 1) f out (by omega) (by omega) (by omega) (by omega) (fun h => by
     have e : (s.data.toList.drop f).take (i + 1 - f) = (s.data.toList.drop f).take (i - f) ++ [s.data.toList[i]] := by
      rw [show i + 1 - f = (i - f) + 1 by omega, List.take_succ_eq_append_getElem (by simp; omega)]
      simp only [List.getElem_drop, show f + (i - f) = i by omega]
     rw [e]
     intro hm
     rcases List.mem_append.1 hm with h1 | h1
     ·exact hnn h1
     ·exact hb (List.mem_singleton.1 h1).symm)
    refine ⟨r, Ev.step (fun k => ?_) hr, ?_⟩
    ·simp only [cubbyref08_words.l0]
     have hne : ¬ ((s.data.toList[i]).toNat : Int) = 32 := fun e => hb (by
      have : (s.data.toList[i]).toNat = 32 := by omega
      exact UInt8.toNat_inj.1 this)
     rw [zC (by omega), zD (by omega), zC (by omega), zC (by omega), hbt, zD hne, wrap_nat (by omega)]
    ·rw [hr2, zC hie, zC (by omega)]
theorem refwords_ev (s : ByteArray) (hs : s.size ≤ 1000000) : Ev (fun k => cubbyref08_words.f k s) (wordsOf s) := by
 obtain ⟨r, hr, hr2⟩ := refwords_loop s hs _ 0 0 [] rfl (by omega) (Nat.le_refl _) (Nat.zero_le _) (fun _ => by simp)
 rw [zC (by omega), List.drop_zero] at hr2
 rw [wordsOf_of (ws := r) (by rw [hr2]; rfl)]
 exact hr
end Go.Proofs.YtniknpjeknmpjaaGreatDoor.PlainNum
namespace Go.Proofs.YtniknpjeknmpjaaGreatDoor.Q
open Go.RowKit Go.Proofs.YtniknpjeknmpjaaGreatDoorW.PrintWords Go.Proofs.YtniknpjeknmpjaaGreatDoorW.PrintLast Go.Proofs.YtniknpjeknmpjaaGreatDoorW.PrintMore
attribute [local go_sem] max2_int min2_int max_two min_two max_three min_three max_four min_four
set_option linter.unusedVariables false
set_option linter.unusedSimpArgs false

def cubbyref08_read.l0 : Nat → List ByteArray → Int → Int → List Int → ByteArray → Int → Option (List Int × ByteArray × Int)
 | 0, _, _, _, _, _, _ => none
 | k + 1, x0, x1, x2, x9, x10, x11 => if x11 < x1 then (if x11 = x2 then (if 0 ≤ (wrap64 (x11 + 1)) then (if (wrap64 (x11 + 1)) < (x0.length : Int) then ((cubbyref07_Name.f k (rdOf ByteArray.empty x0 (wrap64 (x11 + 1)))).bind fun t371 => (if t371 = true then (cubbyref08_read.l0 k x0 x1 x2 x9 (rdOf ByteArray.empty x0 (wrap64 (x11 + 1))) (wrap64 (x11 + 1))) else (some (([] : List Int), (⟨#[]⟩ : ByteArray), 80)))) else (none)) else (none)) else (if 0 ≤ (wrap64 (x11 + 1)) then (if (wrap64 (x11 + 1)) < (x0.length : Int) then ((cubbyref08_Number.f k (rdOf ByteArray.empty x0 (wrap64 (x11 + 1)))).bind fun bt374 => (if bt374.2 = true then (if x9.length < 17592186044416 then (cubbyref08_read.l0 k x0 x1 x2 (x9 ++ [bt374.1]) x10 (wrap64 (x11 + 1))) else (none)) else (some (([] : List Int), (⟨#[]⟩ : ByteArray), 81)))) else (none)) else (none))) else (some (x9, x10, 0))
def cubbyref08_read.f (k : Nat) (l0 : List ByteArray) (a1 : Int) (a2 : Int) : Option (List Int × ByteArray × Int) := if (l0.length : Int) = (wrap64 (a1 + 1)) then (cubbyref08_read.l0 k l0 a1 a2 (([] : List Int)) (⟨#[]⟩ : ByteArray) 0) else (some (([] : List Int), (⟨#[]⟩ : ByteArray), 80))
set_option maxHeartbeats 8000000 in
set_option maxRecDepth 100000 in
theorem cubbyref08_read.calls (k : Nat) (A0 : Option Addr) (c0 : Nat) (l0 : List ByteArray) (a1 : Int) (a2 : Int) (r1 : List Int) (r2 : ByteArray) (r3 : Int) (w : World) (hr0 : Kd.C Kd.string w A0 l0.length l0) (hc0 : l0.length ≤ c0) (h : cubbyref08_read.f k l0 a1 a2 = some (r1, r2, r3)) :
 Calls Tryz.prog 53 #[.slice A0 l0.length c0, .int .i64 a1, .int .i64 a2] w fun e w' => ∃ v0_ : Value, e = .returned (.tuple #[v0_, .string r2, .int .i64 r3]) ∧ Kd.R (Kd.int .i64) 3 w' w.heap.size (fun _ => True) v0_ r1 ∧ Below w.heap.size w w' := by
 have HR0 := zA hr0
 have HC0 := zA hc0
 clear hr0 hc0
 have HB := zA (Below.refl w.heap.size w)
 have H := h; clear h; unfold cubbyref08_read.f at H
 by_cases c4 : (l0.length : Int) = (wrap64 (a1 + 1))
 ·rw [zC c4] at H
  obtain ⟨c4b0, c4b1⟩ := qe c4; clear c4
  obtain ⟨y367, hy367⟩ : ∃ y_ : List Int, y_ = (([] : List Int)) := ⟨_, rfl⟩
  replace H : (cubbyref08_read.l0 k l0 a1 a2 y367 (⟨#[]⟩ : ByteArray) 0) = some (r1, r2, r3) := by (try rw [hy367]); first | with_reducible exact H | exact (zJ _ _).symm.trans H | exact H
  have Ny367 := zA hy367
  clear hy367
  have H' := zA H
  clear H
  go_enter Tryz.func53, Tryz.ntmps53
  go_wp2_with (first | ((with_reducible refine gate_dst (N := 19) rfl ?_); refine Kd.R_lit (Kd.int .i64) _ 3 (by rfl) (N := 19) (by rfl) (xs := ([] : List Int)) (inner := []) (ok := fun _ => True) (okp := fun _ => True) ?hr ?hp (fun _ hk => hk) trivial (Below.refl _ _) (Nat.le_refl _) (by simp) ?_; (case hr => go_simp <;> rfl); (case hp => exact (Reps.none _ _)); intro v368 w5 ho6 hb hg_ hnew_; clear hg_ hnew_; (first | rw [← Ny367.out] at ho6 | (simp only [Int.reduceToNat] at ho6; rw [← Ny367.out] at ho6)); have HO369 := zA (Kd.R_lower ho6 (below_size qB)); replace HB := qH hb; clear hb ho6))
  go_loopg [9, 10, 11] k (fun kq v9 v10 v11 w' => ∃ (x9_1 : List Int) (x10_1 : ByteArray) (x11_1 : Int), v10 = .string x10_1 ∧ v11 = .int .i64 x11_1 ∧ Aside0 (cubbyref08_read.l0 kq l0 a1 a2 x9_1 x10_1 x11_1 = some (r1, r2, r3)) ∧ Aside0 (kq ≤ k) ∧ Aside0 (Kd.R (Kd.int .i64) 3 w' w.heap.size (fun _ => True) v9 x9_1) ∧ Aside0 (Below w.heap.size w w'))
  case atStart => exact ⟨(y367), ((⟨#[]⟩ : ByteArray)), (0), qT, qT, H', ⟨Nat.le_refl _⟩, ⟨qR HO369.out⟩, ⟨qB⟩⟩
  case round =>
   clear H'
   try clear p2; try clear c4b0 c4b1; try clear c5; try clear p6
   obtain ⟨x9_1, x10_1, x11_1, rfl, rfl, HA, HK1, HO_9, HB⟩ := hrel
   cases gk with
   | zero => exact absurd HA.out (by simp [cubbyref08_read.l0])
   | succ k1 =>
    have H := HA.out
    clear HA
    simp only [cubbyref08_read.l0] at H
    by_cases c7 : x11_1 < a1
    ·rw [zC c7] at H
     have c7b0 := zF c7
     clear c7
     by_cases c8 : x11_1 = a2
     ·rw [zC c8] at H
      obtain ⟨c8b0, c8b1⟩ := qe c8; clear c8
      obtain ⟨ji9, hji9⟩ : ∃ j_ : Int, (wrap64 (x11_1 + 1)) = j_ := ⟨_, rfl⟩
      replace H : (if 0 ≤ (ji9) then (if (ji9) < (l0.length : Int) then ((cubbyref07_Name.f k1 (rdOf ByteArray.empty l0 (ji9))).bind fun t371 => (if t371 = true then (cubbyref08_read.l0 k1 l0 a1 a2 x9_1 (rdOf ByteArray.empty l0 (ji9)) ji9) else (some (([] : List Int), (⟨#[]⟩ : ByteArray), 80)))) else (none)) else (none)) = some (r1, r2, r3) := by first | (rw [hji9] at H; exact H) | (simp only [hji9] at H ⊢; exact H)
      have hji9w : (IntKind.i64.wrap (x11_1 + 1)) = ji9 := (i64_w _).trans hji9
      by_cases c10 : 0 ≤ (ji9)
      ·rw [zC c10] at H
       have c10b0 := zF c10
       clear c10
       by_cases c11 : (ji9) < (l0.length : Int)
       ·rw [zC c11] at H
        have c11b0 := zF c11
        clear c11
        replace H := qb H; obtain ⟨t371, A12, H⟩ := H
        by_cases c13 : t371 = true
        ·subst c13
         have H1 : (cubbyref08_read.l0 k1 l0 a1 a2 x9_1 (rdOf ByteArray.empty l0 (ji9)) ji9) = some (r1, r2, r3) := by rw [zC rfl] at H; exact H
         clear H
         have H := H1
         clear H1
         have H' := zA H
         clear H
         have p370 : 0 ≤ ((ji9) : Int) := zB qA
         have q370 : (ji9) < (l0.length : Int) := zB qA
         obtain ⟨ad370, e370, hx370_0⟩ := Kd.at_string HR0.out (ji9) p370 q370
         cases e370
         replace hx370_0 := (HB.out.cell (zE w _ hx370_0)).trans hx370_0
         replace p370 := eq_true p370
         replace q370 := eq_true q370
         go_wp2_with (first | ((with_reducible refine gate_callee (f := 22) rfl ?_); refine goesL_ (some 33) rfl rfl Tryz.func22 (by kernel_rfl) rfl #[.string (rdOf ByteArray.empty l0 (ji9))] rfl (by (try simp only [List.map_toArray, List.map_cons, List.map_nil]); first | done | (simp only [hji9]; rfl) | rfl | (simp only [List.length_drop, List.length_take]; rfl)) ?_; (with_reducible refine (cubbyref07_Name.calls k1 (rdOf ByteArray.empty l0 (ji9)) true _ A12.out).mono ?_); rintro e w' ⟨rfl, ⟨nd, rfl⟩⟩; refine ⟨_, rfl, ?_⟩; have p372 : 0 ≤ ((ji9) : Int) := zB qA; have q372 : (ji9) < (l0.length : Int) := zB qA; obtain ⟨ad372, e372, hx372_0⟩ := Kd.at_string HR0.out (ji9) p372 q372; obtain rfl : ad370 = ad372 := (by injection e372); replace hx372_0 := (HB.out.cell (zE w _ hx372_0)).trans hx372_0; replace p372 := eq_true p372; replace q372 := eq_true q372))
         go_roundg k1
         case measure => have := HK1.out; omega
         case rel => exact ⟨(x9_1), (rdOf ByteArray.empty l0 (ji9)), (ji9), (by first | rfl | (simp; done) | (simp only [← hji9] <;> (first | rfl | simp)) | (simp [*]; done)), (by first | rfl | (simp; done) | (simp only [← hji9] <;> (first | rfl | simp)) | (simp [*]; done)), H', ⟨by have := HK1.out; omega⟩, ⟨qR HO_9.out⟩, ⟨qB⟩⟩
        ·replace c13 := Bool.eq_false_iff.mpr c13
         subst c13
         have H1 : (some (([] : List Int), (⟨#[]⟩ : ByteArray), 80)) = some (r1, r2, r3) := by rw [zD (show ¬ (false = true) by decide)] at H; exact H
         clear H
         have H := H1
         clear H1
         simp only [Option.some.injEq, Prod.mk.injEq] at H
         obtain ⟨rfl, rfl, rfl⟩ := H
         have p370 : 0 ≤ ((ji9) : Int) := zB qA
         have q370 : (ji9) < (l0.length : Int) := zB qA
         obtain ⟨ad370, e370, hx370_0⟩ := Kd.at_string HR0.out (ji9) p370 q370
         cases e370
         replace hx370_0 := (HB.out.cell (zE w _ hx370_0)).trans hx370_0
         replace p370 := eq_true p370
         replace q370 := eq_true q370
         go_wp2_with (first | ((with_reducible refine gate_callee (f := 22) rfl ?_); refine goesL_ (some 33) rfl rfl Tryz.func22 (by kernel_rfl) rfl #[.string (rdOf ByteArray.empty l0 (ji9))] rfl (by (try simp only [List.map_toArray, List.map_cons, List.map_nil]); first | done | (simp only [hji9]; rfl) | rfl | (simp only [List.length_drop, List.length_take]; rfl)) ?_; (with_reducible refine (cubbyref07_Name.calls k1 (rdOf ByteArray.empty l0 (ji9)) false _ A12.out).mono ?_); rintro e w' ⟨rfl, ⟨nd, rfl⟩⟩; refine ⟨_, rfl, ?_⟩))
         go_ret3
         exact ⟨_, by first | rfl | (simp [errW_none, errW_some] <;> rfl) | (simp only [← hji9]; first | rfl | (simp [errW_none, errW_some] <;> rfl)) | (simp [*, errW_none, errW_some] <;> rfl), by first | exact Kd.R_nil _ _ _ _ _ | exact Kd.N_nil _ _ _ _ _ | exact Kd.V_nil _ _ _ _ _ | exact Kd.Q_nil _ _ _ _ _ | exact Kd.S_nil _ _ _ _ _, qB⟩
       ·rw [zD c11] at H
        exact absurd H (by simp)
      ·rw [zD c10] at H
       exact absurd H (by simp)
     ·rw [zD c8] at H
      obtain ⟨c8b0, c8b1⟩ := qn c8
      obtain ⟨ji14, hji14⟩ : ∃ j_ : Int, (wrap64 (x11_1 + 1)) = j_ := ⟨_, rfl⟩
      replace H : (if 0 ≤ (ji14) then (if (ji14) < (l0.length : Int) then ((cubbyref08_Number.f k1 (rdOf ByteArray.empty l0 (ji14))).bind fun bt374 => (if bt374.2 = true then (if x9_1.length < 17592186044416 then (cubbyref08_read.l0 k1 l0 a1 a2 (x9_1 ++ [bt374.1]) x10_1 ji14) else (none)) else (some (([] : List Int), (⟨#[]⟩ : ByteArray), 81)))) else (none)) else (none)) = some (r1, r2, r3) := by first | (rw [hji14] at H; exact H) | (simp only [hji14] at H ⊢; exact H)
      have hji14w : (IntKind.i64.wrap (x11_1 + 1)) = ji14 := (i64_w _).trans hji14
      by_cases c15 : 0 ≤ (ji14)
      ·rw [zC c15] at H
       have c15b0 := zF c15
       clear c15
       by_cases c16 : (ji14) < (l0.length : Int)
       ·rw [zC c16] at H
        have c16b0 := zF c16
        clear c16
        replace H := Option.bind_eq_some_iff.mp H
        obtain ⟨⟨t374, t375⟩, A170, H⟩ := H
        replace H : (if t375 = true then (if x9_1.length < 17592186044416 then (cubbyref08_read.l0 k1 l0 a1 a2 (x9_1 ++ [t374]) x10_1 ji14) else (none)) else (some (([] : List Int), (⟨#[]⟩ : ByteArray), 81))) = some (r1, r2, r3) := H
        have A17 := zA A170
        clear A170
        by_cases c18 : t375 = true
        ·subst c18
         have H1 : (if x9_1.length < 17592186044416 then (cubbyref08_read.l0 k1 l0 a1 a2 (x9_1 ++ [t374]) x10_1 ji14) else (none)) = some (r1, r2, r3) := by rw [zC rfl] at H; exact H
         clear H
         have H := H1
         clear H1
         by_cases c19 : x9_1.length < 17592186044416
         ·rw [zC c19] at H
          have LMc19 := zA c19
          clear c19
          obtain ⟨y376, hy376⟩ : ∃ y_ : List Int, y_ = (x9_1 ++ [t374]) := ⟨_, rfl⟩
          replace H : (cubbyref08_read.l0 k1 l0 a1 a2 y376 x10_1 ji14) = some (r1, r2, r3) := by (try rw [hy376]); first | with_reducible exact H | exact (zJ _ _).symm.trans H | exact H
          have Ny376 := zA hy376
          clear hy376
          have H' := zA H
          clear H
          have p373 : 0 ≤ ((ji14) : Int) := zB qA
          have q373 : (ji14) < (l0.length : Int) := zB qA
          obtain ⟨ad373, e373, hx373_0⟩ := Kd.at_string HR0.out (ji14) p373 q373
          cases e373
          replace hx373_0 := (HB.out.cell (zE w _ hx373_0)).trans hx373_0
          replace p373 := eq_true p373
          replace q373 := eq_true q373
          go_wp2_with (first | ((with_reducible refine gate_callee (f := 68) rfl ?_); refine goesL_ (some 46) rfl rfl Tryz.func68 (by kernel_rfl) rfl #[.string (rdOf ByteArray.empty l0 (ji14))] rfl (by (try simp only [List.map_toArray, List.map_cons, List.map_nil]); first | done | (simp only [hji14]; rfl) | rfl | (simp only [List.length_drop, List.length_take]; rfl)) ?_; (with_reducible refine (cubbyref08_Number.calls k1 (rdOf ByteArray.empty l0 (ji14)) t374 true _ A17.out).mono ?_); rintro e w' ⟨rfl, ⟨nd, rfl⟩⟩; refine ⟨_, rfl, ?_⟩) | ((with_reducible refine gate_builtin (b := .append) (xs := #[.tmp 51, .tmp 53]) rfl ?_); at_builtin; refine Kd.R_append (Kd.int .i64) (w0 := w) w.heap.size rfl (.tmp 51) (.tmp 53) 42 3 (.int .i64 0) 8 rfl Tryz.underlying42 info3 rfl (by decide) (by omega) u9 x9_1 t374 [.int .i64 t374] (fun _ => True) (fun _ => False) rfl rfl ?aP (fun _ hk => hk.elim) ?aF ?aO ?aB ?aS ?aL ?_; (case aP => exact rfl); (case aB => exact qB); (case aF => exact (fun _ _ => trivial)); (case aO => exact (qR HO_9.out)); (case aS => exact (below_size qB)); (case aL => have := LMc19.out; omega); intro v377 w20 ho hb hg hat; rw [← Ny376.out] at ho; replace HB := zA (hb); have HO378 := zA (ho); clear HO_9; clear ho hb hg hat))
          go_roundg k1
          case measure => have := HK1.out; omega
          case rel => exact ⟨(y376), (x10_1), (ji14), qT, (by first | rfl | (simp; done) | (simp only [← hji14] <;> (first | rfl | simp)) | (simp [*]; done)), H', ⟨by have := HK1.out; omega⟩, ⟨qR HO378.out⟩, ⟨qB⟩⟩
         ·rw [zD c19] at H
          exact absurd H (by simp)
        ·replace c18 := Bool.eq_false_iff.mpr c18
         subst c18
         have H1 : (some (([] : List Int), (⟨#[]⟩ : ByteArray), 81)) = some (r1, r2, r3) := by rw [zD (show ¬ (false = true) by decide)] at H; exact H
         clear H
         have H := H1
         clear H1
         simp only [Option.some.injEq, Prod.mk.injEq] at H
         obtain ⟨rfl, rfl, rfl⟩ := H
         have p373 : 0 ≤ ((ji14) : Int) := zB qA
         have q373 : (ji14) < (l0.length : Int) := zB qA
         obtain ⟨ad373, e373, hx373_0⟩ := Kd.at_string HR0.out (ji14) p373 q373
         cases e373
         replace hx373_0 := (HB.out.cell (zE w _ hx373_0)).trans hx373_0
         replace p373 := eq_true p373
         replace q373 := eq_true q373
         go_wp2_with (first | ((with_reducible refine gate_callee (f := 68) rfl ?_); refine goesL_ (some 46) rfl rfl Tryz.func68 (by kernel_rfl) rfl #[.string (rdOf ByteArray.empty l0 (ji14))] rfl (by (try simp only [List.map_toArray, List.map_cons, List.map_nil]); first | done | (simp only [hji14]; rfl) | rfl | (simp only [List.length_drop, List.length_take]; rfl)) ?_; (with_reducible refine (cubbyref08_Number.calls k1 (rdOf ByteArray.empty l0 (ji14)) t374 false _ A17.out).mono ?_); rintro e w' ⟨rfl, ⟨nd, rfl⟩⟩; refine ⟨_, rfl, ?_⟩))
         go_ret3
         exact ⟨_, by first | rfl | (simp [errW_none, errW_some] <;> rfl) | (simp only [← hji14]; first | rfl | (simp [errW_none, errW_some] <;> rfl)) | (simp [*, errW_none, errW_some] <;> rfl), by first | exact Kd.R_nil _ _ _ _ _ | exact Kd.N_nil _ _ _ _ _ | exact Kd.V_nil _ _ _ _ _ | exact Kd.Q_nil _ _ _ _ _ | exact Kd.S_nil _ _ _ _ _, qB⟩
       ·rw [zD c16] at H
        exact absurd H (by simp)
      ·rw [zD c15] at H
       exact absurd H (by simp)
    ·rw [zD c7] at H
     have c7b0 := zG c7
     clear c7
     simp only [Option.some.injEq, Prod.mk.injEq] at H
     obtain ⟨rfl, rfl, rfl⟩ := H
     go_wp2
     go_ret3
     exact ⟨_, qE, qR HO_9.out, qB⟩
 ·rw [zD c4] at H
  obtain ⟨c4b0, c4b1⟩ := qn c4
  simp only [Option.some.injEq, Prod.mk.injEq] at H
  obtain ⟨rfl, rfl, rfl⟩ := H
  go_enter Tryz.func53, Tryz.ntmps53
  go_wp2
  go_ret3
  exact ⟨_, qE, by first | exact Kd.R_nil _ _ _ _ _ | exact Kd.N_nil _ _ _ _ _ | exact Kd.V_nil _ _ _ _ _ | exact Kd.Q_nil _ _ _ _ _ | exact Kd.S_nil _ _ _ _ _, qB⟩
end Go.Proofs.YtniknpjeknmpjaaGreatDoor.Q
namespace Go.Proofs.YtniknpjeknmpjaaGreatDoor.PlainNum
open Go Go.RowKit Go.Proofs.YtniknpjeknmpjaaGreatDoorW.PrintWords Go.Proofs.YtniknpjeknmpjaaGreatDoorW.PrintMore Go.Proofs.YtniknpjeknmpjaaGreatDoor.Q Go.Proofs.YtniknpjeknmpjaaGreatDoor.Plain Go.Proofs.YtniknpjeknmpjaaGreatDoor.PlainName
set_option linter.unusedVariables false
def readL (name : Int) : Nat → List ByteArray → List Int → ByteArray → List Int × ByteArray × Int
 | _, [], out, s => (out, s, 0)
 | i, t :: r, out, s => if (i : Int) = name then (if nameOk t = true then readL name (i + 1) r out t else ([], ⟨#[]⟩, 80)) else match numOf t with
  | some v => readL name (i + 1) r (out ++ [v]) s
  | none => ([], ⟨#[]⟩, 81)
theorem rdOf_get (ws : List ByteArray) {j : Nat} {t : ByteArray} (h : ws[j]? = some t) : rdOf ByteArray.empty ws (j : Int) = t := by
 unfold rdOf; rw [Int.toNat_natCast, List.getD_eq_getElem?_getD, h]; rfl
theorem readL_ev (ws : List ByteArray) (many : Nat) (name : Int) (hl : ws.length = many + 1) (hm : many ≤ 100000) : ∀ (d i : Nat) (out : List Int) (s : ByteArray), many - i = d → i ≤ many → out.length ≤ i →
 Ev (fun k => cubbyref08_read.l0 k ws (many : Int) name out s (i : Int)) (readL name i (ws.drop (i + 1)) out s) := by
 intro d
 induction d with
 | zero =>
  intro i out s hd hi ho
  rw [List.drop_eq_nil_of_le (by omega)]
  refine ⟨1, fun k hk => ?_⟩
  obtain ⟨q, rfl⟩ : ∃ q, k = q + 1 := ⟨k - 1, by omega⟩
  simp only [cubbyref08_read.l0]
  rw [zD (by omega)]
  rfl
 | succ d ih =>
  intro i out s hd hi ho
  have hlt : i + 1 < ws.length := by omega
  have hx := rdOf_get ws (List.getElem?_eq_getElem hlt)
  rw [List.drop_eq_getElem_cons hlt]
  generalize ws[i + 1] = t at hx ⊢
  unfold readL
  by_cases hn : (i : Int) = name
  ·rw [zC hn]
   have h2 : Ev (fun k => (cubbyref07_Name.f k t).bind fun t174 => (if t174 = true then (cubbyref08_read.l0 k ws (many : Int) name out t ((i + 1 : Nat) : Int)) else (some (([] : List Int), (⟨#[]⟩ : ByteArray), 80)))) (if nameOk t = true then readL name (i + 1) (ws.drop (i + 1 + 1)) out t else ([], ⟨#[]⟩, 80)) := by
    refine Ev.bind (refname_ev t) ?_
    cases hk : nameOk t with
    | true => simp only [if_true]; exact ih (i + 1) out t (by omega) (by omega) (by omega)
    | false => exact ⟨0, fun k _ => rfl⟩
   refine Ev.step (fun k => ?_) h2
   simp only [cubbyref08_read.l0]
   rw [zC (by omega), zC hn, wrap_nat (by omega), zC (by omega), zC (by omega), hx]
  ·rw [zD hn]
   obtain ⟨x, hev⟩ := number_all t
   have h2 : Ev (fun k => (cubbyref08_Number.f k t).bind fun bt177 => (if bt177.2 = true then (if out.length < 17592186044416 then (cubbyref08_read.l0 k ws (many : Int) name (out ++ [bt177.1]) s ((i + 1 : Nat) : Int)) else (none)) else (some (([] : List Int), (⟨#[]⟩ : ByteArray), 81)))) (match numOf t with
    | some v => readL name (i + 1) (ws.drop (i + 1 + 1)) (out ++ [v]) s
    | none => ([], ⟨#[]⟩, 81)) := by
    refine Ev.bind hev ?_
    cases numOf t with
    | some v =>
     refine Ev.congr (fun k => ?_) (ih (i + 1) (out ++ [v]) s (by omega) (by omega) (by simp; omega))
     simp only [if_true]
     rw [zC (by omega)]
    | none => exact ⟨0, fun k _ => rfl⟩
   refine Ev.step (fun k => ?_) h2
   simp only [cubbyref08_read.l0]
   rw [zC (by omega), zD hn, wrap_nat (by omega), zC (by omega), zC (by omega), hx]
def readW (ws : List ByteArray) (many : Nat) (name : Int) : List Int × ByteArray × Int := if ws.length = many + 1 then readL name 0 (ws.drop 1) [] ⟨#[]⟩ else ([], ⟨#[]⟩, 80)
theorem read_ev (ws : List ByteArray) (many : Nat) (name : Int) (hm : many ≤ 100000) : Ev (fun k => cubbyref08_read.f k ws (many : Int) name) (readW ws many name) := by
 unfold readW
 by_cases h : ws.length = many + 1
 ·rw [zC h]
  exact Ev.congr (fun k => by unfold cubbyref08_read.f; rw [wrap_nat (by omega), zC (by omega)]; rfl) (readL_ev ws many name h hm _ 0 [] ⟨#[]⟩ rfl (by omega) (by simp))
 ·rw [zD h]
  exact ⟨0, fun k _ => by show cubbyref08_read.f k ws (many : Int) name = _; unfold cubbyref08_read.f; rw [wrap_nat (by omega), zD (by omega)]⟩
end Go.Proofs.YtniknpjeknmpjaaGreatDoor.PlainNum
namespace Go.Proofs.YtniknpjeknmpjaaGreatDoor.Q
open Go.RowKit Go.Proofs.YtniknpjeknmpjaaGreatDoorW.PrintWords Go.Proofs.YtniknpjeknmpjaaGreatDoorW.PrintLast Go.Proofs.YtniknpjeknmpjaaGreatDoorW.PrintMore
attribute [local go_sem] max2_int min2_int max_two min_two max_three min_three max_four min_four
set_option linter.unusedVariables false
set_option linter.unusedSimpArgs false

mutual
def cubbyref08_word.j0 : Nat → Int → Bool → List ByteArray → Bool → Option (ByteArray)
 | 0, _, _, _, _ => none
 | k + 1, x0, x1, x5, x14 => if x14 = true then (if 0 ≤ x0 then (if x0 < (x5.length : Int) then (some (rdOf ByteArray.empty x5 x0)) else (none)) else (none)) else (if x1 = true then (cubbyref08_word.j1 k x0 x1 (x0 == 21)) else (cubbyref08_word.j1 k x0 x1 false))
def cubbyref08_word.j1 : Nat → Int → Bool → Bool → Option (ByteArray)
 | 0, _, _, _ => none
 | k + 1, x0, x1, x23 => if x23 = true then (some (⟨#[102, 101, 116, 99, 104]⟩ : ByteArray)) else (if x1 = true then (if x0 = 22 then (some (⟨#[115, 97, 118, 101]⟩ : ByteArray)) else (some (⟨#[]⟩ : ByteArray))) else (some (⟨#[]⟩ : ByteArray)))
end
def cubbyref08_word.f (k : Nat) (a0 : Int) (a1 : Bool) : Option (ByteArray) := (some (([(⟨#[]⟩ : ByteArray), (⟨#[99, 111, 110, 115, 116]⟩ : ByteArray), (⟨#[99, 111, 112, 121]⟩ : ByteArray), (⟨#[97, 100, 100]⟩ : ByteArray), (⟨#[115, 117, 98]⟩ : ByteArray), (⟨#[109, 117, 108]⟩ : ByteArray), (⟨#[108, 101, 115, 115]⟩ : ByteArray), (⟨#[100, 105, 118]⟩ : ByteArray), (⟨#[108, 111, 97, 100]⟩ : ByteArray), (⟨#[115, 116, 111, 114, 101]⟩ : ByteArray), (⟨#[111, 117, 116]⟩ : ByteArray), (⟨#[99, 97, 108, 108]⟩ : ByteArray), (⟨#[106, 117, 109, 112]⟩ : ByteArray), (⟨#[98, 114, 97, 110, 99, 104]⟩ : ByteArray), (⟨#[114, 101, 116]⟩ : ByteArray)] : List ByteArray) : List ByteArray)).bind fun y116 => (if a0 ≥ 0 then (cubbyref08_word.j0 k a0 a1 y116 (decide (a0 < (y116.length : Int)))) else (cubbyref08_word.j0 k a0 a1 y116 false))
set_option maxHeartbeats 8000000 in
set_option maxRecDepth 100000 in
theorem cubbyref08_word.calls (k : Nat) (a0 : Int) (a1 : Bool) (r : ByteArray) (w : World) (h : cubbyref08_word.f k a0 a1 = some r) :
 Calls Tryz.prog 38 #[.int .i64 a0, .bool a1] w fun e w' => e = .returned (.string r) ∧ Below w.heap.size w w' := by
 have HB := zA (Below.refl w.heap.size w)
 have H := h; clear h; unfold cubbyref08_word.f at H
 obtain ⟨y116, hy116⟩ : ∃ y_ : List ByteArray, y_ = (([(⟨#[]⟩ : ByteArray), (⟨#[99, 111, 110, 115, 116]⟩ : ByteArray), (⟨#[99, 111, 112, 121]⟩ : ByteArray), (⟨#[97, 100, 100]⟩ : ByteArray), (⟨#[115, 117, 98]⟩ : ByteArray), (⟨#[109, 117, 108]⟩ : ByteArray), (⟨#[108, 101, 115, 115]⟩ : ByteArray), (⟨#[100, 105, 118]⟩ : ByteArray), (⟨#[108, 111, 97, 100]⟩ : ByteArray), (⟨#[115, 116, 111, 114, 101]⟩ : ByteArray), (⟨#[111, 117, 116]⟩ : ByteArray), (⟨#[99, 97, 108, 108]⟩ : ByteArray), (⟨#[106, 117, 109, 112]⟩ : ByteArray), (⟨#[98, 114, 97, 110, 99, 104]⟩ : ByteArray), (⟨#[114, 101, 116]⟩ : ByteArray)] : List ByteArray)) := ⟨_, rfl⟩
 replace H : (if a0 ≥ 0 then (cubbyref08_word.j0 k a0 a1 y116 (decide (a0 < (y116.length : Int)))) else (cubbyref08_word.j0 k a0 a1 y116 false)) = some r := by (try rw [hy116]); first | with_reducible exact H | exact (zJ _ _).symm.trans H | exact H
 have Ny116 := zA hy116
 clear hy116
 have HC3 := zA H
 clear H
 go_enter Tryz.func38, Tryz.ntmps38
 go_upto_region 2 with (first | ((with_reducible refine gate_dst (N := 6) rfl ?_); (try (refine gate_guard (by rfl) ?_; dsimp only)); refine Kd.R_lit Kd.string _ 9 (by rfl) (N := 6) (by rfl) (xs := ([(⟨#[]⟩ : ByteArray), (⟨#[99, 111, 110, 115, 116]⟩ : ByteArray), (⟨#[99, 111, 112, 121]⟩ : ByteArray), (⟨#[97, 100, 100]⟩ : ByteArray), (⟨#[115, 117, 98]⟩ : ByteArray), (⟨#[109, 117, 108]⟩ : ByteArray), (⟨#[108, 101, 115, 115]⟩ : ByteArray), (⟨#[100, 105, 118]⟩ : ByteArray), (⟨#[108, 111, 97, 100]⟩ : ByteArray), (⟨#[115, 116, 111, 114, 101]⟩ : ByteArray), (⟨#[111, 117, 116]⟩ : ByteArray), (⟨#[99, 97, 108, 108]⟩ : ByteArray), (⟨#[106, 117, 109, 112]⟩ : ByteArray), (⟨#[98, 114, 97, 110, 99, 104]⟩ : ByteArray), (⟨#[114, 101, 116]⟩ : ByteArray)] : List ByteArray)) (inner := [.string (⟨#[]⟩ : ByteArray), .string (⟨#[99, 111, 110, 115, 116]⟩ : ByteArray), .string (⟨#[99, 111, 112, 121]⟩ : ByteArray), .string (⟨#[97, 100, 100]⟩ : ByteArray), .string (⟨#[115, 117, 98]⟩ : ByteArray), .string (⟨#[109, 117, 108]⟩ : ByteArray), .string (⟨#[108, 101, 115, 115]⟩ : ByteArray), .string (⟨#[100, 105, 118]⟩ : ByteArray), .string (⟨#[108, 111, 97, 100]⟩ : ByteArray), .string (⟨#[115, 116, 111, 114, 101]⟩ : ByteArray), .string (⟨#[111, 117, 116]⟩ : ByteArray), .string (⟨#[99, 97, 108, 108]⟩ : ByteArray), .string (⟨#[106, 117, 109, 112]⟩ : ByteArray), .string (⟨#[98, 114, 97, 110, 99, 104]⟩ : ByteArray), .string (⟨#[114, 101, 116]⟩ : ByteArray)]) (ok := fun _ => True) (okp := fun _ => True) ?hr ?hp (fun _ hk => hk) trivial (Below.refl _ _) (Nat.le_refl _) (by simp) ?_; (case hr => go_simp <;> rfl); (case hp => exact (Reps.one (show Kd.M Kd.string _ _ _ (⟨#[]⟩ : ByteArray) [.string (⟨#[]⟩ : ByteArray)] from rfl) (Reps.one (show Kd.M Kd.string _ _ _ (⟨#[99, 111, 110, 115, 116]⟩ : ByteArray) [.string (⟨#[99, 111, 110, 115, 116]⟩ : ByteArray)] from rfl) (Reps.one (show Kd.M Kd.string _ _ _ (⟨#[99, 111, 112, 121]⟩ : ByteArray) [.string (⟨#[99, 111, 112, 121]⟩ : ByteArray)] from rfl) (Reps.one (show Kd.M Kd.string _ _ _ (⟨#[97, 100, 100]⟩ : ByteArray) [.string (⟨#[97, 100, 100]⟩ : ByteArray)] from rfl) (Reps.one (show Kd.M Kd.string _ _ _ (⟨#[115, 117, 98]⟩ : ByteArray) [.string (⟨#[115, 117, 98]⟩ : ByteArray)] from rfl) (Reps.one (show Kd.M Kd.string _ _ _ (⟨#[109, 117, 108]⟩ : ByteArray) [.string (⟨#[109, 117, 108]⟩ : ByteArray)] from rfl) (Reps.one (show Kd.M Kd.string _ _ _ (⟨#[108, 101, 115, 115]⟩ : ByteArray) [.string (⟨#[108, 101, 115, 115]⟩ : ByteArray)] from rfl) (Reps.one (show Kd.M Kd.string _ _ _ (⟨#[100, 105, 118]⟩ : ByteArray) [.string (⟨#[100, 105, 118]⟩ : ByteArray)] from rfl) (Reps.one (show Kd.M Kd.string _ _ _ (⟨#[108, 111, 97, 100]⟩ : ByteArray) [.string (⟨#[108, 111, 97, 100]⟩ : ByteArray)] from rfl) (Reps.one (show Kd.M Kd.string _ _ _ (⟨#[115, 116, 111, 114, 101]⟩ : ByteArray) [.string (⟨#[115, 116, 111, 114, 101]⟩ : ByteArray)] from rfl) (Reps.one (show Kd.M Kd.string _ _ _ (⟨#[111, 117, 116]⟩ : ByteArray) [.string (⟨#[111, 117, 116]⟩ : ByteArray)] from rfl) (Reps.one (show Kd.M Kd.string _ _ _ (⟨#[99, 97, 108, 108]⟩ : ByteArray) [.string (⟨#[99, 97, 108, 108]⟩ : ByteArray)] from rfl) (Reps.one (show Kd.M Kd.string _ _ _ (⟨#[106, 117, 109, 112]⟩ : ByteArray) [.string (⟨#[106, 117, 109, 112]⟩ : ByteArray)] from rfl) (Reps.one (show Kd.M Kd.string _ _ _ (⟨#[98, 114, 97, 110, 99, 104]⟩ : ByteArray) [.string (⟨#[98, 114, 97, 110, 99, 104]⟩ : ByteArray)] from rfl) (Reps.one (show Kd.M Kd.string _ _ _ (⟨#[114, 101, 116]⟩ : ByteArray) [.string (⟨#[114, 101, 116]⟩ : ByteArray)] from rfl) (Reps.none _ _))))))))))))))))); intro v117 w4 ho5 hb hg_ hnew_; clear hg_ hnew_; (first | rw [← Ny116.out] at ho5 | (simp only [Int.reduceToNat] at ho5; rw [← Ny116.out] at ho5)); have HO118 := zA (Kd.R_lower ho5 (below_size qB)); replace HB := qH hb; clear hb ho5))
 (try simp only [Act.put, List.setIfInBounds_toArray, List.set_cons_zero, List.set_cons_succ])
 go_cut [14] (fun v14 wc => ∃ (kq : Nat) (x14_2 : Bool), v14 = .bool x14_2 ∧ Aside0 (cubbyref08_word.j0 kq a0 a1 y116 x14_2 = some r) ∧ Aside0 (kq ≤ k) ∧ Aside0 (Kd.R Kd.string 9 wc w.heap.size (fun _ => True) v117 y116) ∧ Aside0 (Below w.heap.size w wc))
 case first =>
  have H := HC3.out
  clear HC3
  by_cases c6 : a0 ≥ 0
  ·rw [zC c6] at H
   have c6b0 : decide (0 ≤ a0) = true := zF c6
   clear c6
   (first | rw [c6b0] | (simp only [i64_w, i32_w]; rw [c6b0]) | skip)
   have H' := zA H
   clear H
   obtain ⟨Ao7, co7, eo7⟩ := Kd.R_slice HO118.out
   subst eo7
   go_wp2
   go_meet
   case rel => exact ⟨_, (decide (a0 < (y116.length : Int))), qT, H', ⟨qO⟩, ⟨qR HO118.out⟩, ⟨qB⟩⟩
  ·rw [zD c6] at H
   have c6b0 : decide (0 ≤ a0) = false := zG c6
   clear c6
   (first | rw [c6b0] | (simp only [i64_w, i32_w]; rw [c6b0]) | skip)
   have H' := zA H
   clear H
   go_wp2
   go_meet
   case rel => exact ⟨_, (false), qT, H', ⟨qO⟩, ⟨qR HO118.out⟩, ⟨qB⟩⟩
 case rest =>
  clear HC3
  try clear p2; try clear c3; try clear c6; try clear c6b0
  obtain ⟨kq, x14_2, rfl, HA, HJ2, HO_5, HB⟩ := hcut
  cases kq with
  | zero => exact absurd HA.out (by simp [cubbyref08_word.j0])
  | succ kj2 =>
   have H := HA.out
   clear HA
   simp only [cubbyref08_word.j0] at H
   by_cases c8 : x14_2 = true
   ·subst c8
    have H1 : (if 0 ≤ a0 then (if a0 < (y116.length : Int) then (some (rdOf ByteArray.empty y116 a0)) else (none)) else (none)) = some r := by rw [zC rfl] at H; exact H
    clear H
    have H := H1
    clear H1
    by_cases c9 : 0 ≤ a0
    ·rw [zC c9] at H
     have c9b0 := zF c9
     clear c9
     by_cases c10 : a0 < (y116.length : Int)
     ·rw [zC c10] at H
      have c10b0 := zF c10
      clear c10
      obtain rfl := zI H
      obtain ⟨Ao11, co11, eo11⟩ := Kd.R_slice HO_5.out
      subst eo11
      have p119 : 0 ≤ (a0 : Int) := zB qA
      have q119 : a0 < (y116.length : Int) := zB qA
      obtain ⟨ad119, e119, hx119_0⟩ := Kd.at_string (Kd.R_reads' HO_5.out).2.2 a0 p119 q119
      cases e119
      replace p119 := eq_true p119
      replace q119 := eq_true q119
      go_wp2
      go_ret
      exact ⟨qE, qB⟩
     ·rw [zD c10] at H
      exact absurd H (by simp)
    ·rw [zD c9] at H
     exact absurd H (by simp)
   ·replace c8 := Bool.eq_false_iff.mpr c8
    subst c8
    have H1 : (if a1 = true then (cubbyref08_word.j1 kj2 a0 a1 (a0 == 21)) else (cubbyref08_word.j1 kj2 a0 a1 false)) = some r := by rw [zD (show ¬ (false = true) by decide)] at H; exact H
    clear H
    have H := H1
    clear H1
    have HC12 := zA H
    clear H
    go_upto_region 4 with (fail)
    go_cut [23] (fun v23 wc => ∃ (kq : Nat) (x23_11 : Bool), v23 = .bool x23_11 ∧ Aside0 (cubbyref08_word.j1 kq a0 a1 x23_11 = some r) ∧ Aside0 (kq ≤ kj2) ∧ Aside0 (Below w.heap.size w wc))
    case first =>
     have H := HC12.out
     clear HC12
     by_cases c13 : a1 = true
     ·subst c13
      have H1 : (cubbyref08_word.j1 kj2 a0 true (a0 == 21)) = some r := by rw [zC rfl] at H; exact H
      clear H
      have H := H1
      clear H1
      have H' := zA H
      clear H
      go_wp2
      go_meet
      case rel => exact ⟨_, ((a0 == 21)), qT, H', ⟨by have := HJ2.out; first | omega | exact Nat.le_refl _⟩, ⟨qB⟩⟩
     ·replace c13 := Bool.eq_false_iff.mpr c13
      subst c13
      have H1 : (cubbyref08_word.j1 kj2 a0 false false) = some r := by rw [zD (show ¬ (false = true) by decide)] at H; exact H
      clear H
      have H := H1
      clear H1
      have H' := zA H
      clear H
      go_wp2
      go_meet
      case rel => exact ⟨_, (false), qT, H', ⟨by have := HJ2.out; first | omega | exact Nat.le_refl _⟩, ⟨qB⟩⟩
    case rest =>
     clear HC12
     try clear c1; try clear p1; try clear q1; try clear hx1; try clear p2; try clear c3; try clear c6; try clear c6b0; try clear c8; try clear c9; try clear c9b0; try clear c10; try clear c10b0; try clear p11; try clear q11; try clear hx11; try clear c13; try clear hx119_0; try clear p119; try clear q119
     obtain ⟨kq, x23_11, rfl, HA, HJ11, HB⟩ := hcut
     cases kq with
     | zero => exact absurd HA.out (by simp [cubbyref08_word.j1])
     | succ kj11 =>
      have H := HA.out
      clear HA
      simp only [cubbyref08_word.j1] at H
      by_cases c14 : x23_11 = true
      ·subst c14
       have H1 : (some (⟨#[102, 101, 116, 99, 104]⟩ : ByteArray)) = some r := by rw [zC rfl] at H; exact H
       clear H
       have H := H1
       clear H1
       obtain rfl := zI H
       go_wp2
       go_ret
       exact ⟨qE, qB⟩
      ·replace c14 := Bool.eq_false_iff.mpr c14
       subst c14
       have H1 : (if a1 = true then (if a0 = 22 then (some (⟨#[115, 97, 118, 101]⟩ : ByteArray)) else (some (⟨#[]⟩ : ByteArray))) else (some (⟨#[]⟩ : ByteArray))) = some r := by rw [zD (show ¬ (false = true) by decide)] at H; exact H
       clear H
       have H := H1
       clear H1
       by_cases c15 : a1 = true
       ·subst c15
        have H1 : (if a0 = 22 then (some (⟨#[115, 97, 118, 101]⟩ : ByteArray)) else (some (⟨#[]⟩ : ByteArray))) = some r := by rw [zC rfl] at H; exact H
        clear H
        have H := H1
        clear H1
        by_cases c16 : a0 = 22
        ·rw [zC c16] at H
         obtain ⟨c16b0, c16b1⟩ := qe c16; clear c16
         obtain rfl := zI H
         go_wp2
         go_ret
         exact ⟨qE, qB⟩
        ·rw [zD c16] at H
         obtain ⟨c16b0, c16b1⟩ := qn c16
         obtain rfl := zI H
         go_wp2
         go_ret
         exact ⟨qE, qB⟩
       ·replace c15 := Bool.eq_false_iff.mpr c15
        subst c15
        have H1 : (some (⟨#[]⟩ : ByteArray)) = some r := by rw [zD (show ¬ (false = true) by decide)] at H; exact H
        clear H
        have H := H1
        clear H1
        obtain rfl := zI H
        go_wp2
        go_ret
        exact ⟨qE, qB⟩

mutual
def cubbyref08_numbers.j0 : Nat → Bool → List Int → Int → Bool → Int → Int → Int → Int → ByteArray → List Int → Option (List Int)
 | 0, _, _, _, _, _, _, _, _, _, _ => none
 | k + 1, x1, x5, x8, x9, x121000, x121001, x121002, x121003, x121004, x121005 => if x9 = true then ((some (([x121001, x121002, x121003] : List Int) : List Int)).bind fun y124 => (if x5.length + y124.length < 17592186044416 then (some (x5 ++ y124)) else (none))) else (if x8 = 9 then ((some (([x121002, x121003] : List Int) : List Int)).bind fun y130 => (if x5.length + y130.length < 17592186044416 then (some (x5 ++ y130)) else (none))) else (if x8 = 10 then (cubbyref08_numbers.j1 k x1 x5 x8 (x8 == 10) x121000 x121001 x121002 x121003 x121004 x121005) else (if x8 = 12 then (cubbyref08_numbers.j1 k x1 x5 x8 (x8 == 12) x121000 x121001 x121002 x121003 x121004 x121005) else (cubbyref08_numbers.j1 k x1 x5 x8 (x8 == 14) x121000 x121001 x121002 x121003 x121004 x121005))))
def cubbyref08_numbers.j1 : Nat → Bool → List Int → Int → Bool → Int → Int → Int → Int → ByteArray → List Int → Option (List Int)
 | 0, _, _, _, _, _, _, _, _, _, _ => none
 | k + 1, x1, x5, x8, x33, x121000, x121001, x121002, x121003, x121004, x121005 => if x33 = true then (if x5.length < 17592186044416 then (some (x5 ++ [x121002])) else (none)) else (if x8 = 13 then ((some (([x121002, x121003, x121001] : List Int) : List Int)).bind fun y139 => (if x5.length + y139.length < 17592186044416 then (some (x5 ++ y139)) else (none))) else (if x8 = 11 then (if x5.length < 17592186044416 then ((some (x5 ++ [x121001] : List Int)).bind fun y145 => (if x1 = true then (if y145.length < 17592186044416 then (some (y145 ++ [x121002])) else (none)) else (if y145.length + x121005.length < 17592186044416 then (some (y145 ++ x121005)) else (none)))) else (none)) else ((some (([x121001, x121002] : List Int) : List Int)).bind fun y154 => (if x5.length + y154.length < 17592186044416 then (some (x5 ++ y154)) else (none)))))
end
def cubbyref08_numbers.f (k : Nat) (a0_0 : Int) (a0_1 : Int) (a0_2 : Int) (a0_3 : Int) (a0_4 : ByteArray) (l0_5 : List Int) (a1 : Bool) : Option (List Int) := (some (([] : List Int) : List Int)).bind fun y121 => (if a0_0 = 3 then (cubbyref08_numbers.j0 k a1 y121 a0_0 (a0_0 == 3) a0_0 a0_1 a0_2 a0_3 a0_4 l0_5) else (if a0_0 = 4 then (cubbyref08_numbers.j0 k a1 y121 a0_0 (a0_0 == 4) a0_0 a0_1 a0_2 a0_3 a0_4 l0_5) else (if a0_0 = 5 then (cubbyref08_numbers.j0 k a1 y121 a0_0 (a0_0 == 5) a0_0 a0_1 a0_2 a0_3 a0_4 l0_5) else (if a0_0 = 6 then (cubbyref08_numbers.j0 k a1 y121 a0_0 (a0_0 == 6) a0_0 a0_1 a0_2 a0_3 a0_4 l0_5) else (cubbyref08_numbers.j0 k a1 y121 a0_0 (a0_0 == 7) a0_0 a0_1 a0_2 a0_3 a0_4 l0_5)))))
set_option maxHeartbeats 8000000 in
set_option maxRecDepth 100000 in
theorem cubbyref08_numbers.calls (k : Nat) (a0_0 : Int) (a0_1 : Int) (a0_2 : Int) (a0_3 : Int) (a0_4 : ByteArray) (A0_5 : Option Addr) (c0_5 : Nat) (l0_5 : List Int) (a1 : Bool) (r : List Int) (w : World) (hr0_5 : Kd.C (Kd.int .i64) w A0_5 l0_5.length l0_5) (hc0_5 : l0_5.length ≤ c0_5) (h : cubbyref08_numbers.f k a0_0 a0_1 a0_2 a0_3 a0_4 l0_5 a1 = some r) :
 Calls Tryz.prog 39 #[.agg #[.int .i64 a0_0, .int .i64 a0_1, .int .i64 a0_2, .int .i64 a0_3, .string a0_4, .slice A0_5 l0_5.length c0_5], .bool a1] w fun e w' => ∃ v0_ : Value, e = .returned (v0_) ∧ Kd.R (Kd.int .i64) 3 w' w.heap.size (fun _ => True) v0_ r ∧ Below w.heap.size w w' := by
 have hu44 := Tryz.underlying44
 have HR0_5 := zA hr0_5
 have HC0_5 := zA hc0_5
 clear hr0_5 hc0_5
 have HB := zA (Below.refl w.heap.size w)
 have H := h; clear h; unfold cubbyref08_numbers.f at H
 obtain ⟨y121, hy121⟩ : ∃ y_ : List Int, y_ = (([] : List Int)) := ⟨_, rfl⟩
 replace H : (if a0_0 = 3 then (cubbyref08_numbers.j0 k a1 y121 a0_0 (a0_0 == 3) a0_0 a0_1 a0_2 a0_3 a0_4 l0_5) else (if a0_0 = 4 then (cubbyref08_numbers.j0 k a1 y121 a0_0 (a0_0 == 4) a0_0 a0_1 a0_2 a0_3 a0_4 l0_5) else (if a0_0 = 5 then (cubbyref08_numbers.j0 k a1 y121 a0_0 (a0_0 == 5) a0_0 a0_1 a0_2 a0_3 a0_4 l0_5) else (if a0_0 = 6 then (cubbyref08_numbers.j0 k a1 y121 a0_0 (a0_0 == 6) a0_0 a0_1 a0_2 a0_3 a0_4 l0_5) else (cubbyref08_numbers.j0 k a1 y121 a0_0 (a0_0 == 7) a0_0 a0_1 a0_2 a0_3 a0_4 l0_5))))) = some r := by (try rw [hy121]); first | with_reducible exact H | exact (zJ _ _).symm.trans H | exact H
 have Ny121 := zA hy121
 clear hy121
 have HC3 := zA H
 clear H
 go_enter Tryz.func39, Tryz.ntmps39
 go_upto_if 9 with (first | ((with_reducible refine gate_dst (N := 2) rfl ?_); refine box_event (by rfl) (N := 2) (by rfl) (cs := #[.int .i64 a0_0, .int .i64 a0_1, .int .i64 a0_2, .int .i64 a0_3, .string a0_4, .slice A0_5 l0_5.length c0_5]) (t := 44) ?hr ?_; (case hr => go_simp <;> rfl); intro gb120 hg w4 hbox hb; have BK120 := zA (hbox); have GW120 := qG hg; have GE120 := GW120; replace HB := qH hb; clear hb hbox hg) | ((with_reducible refine gate_dst (N := 6) rfl ?_); refine Kd.R_lit (Kd.int .i64) _ 3 (by rfl) (N := 6) (by rfl) (xs := ([] : List Int)) (inner := []) (ok := fun _ => True) (okp := fun _ => True) ?hr ?hp (fun _ hk => hk) trivial (Below.refl _ _) (Nat.le_refl _) (by simp) ?_; (case hr => go_simp <;> rfl); (case hp => exact (Reps.none _ _)); intro v122 w5 ho6 hb hg_ hnew_; clear hg_ hnew_; (first | rw [← Ny121.out] at ho6 | (simp only [Int.reduceToNat] at ho6; rw [← Ny121.out] at ho6)); have HO123 := zA (Kd.R_lower ho6 (below_size qB)); replace BK120 := qW BK120 hb; replace HB := qH hb; clear hb ho6; have z7_0 := bk6 BK120.out))
 (try simp only [Act.put, List.setIfInBounds_toArray, List.set_cons_zero, List.set_cons_succ])
 go_cut [9] (fun v9 wc => ∃ (kq : Nat) (x9_2 : Bool), v9 = .bool x9_2 ∧ Aside0 (cubbyref08_numbers.j0 kq a1 y121 a0_0 x9_2 a0_0 a0_1 a0_2 a0_3 a0_4 l0_5 = some r) ∧ Aside0 (kq ≤ k) ∧ Aside0 (Kd.R (Kd.int .i64) 3 wc w.heap.size (fun _ => True) v122 y121) ∧ Aside0 (wc.heap[gb120]? = some (.cells #[.int .i64 a0_0, .int .i64 a0_1, .int .i64 a0_2, .int .i64 a0_3, .string a0_4, (.slice A0_5 l0_5.length c0_5)] 44 (0, 0))) ∧ Aside0 (Below w.heap.size w wc))
 case first =>
  have H := HC3.out
  clear HC3
  by_cases c8 : a0_0 = 3
  ·rw [zC c8] at H
   obtain ⟨c8b0, c8b1⟩ := qe c8; clear c8
   (first | rw [c8b0] | (simp only [i64_w, i32_w]; rw [c8b0]) | skip)
   have H' := zA H
   clear H
   go_wp2
   go_meet
   case rel => exact ⟨_, ((a0_0 == 3)), qT, H', ⟨qO⟩, ⟨qR HO123.out⟩, ⟨qK BK120.out⟩, ⟨qB⟩⟩
  ·rw [zD c8] at H
   obtain ⟨c8b0, c8b1⟩ := qn c8
   (first | rw [c8b0] | (simp only [i64_w, i32_w]; rw [c8b0]) | skip)
   by_cases c9 : a0_0 = 4
   ·rw [zC c9] at H
    obtain ⟨c9b0, c9b1⟩ := qe c9; clear c9
    have H' := zA H
    clear H
    go_wp2
    go_meet
    case rel => exact ⟨_, ((a0_0 == 4)), qT, H', ⟨qO⟩, ⟨qR HO123.out⟩, ⟨qK BK120.out⟩, ⟨qB⟩⟩
   ·rw [zD c9] at H
    obtain ⟨c9b0, c9b1⟩ := qn c9
    by_cases c10 : a0_0 = 5
    ·rw [zC c10] at H
     obtain ⟨c10b0, c10b1⟩ := qe c10; clear c10
     have H' := zA H
     clear H
     go_wp2
     go_meet
     case rel => exact ⟨_, ((a0_0 == 5)), qT, H', ⟨qO⟩, ⟨qR HO123.out⟩, ⟨qK BK120.out⟩, ⟨qB⟩⟩
    ·rw [zD c10] at H
     obtain ⟨c10b0, c10b1⟩ := qn c10
     by_cases c11 : a0_0 = 6
     ·rw [zC c11] at H
      obtain ⟨c11b0, c11b1⟩ := qe c11; clear c11
      have H' := zA H
      clear H
      go_wp2
      go_meet
      case rel => exact ⟨_, ((a0_0 == 6)), qT, H', ⟨qO⟩, ⟨qR HO123.out⟩, ⟨qK BK120.out⟩, ⟨qB⟩⟩
     ·rw [zD c11] at H
      obtain ⟨c11b0, c11b1⟩ := qn c11
      have H' := zA H
      clear H
      go_wp2
      go_meet
      case rel => exact ⟨_, ((a0_0 == 7)), qT, H', ⟨qO⟩, ⟨qR HO123.out⟩, ⟨qK BK120.out⟩, ⟨qB⟩⟩
 case rest =>
  clear HC3
  try clear c1; try clear p2; try clear c3; try clear c8; try clear c8b0 c8b1; try clear c9; try clear c9b0 c9b1; try clear c10; try clear c10b0 c10b1; try clear c11; try clear c11b0 c11b1; try clear z7_0
  obtain ⟨kq, x9_2, rfl, HA, HJ2, HO_5, BK120, HB⟩ := hcut
  cases kq with
  | zero => exact absurd HA.out (by simp [cubbyref08_numbers.j0])
  | succ kj2 =>
   have H := HA.out
   clear HA
   simp only [cubbyref08_numbers.j0] at H
   by_cases c12 : x9_2 = true
   ·subst c12
    have H1 : ((some (([a0_1, a0_2, a0_3] : List Int) : List Int)).bind fun y124 => (if y121.length + y124.length < 17592186044416 then (some (y121 ++ y124)) else (none))) = some r := by rw [zC rfl] at H; exact H
    clear H
    have H := H1
    clear H1
    obtain ⟨y124, hy124⟩ : ∃ y_ : List Int, y_ = (([a0_1, a0_2, a0_3] : List Int)) := ⟨_, rfl⟩
    replace H : (if y121.length + y124.length < 17592186044416 then (some (y121 ++ y124)) else (none)) = some r := by (try rw [hy124]); first | with_reducible exact H | exact (zJ _ _).symm.trans H | exact H
    have Ny124 := zA hy124
    clear hy124
    by_cases c13 : y121.length + y124.length < 17592186044416
    ·rw [zC c13] at H
     have LMc13 := zA c13
     clear c13
     obtain ⟨y127, hy127⟩ : ∃ y_ : List Int, y_ = (y121 ++ y124) := ⟨_, rfl⟩
     replace H : (some y127) = some r := by (try rw [hy127]); first | with_reducible exact H | exact (zJ _ _).symm.trans H | exact H
     have Ny127 := zA hy127
     clear hy127
     obtain rfl := zI H
     have z14_0 := bk6 BK120.out
     go_wp2_with (first | ((with_reducible refine gate_dst (N := 22) rfl ?_); refine Kd.R_lit (Kd.int .i64) _ 3 (by rfl) (N := 22) (by rfl) (xs := ([a0_1, a0_2, a0_3] : List Int)) (inner := [.int .i64 a0_1, .int .i64 a0_2, .int .i64 a0_3]) (ok := fun _ => True) (okp := fun _ => True) ?hr ?hp (fun _ hk => hk) trivial (Below.refl _ _) (Nat.le_refl _) (by simp) ?_; (case hr => go_simp <;> rfl); (case hp => exact (Reps.one (show Kd.M (Kd.int .i64) _ _ _ a0_1 [.int .i64 a0_1] from rfl) (Reps.one (show Kd.M (Kd.int .i64) _ _ _ a0_2 [.int .i64 a0_2] from rfl) (Reps.one (show Kd.M (Kd.int .i64) _ _ _ a0_3 [.int .i64 a0_3] from rfl) (Reps.none _ _))))); intro v125 w15 ho16 hb hg_ hnew_; clear hg_ hnew_; (first | rw [← Ny124.out] at ho16 | (simp only [Int.reduceToNat] at ho16; rw [← Ny124.out] at ho16)); have HO126 := zA (Kd.R_lower (Kd.R_new' ho16 (Kd.R_lt (qR HO_5.out))) (below_size qB)); replace HO_5 := zA (Kd.R_elder' (qR HO_5.out) (Kd.R_base ho16) hb); replace BK120 := qW BK120 hb; replace HB := qH hb; clear hb ho16; obtain ⟨Ao18, co18, eo18⟩ := Kd.R_slice HO126.out; subst eo18) | ((with_reducible refine gate_builtin (b := .append) (xs := #[.tmp 15, .tmp 22]) rfl ?_); at_builtin; refine Kd.R_append_rows (Kd.int .i64) (w0 := w) w.heap.size rfl (.tmp 15) (.tmp 22) 42 3 (.int .i64 0) 8 rfl Tryz.underlying42 info3 rfl (by decide) (by omega) v122 y121 y124 _ _ _ (fun k_ => some k_ ≠ (.slice Ao18 y124.length co18 : Value).ownBlock) (fun _ => False) rfl rfl ?aO ?aR (fun _ _ h => h) (fun _ h => h.elim) ?aF ?aB ?aS ?aL ?_; (case aR => repeat (first | exact (Kd.R_reads' HO126.out).2.2 | (with_reducible refine Kd.C_alloc ?_ _) | (with_reducible refine Kd.C_drewN ?_ _) | (with_reducible refine Kd.C_drew ?_))); (case aB => exact qB); (case aF => exact (fun k_ hk => Kd.fresh' (Kd.R_lt (qR HO126.out)) k_ hk)); (case aO => exact (by (with_reducible repeat (first | apply Kd.R_alloc | apply Kd.R_drewN | apply Kd.R_drew)); exact Kd.R_mono HO_5.out (fun _ hk => hk.2))); (case aS => exact (below_size qB)); (case aL => have := LMc13.out; omega); intro v128 w17 ho hb hg hat; rw [← Ny127.out] at ho; replace BK120 := zA (blk_grown (qK BK120.out) hg (Kd.R_ne HO_5.out BK120.out (by decide))); replace HO126 := zA (Kd.R_after (ok := (fun _ => True)) (qR HO126.out) hg hat); replace HB := zA (hb); have HO129 := zA (ho); clear HO_5; clear ho hb hg hat))
     go_ret
     exact ⟨_, qE, by (with_reducible repeat (first | apply Kd.R_alloc | apply Kd.R_drewN | apply Kd.R_drew)); exact Kd.R_mono HO129.out (fun _ hk => trivial), qB⟩
    ·rw [zD c13] at H
     exact absurd H (by simp)
   ·replace c12 := Bool.eq_false_iff.mpr c12
    subst c12
    have H1 : (if a0_0 = 9 then ((some (([a0_2, a0_3] : List Int) : List Int)).bind fun y130 => (if y121.length + y130.length < 17592186044416 then (some (y121 ++ y130)) else (none))) else (if a0_0 = 10 then (cubbyref08_numbers.j1 kj2 a1 y121 a0_0 (a0_0 == 10) a0_0 a0_1 a0_2 a0_3 a0_4 l0_5) else (if a0_0 = 12 then (cubbyref08_numbers.j1 kj2 a1 y121 a0_0 (a0_0 == 12) a0_0 a0_1 a0_2 a0_3 a0_4 l0_5) else (cubbyref08_numbers.j1 kj2 a1 y121 a0_0 (a0_0 == 14) a0_0 a0_1 a0_2 a0_3 a0_4 l0_5)))) = some r := by rw [zD (show ¬ (false = true) by decide)] at H; exact H
    clear H
    have H := H1
    clear H1
    by_cases c19 : a0_0 = 9
    ·rw [zC c19] at H
     obtain ⟨c19b0, c19b1⟩ := qe c19; clear c19
     obtain ⟨y130, hy130⟩ : ∃ y_ : List Int, y_ = (([a0_2, a0_3] : List Int)) := ⟨_, rfl⟩
     replace H : (if y121.length + y130.length < 17592186044416 then (some (y121 ++ y130)) else (none)) = some r := by (try rw [hy130]); first | with_reducible exact H | exact (zJ _ _).symm.trans H | exact H
     have Ny130 := zA hy130
     clear hy130
     by_cases c20 : y121.length + y130.length < 17592186044416
     ·rw [zC c20] at H
      have LMc20 := zA c20
      clear c20
      obtain ⟨y133, hy133⟩ : ∃ y_ : List Int, y_ = (y121 ++ y130) := ⟨_, rfl⟩
      replace H : (some y133) = some r := by (try rw [hy133]); first | with_reducible exact H | exact (zJ _ _).symm.trans H | exact H
      have Ny133 := zA hy133
      clear hy133
      obtain rfl := zI H
      have z21_0 := bk6 BK120.out
      go_wp2_with (first | ((with_reducible refine gate_dst (N := 31) rfl ?_); refine Kd.R_lit (Kd.int .i64) _ 3 (by rfl) (N := 31) (by rfl) (xs := ([a0_2, a0_3] : List Int)) (inner := [.int .i64 a0_2, .int .i64 a0_3]) (ok := fun _ => True) (okp := fun _ => True) ?hr ?hp (fun _ hk => hk) trivial (Below.refl _ _) (Nat.le_refl _) (by simp) ?_; (case hr => go_simp <;> rfl); (case hp => exact (Reps.one (show Kd.M (Kd.int .i64) _ _ _ a0_2 [.int .i64 a0_2] from rfl) (Reps.one (show Kd.M (Kd.int .i64) _ _ _ a0_3 [.int .i64 a0_3] from rfl) (Reps.none _ _)))); intro v131 w22 ho23 hb hg_ hnew_; clear hg_ hnew_; (first | rw [← Ny130.out] at ho23 | (simp only [Int.reduceToNat] at ho23; rw [← Ny130.out] at ho23)); have HO132 := zA (Kd.R_lower (Kd.R_new' ho23 (Kd.R_lt (qR HO_5.out))) (below_size qB)); replace HO_5 := zA (Kd.R_elder' (qR HO_5.out) (Kd.R_base ho23) hb); replace BK120 := qW BK120 hb; replace HB := qH hb; clear hb ho23; obtain ⟨Ao25, co25, eo25⟩ := Kd.R_slice HO132.out; subst eo25) | ((with_reducible refine gate_builtin (b := .append) (xs := #[.tmp 26, .tmp 31]) rfl ?_); at_builtin; refine Kd.R_append_rows (Kd.int .i64) (w0 := w) w.heap.size rfl (.tmp 26) (.tmp 31) 42 3 (.int .i64 0) 8 rfl Tryz.underlying42 info3 rfl (by decide) (by omega) v122 y121 y130 _ _ _ (fun k_ => some k_ ≠ (.slice Ao25 y130.length co25 : Value).ownBlock) (fun _ => False) rfl rfl ?aO ?aR (fun _ _ h => h) (fun _ h => h.elim) ?aF ?aB ?aS ?aL ?_; (case aR => repeat (first | exact (Kd.R_reads' HO132.out).2.2 | (with_reducible refine Kd.C_alloc ?_ _) | (with_reducible refine Kd.C_drewN ?_ _) | (with_reducible refine Kd.C_drew ?_))); (case aB => exact qB); (case aF => exact (fun k_ hk => Kd.fresh' (Kd.R_lt (qR HO132.out)) k_ hk)); (case aO => exact (by (with_reducible repeat (first | apply Kd.R_alloc | apply Kd.R_drewN | apply Kd.R_drew)); exact Kd.R_mono HO_5.out (fun _ hk => hk.2))); (case aS => exact (below_size qB)); (case aL => have := LMc20.out; omega); intro v134 w24 ho hb hg hat; rw [← Ny133.out] at ho; replace BK120 := zA (blk_grown (qK BK120.out) hg (Kd.R_ne HO_5.out BK120.out (by decide))); replace HO132 := zA (Kd.R_after (ok := (fun _ => True)) (qR HO132.out) hg hat); replace HB := zA (hb); have HO135 := zA (ho); clear HO_5; clear ho hb hg hat))
      go_ret
      exact ⟨_, qE, by (with_reducible repeat (first | apply Kd.R_alloc | apply Kd.R_drewN | apply Kd.R_drew)); exact Kd.R_mono HO135.out (fun _ hk => trivial), qB⟩
     ·rw [zD c20] at H
      exact absurd H (by simp)
    ·rw [zD c19] at H
     obtain ⟨c19b0, c19b1⟩ := qn c19
     have HC26 := zA H
     clear H
     go_upto_if 33 with (fail)
     go_cut [33] (fun v33 wc => ∃ (kq : Nat) (x33_25 : Bool), v33 = .bool x33_25 ∧ Aside0 (cubbyref08_numbers.j1 kq a1 y121 a0_0 x33_25 a0_0 a0_1 a0_2 a0_3 a0_4 l0_5 = some r) ∧ Aside0 (kq ≤ kj2) ∧ Aside0 (Kd.R (Kd.int .i64) 3 wc w.heap.size (fun _ => True) v122 y121) ∧ Aside0 (wc.heap[gb120]? = some (.cells #[.int .i64 a0_0, .int .i64 a0_1, .int .i64 a0_2, .int .i64 a0_3, .string a0_4, (.slice A0_5 l0_5.length c0_5)] 44 (0, 0))) ∧ Aside0 (Below w.heap.size w wc))
     case first =>
      have H := HC26.out
      clear HC26
      by_cases c27 : a0_0 = 10
      ·rw [zC c27] at H
       obtain ⟨c27b0, c27b1⟩ := qe c27; clear c27
       (first | rw [c27b0] | (simp only [i64_w, i32_w]; rw [c27b0]) | skip)
       have H' := zA H
       clear H
       go_wp2
       go_meet
       case rel => exact ⟨_, ((a0_0 == 10)), qT, H', ⟨by have := HJ2.out; first | omega | exact Nat.le_refl _⟩, ⟨qR HO_5.out⟩, ⟨qK BK120.out⟩, ⟨qB⟩⟩
      ·rw [zD c27] at H
       obtain ⟨c27b0, c27b1⟩ := qn c27
       (first | rw [c27b0] | (simp only [i64_w, i32_w]; rw [c27b0]) | skip)
       by_cases c28 : a0_0 = 12
       ·rw [zC c28] at H
        obtain ⟨c28b0, c28b1⟩ := qe c28; clear c28
        have H' := zA H
        clear H
        go_wp2
        go_meet
        case rel => exact ⟨_, ((a0_0 == 12)), qT, H', ⟨by have := HJ2.out; first | omega | exact Nat.le_refl _⟩, ⟨qR HO_5.out⟩, ⟨qK BK120.out⟩, ⟨qB⟩⟩
       ·rw [zD c28] at H
        obtain ⟨c28b0, c28b1⟩ := qn c28
        have H' := zA H
        clear H
        go_wp2
        go_meet
        case rel => exact ⟨_, ((a0_0 == 14)), qT, H', ⟨by have := HJ2.out; first | omega | exact Nat.le_refl _⟩, ⟨qR HO_5.out⟩, ⟨qK BK120.out⟩, ⟨qB⟩⟩
     case rest =>
      clear HC26
      try clear c1; try clear c2; try clear p2; try clear c3; try clear c8; try clear c8b0 c8b1; try clear c9; try clear c9b0 c9b1; try clear c10; try clear c10b0 c10b1; try clear c11; try clear c11b0 c11b1; try clear c12; try clear c13; try clear c19; try clear c19b0 c19b1; try clear c20; try clear c27; try clear c27b0 c27b1; try clear c28; try clear c28b0 c28b1; try clear z14_0; try clear z21_0; try clear z7_0
      obtain ⟨kq, x33_25, rfl, HA, HJ25, HO_5, BK120, HB⟩ := hcut
      cases kq with
      | zero => exact absurd HA.out (by simp [cubbyref08_numbers.j1])
      | succ kj25 =>
       have H := HA.out
       clear HA
       simp only [cubbyref08_numbers.j1] at H
       by_cases c29 : x33_25 = true
       ·subst c29
        have H1 : (if y121.length < 17592186044416 then (some (y121 ++ [a0_2])) else (none)) = some r := by rw [zC rfl] at H; exact H
        clear H
        have H := H1
        clear H1
        by_cases c30 : y121.length < 17592186044416
        ·rw [zC c30] at H
         have LMc30 := zA c30
         clear c30
         obtain ⟨y136, hy136⟩ : ∃ y_ : List Int, y_ = (y121 ++ [a0_2]) := ⟨_, rfl⟩
         replace H : (some y136) = some r := by (try rw [hy136]); first | with_reducible exact H | exact (zJ _ _).symm.trans H | exact H
         have Ny136 := zA hy136
         clear hy136
         obtain rfl := zI H
         have z31_0 := bk6 BK120.out
         go_wp2_with (first | ((with_reducible refine gate_builtin (b := .append) (xs := #[.tmp 37, .tmp 40]) rfl ?_); at_builtin; refine Kd.R_append (Kd.int .i64) (w0 := w) w.heap.size rfl (.tmp 37) (.tmp 40) 42 3 (.int .i64 0) 8 rfl Tryz.underlying42 info3 rfl (by decide) (by omega) v122 y121 a0_2 [.int .i64 a0_2] (fun _ => True) (fun _ => False) rfl rfl ?aP (fun _ hk => hk.elim) ?aF ?aO ?aB ?aS ?aL ?_; (case aP => exact rfl); (case aB => exact qB); (case aF => exact (fun _ _ => trivial)); (case aO => exact (qR HO_5.out)); (case aS => exact (below_size qB)); (case aL => have := LMc30.out; omega); intro v137 w32 ho hb hg hat; rw [← Ny136.out] at ho; replace BK120 := zA (blk_grown (qK BK120.out) hg (Kd.R_ne HO_5.out BK120.out (by decide))); replace HB := zA (hb); have HO138 := zA (ho); clear HO_5; clear ho hb hg hat))
         go_ret
         exact ⟨_, qE, qR HO138.out, qB⟩
        ·rw [zD c30] at H
         exact absurd H (by simp)
       ·replace c29 := Bool.eq_false_iff.mpr c29
        subst c29
        have H1 : (if a0_0 = 13 then ((some (([a0_2, a0_3, a0_1] : List Int) : List Int)).bind fun y139 => (if y121.length + y139.length < 17592186044416 then (some (y121 ++ y139)) else (none))) else (if a0_0 = 11 then (if y121.length < 17592186044416 then ((some (y121 ++ [a0_1] : List Int)).bind fun y145 => (if a1 = true then (if y145.length < 17592186044416 then (some (y145 ++ [a0_2])) else (none)) else (if y145.length + l0_5.length < 17592186044416 then (some (y145 ++ l0_5)) else (none)))) else (none)) else ((some (([a0_1, a0_2] : List Int) : List Int)).bind fun y154 => (if y121.length + y154.length < 17592186044416 then (some (y121 ++ y154)) else (none))))) = some r := by rw [zD (show ¬ (false = true) by decide)] at H; exact H
        clear H
        have H := H1
        clear H1
        by_cases c33 : a0_0 = 13
        ·rw [zC c33] at H
         obtain ⟨c33b0, c33b1⟩ := qe c33; clear c33
         obtain ⟨y139, hy139⟩ : ∃ y_ : List Int, y_ = (([a0_2, a0_3, a0_1] : List Int)) := ⟨_, rfl⟩
         replace H : (if y121.length + y139.length < 17592186044416 then (some (y121 ++ y139)) else (none)) = some r := by (try rw [hy139]); first | with_reducible exact H | exact (zJ _ _).symm.trans H | exact H
         have Ny139 := zA hy139
         clear hy139
         by_cases c34 : y121.length + y139.length < 17592186044416
         ·rw [zC c34] at H
          have LMc34 := zA c34
          clear c34
          obtain ⟨y142, hy142⟩ : ∃ y_ : List Int, y_ = (y121 ++ y139) := ⟨_, rfl⟩
          replace H : (some y142) = some r := by (try rw [hy142]); first | with_reducible exact H | exact (zJ _ _).symm.trans H | exact H
          have Ny142 := zA hy142
          clear hy142
          obtain rfl := zI H
          have z35_0 := bk6 BK120.out
          go_wp2_with (first | ((with_reducible refine gate_dst (N := 51) rfl ?_); refine Kd.R_lit (Kd.int .i64) _ 3 (by rfl) (N := 51) (by rfl) (xs := ([a0_2, a0_3, a0_1] : List Int)) (inner := [.int .i64 a0_2, .int .i64 a0_3, .int .i64 a0_1]) (ok := fun _ => True) (okp := fun _ => True) ?hr ?hp (fun _ hk => hk) trivial (Below.refl _ _) (Nat.le_refl _) (by simp) ?_; (case hr => go_simp <;> rfl); (case hp => exact (Reps.one (show Kd.M (Kd.int .i64) _ _ _ a0_2 [.int .i64 a0_2] from rfl) (Reps.one (show Kd.M (Kd.int .i64) _ _ _ a0_3 [.int .i64 a0_3] from rfl) (Reps.one (show Kd.M (Kd.int .i64) _ _ _ a0_1 [.int .i64 a0_1] from rfl) (Reps.none _ _))))); intro v140 w36 ho37 hb hg_ hnew_; clear hg_ hnew_; (first | rw [← Ny139.out] at ho37 | (simp only [Int.reduceToNat] at ho37; rw [← Ny139.out] at ho37)); have HO141 := zA (Kd.R_lower (Kd.R_new' ho37 (Kd.R_lt (qR HO_5.out))) (below_size qB)); replace HO_5 := zA (Kd.R_elder' (qR HO_5.out) (Kd.R_base ho37) hb); replace BK120 := qW BK120 hb; replace HB := qH hb; clear hb ho37; obtain ⟨Ao39, co39, eo39⟩ := Kd.R_slice HO141.out; subst eo39) | ((with_reducible refine gate_builtin (b := .append) (xs := #[.tmp 44, .tmp 51]) rfl ?_); at_builtin; refine Kd.R_append_rows (Kd.int .i64) (w0 := w) w.heap.size rfl (.tmp 44) (.tmp 51) 42 3 (.int .i64 0) 8 rfl Tryz.underlying42 info3 rfl (by decide) (by omega) v122 y121 y139 _ _ _ (fun k_ => some k_ ≠ (.slice Ao39 y139.length co39 : Value).ownBlock) (fun _ => False) rfl rfl ?aO ?aR (fun _ _ h => h) (fun _ h => h.elim) ?aF ?aB ?aS ?aL ?_; (case aR => repeat (first | exact (Kd.R_reads' HO141.out).2.2 | (with_reducible refine Kd.C_alloc ?_ _) | (with_reducible refine Kd.C_drewN ?_ _) | (with_reducible refine Kd.C_drew ?_))); (case aB => exact qB); (case aF => exact (fun k_ hk => Kd.fresh' (Kd.R_lt (qR HO141.out)) k_ hk)); (case aO => exact (by (with_reducible repeat (first | apply Kd.R_alloc | apply Kd.R_drewN | apply Kd.R_drew)); exact Kd.R_mono HO_5.out (fun _ hk => hk.2))); (case aS => exact (below_size qB)); (case aL => have := LMc34.out; omega); intro v143 w38 ho hb hg hat; rw [← Ny142.out] at ho; replace BK120 := zA (blk_grown (qK BK120.out) hg (Kd.R_ne HO_5.out BK120.out (by decide))); replace HO141 := zA (Kd.R_after (ok := (fun _ => True)) (qR HO141.out) hg hat); replace HB := zA (hb); have HO144 := zA (ho); clear HO_5; clear ho hb hg hat))
          go_ret
          exact ⟨_, qE, by (with_reducible repeat (first | apply Kd.R_alloc | apply Kd.R_drewN | apply Kd.R_drew)); exact Kd.R_mono HO144.out (fun _ hk => trivial), qB⟩
         ·rw [zD c34] at H
          exact absurd H (by simp)
        ·rw [zD c33] at H
         obtain ⟨c33b0, c33b1⟩ := qn c33
         by_cases c40 : a0_0 = 11
         ·rw [zC c40] at H
          obtain ⟨c40b0, c40b1⟩ := qe c40; clear c40
          by_cases c41 : y121.length < 17592186044416
          ·rw [zC c41] at H
           have LMc41 := zA c41
           clear c41
           obtain ⟨y145, hy145⟩ : ∃ y_ : List Int, y_ = (y121 ++ [a0_1]) := ⟨_, rfl⟩
           replace H : (if a1 = true then (if y145.length < 17592186044416 then (some (y145 ++ [a0_2])) else (none)) else (if y145.length + l0_5.length < 17592186044416 then (some (y145 ++ l0_5)) else (none))) = some r := by (try rw [hy145]); first | with_reducible exact H | exact (zJ _ _).symm.trans H | exact H
           have Ny145 := zA hy145
           clear hy145
           by_cases c42 : a1 = true
           ·subst c42
            have H1 : (if y145.length < 17592186044416 then (some (y145 ++ [a0_2])) else (none)) = some r := by rw [zC rfl] at H; exact H
            clear H
            have H := H1
            clear H1
            by_cases c43 : y145.length < 17592186044416
            ·rw [zC c43] at H
             have LMc43 := zA c43
             clear c43
             obtain ⟨y148, hy148⟩ : ∃ y_ : List Int, y_ = (y145 ++ [a0_2]) := ⟨_, rfl⟩
             replace H : (some y148) = some r := by (try rw [hy148]); first | with_reducible exact H | exact (zJ _ _).symm.trans H | exact H
             have Ny148 := zA hy148
             clear hy148
             obtain rfl := zI H
             have z44_0 := bk6 BK120.out
             go_wp2_with (first | ((with_reducible refine gate_builtin (b := .append) (xs := #[.tmp 55, .tmp 58]) rfl ?_); at_builtin; refine Kd.R_append (Kd.int .i64) (w0 := w) w.heap.size rfl (.tmp 55) (.tmp 58) 42 3 (.int .i64 0) 8 rfl Tryz.underlying42 info3 rfl (by decide) (by omega) v122 y121 a0_1 [.int .i64 a0_1] (fun _ => True) (fun _ => False) rfl rfl ?aP (fun _ hk => hk.elim) ?aF ?aO ?aB ?aS ?aL ?_; (case aP => exact rfl); (case aB => exact qB); (case aF => exact (fun _ _ => trivial)); (case aO => exact (qR HO_5.out)); (case aS => exact (below_size qB)); (case aL => have := LMc41.out; omega); intro v146 w45 ho hb hg hat; rw [← Ny145.out] at ho; replace BK120 := zA (blk_grown (qK BK120.out) hg (Kd.R_ne HO_5.out BK120.out (by decide))); replace HB := zA (hb); have HO147 := zA (ho); clear HO_5; clear ho hb hg hat; have z46_0 := bk6 BK120.out) | ((with_reducible refine gate_builtin (b := .append) (xs := #[.tmp 61, .tmp 64]) rfl ?_); at_builtin; refine Kd.R_append (Kd.int .i64) (w0 := w) w.heap.size rfl (.tmp 61) (.tmp 64) 42 3 (.int .i64 0) 8 rfl Tryz.underlying42 info3 rfl (by decide) (by omega) v146 y145 a0_2 [.int .i64 a0_2] (fun _ => True) (fun _ => False) rfl rfl ?aP (fun _ hk => hk.elim) ?aF ?aO ?aB ?aS ?aL ?_; (case aP => exact rfl); (case aB => exact qB); (case aF => exact (fun _ _ => trivial)); (case aO => exact (qR HO147.out)); (case aS => exact (below_size qB)); (case aL => have := LMc43.out; omega); intro v149 w47 ho hb hg hat; rw [← Ny148.out] at ho; replace BK120 := zA (blk_grown (qK BK120.out) hg (Kd.R_ne HO147.out BK120.out (by decide))); replace HB := zA (hb); have HO150 := zA (ho); clear HO147; clear ho hb hg hat))
             go_ret
             exact ⟨_, qE, qR HO150.out, qB⟩
            ·rw [zD c43] at H
             exact absurd H (by simp)
           ·replace c42 := Bool.eq_false_iff.mpr c42
            subst c42
            have H1 : (if y145.length + l0_5.length < 17592186044416 then (some (y145 ++ l0_5)) else (none)) = some r := by rw [zD (show ¬ (false = true) by decide)] at H; exact H
            clear H
            have H := H1
            clear H1
            by_cases c48 : y145.length + l0_5.length < 17592186044416
            ·rw [zC c48] at H
             have LMc48 := zA c48
             clear c48
             obtain ⟨y151, hy151⟩ : ∃ y_ : List Int, y_ = (y145 ++ l0_5) := ⟨_, rfl⟩
             replace H : (some y151) = some r := by (try rw [hy151]); first | with_reducible exact H | exact (zJ _ _).symm.trans H | exact H
             have Ny151 := zA hy151
             clear hy151
             obtain rfl := zI H
             have z49_0 := bk6 BK120.out
             go_wp2_with (first | ((with_reducible refine gate_builtin (b := .append) (xs := #[.tmp 55, .tmp 58]) rfl ?_); at_builtin; refine Kd.R_append (Kd.int .i64) (w0 := w) w.heap.size rfl (.tmp 55) (.tmp 58) 42 3 (.int .i64 0) 8 rfl Tryz.underlying42 info3 rfl (by decide) (by omega) v122 y121 a0_1 [.int .i64 a0_1] (fun _ => True) (fun _ => False) rfl rfl ?aP (fun _ hk => hk.elim) ?aF ?aO ?aB ?aS ?aL ?_; (case aP => exact rfl); (case aB => exact qB); (case aF => exact (fun _ _ => trivial)); (case aO => exact (qR HO_5.out)); (case aS => exact (below_size qB)); (case aL => have := LMc41.out; omega); intro v146 w50 ho hb hg hat; rw [← Ny145.out] at ho; replace BK120 := zA (blk_grown (qK BK120.out) hg (Kd.R_ne HO_5.out BK120.out (by decide))); replace HB := zA (hb); have HO147 := zA (ho); clear HO_5; clear ho hb hg hat; have z51_0 := bk6 BK120.out) | ((with_reducible refine gate_builtin (b := .append) (xs := #[.tmp 66, .tmp 68]) rfl ?_); at_builtin; refine Kd.R_append_rows (Kd.int .i64) (w0 := w) w.heap.size rfl (.tmp 66) (.tmp 68) 42 3 (.int .i64 0) 8 rfl Tryz.underlying42 info3 rfl (by decide) (by omega) v146 y145 l0_5 _ _ _ (fun _ => True) (fun _ => False) rfl rfl ?aO ?aR (fun _ _ h => h) (fun _ h => h.elim) ?aF ?aB ?aS ?aL ?_; (case aR => exact qCB HR0_5.out); (case aB => exact qB); (case aF => exact (fun _ _ => trivial)); (case aO => exact (qR HO147.out)); (case aS => exact (below_size qB)); (case aL => have := LMc48.out; omega); intro v152 w52 ho hb hg hat; rw [← Ny151.out] at ho; replace BK120 := zA (blk_grown (qK BK120.out) hg (Kd.R_ne HO147.out BK120.out (by decide))); replace HB := zA (hb); have HO153 := zA (ho); clear HO147; clear ho hb hg hat))
             go_ret
             exact ⟨_, qE, qR HO153.out, qB⟩
            ·rw [zD c48] at H
             exact absurd H (by simp)
          ·rw [zD c41] at H
           exact absurd H (by simp)
         ·rw [zD c40] at H
          obtain ⟨c40b0, c40b1⟩ := qn c40
          obtain ⟨y154, hy154⟩ : ∃ y_ : List Int, y_ = (([a0_1, a0_2] : List Int)) := ⟨_, rfl⟩
          replace H : (if y121.length + y154.length < 17592186044416 then (some (y121 ++ y154)) else (none)) = some r := by (try rw [hy154]); first | with_reducible exact H | exact (zJ _ _).symm.trans H | exact H
          have Ny154 := zA hy154
          clear hy154
          by_cases c53 : y121.length + y154.length < 17592186044416
          ·rw [zC c53] at H
           have LMc53 := zA c53
           clear c53
           obtain ⟨y157, hy157⟩ : ∃ y_ : List Int, y_ = (y121 ++ y154) := ⟨_, rfl⟩
           replace H : (some y157) = some r := by (try rw [hy157]); first | with_reducible exact H | exact (zJ _ _).symm.trans H | exact H
           have Ny157 := zA hy157
           clear hy157
           obtain rfl := zI H
           have z54_0 := bk6 BK120.out
           go_wp2_with (first | ((with_reducible refine gate_dst (N := 75) rfl ?_); refine Kd.R_lit (Kd.int .i64) _ 3 (by rfl) (N := 75) (by rfl) (xs := ([a0_1, a0_2] : List Int)) (inner := [.int .i64 a0_1, .int .i64 a0_2]) (ok := fun _ => True) (okp := fun _ => True) ?hr ?hp (fun _ hk => hk) trivial (Below.refl _ _) (Nat.le_refl _) (by simp) ?_; (case hr => go_simp <;> rfl); (case hp => exact (Reps.one (show Kd.M (Kd.int .i64) _ _ _ a0_1 [.int .i64 a0_1] from rfl) (Reps.one (show Kd.M (Kd.int .i64) _ _ _ a0_2 [.int .i64 a0_2] from rfl) (Reps.none _ _)))); intro v155 w55 ho56 hb hg_ hnew_; clear hg_ hnew_; (first | rw [← Ny154.out] at ho56 | (simp only [Int.reduceToNat] at ho56; rw [← Ny154.out] at ho56)); have HO156 := zA (Kd.R_lower (Kd.R_new' ho56 (Kd.R_lt (qR HO_5.out))) (below_size qB)); replace HO_5 := zA (Kd.R_elder' (qR HO_5.out) (Kd.R_base ho56) hb); replace BK120 := qW BK120 hb; replace HB := qH hb; clear hb ho56; obtain ⟨Ao58, co58, eo58⟩ := Kd.R_slice HO156.out; subst eo58) | ((with_reducible refine gate_builtin (b := .append) (xs := #[.tmp 70, .tmp 75]) rfl ?_); at_builtin; refine Kd.R_append_rows (Kd.int .i64) (w0 := w) w.heap.size rfl (.tmp 70) (.tmp 75) 42 3 (.int .i64 0) 8 rfl Tryz.underlying42 info3 rfl (by decide) (by omega) v122 y121 y154 _ _ _ (fun k_ => some k_ ≠ (.slice Ao58 y154.length co58 : Value).ownBlock) (fun _ => False) rfl rfl ?aO ?aR (fun _ _ h => h) (fun _ h => h.elim) ?aF ?aB ?aS ?aL ?_; (case aR => repeat (first | exact (Kd.R_reads' HO156.out).2.2 | (with_reducible refine Kd.C_alloc ?_ _) | (with_reducible refine Kd.C_drewN ?_ _) | (with_reducible refine Kd.C_drew ?_))); (case aB => exact qB); (case aF => exact (fun k_ hk => Kd.fresh' (Kd.R_lt (qR HO156.out)) k_ hk)); (case aO => exact (by (with_reducible repeat (first | apply Kd.R_alloc | apply Kd.R_drewN | apply Kd.R_drew)); exact Kd.R_mono HO_5.out (fun _ hk => hk.2))); (case aS => exact (below_size qB)); (case aL => have := LMc53.out; omega); intro v158 w57 ho hb hg hat; rw [← Ny157.out] at ho; replace BK120 := zA (blk_grown (qK BK120.out) hg (Kd.R_ne HO_5.out BK120.out (by decide))); replace HO156 := zA (Kd.R_after (ok := (fun _ => True)) (qR HO156.out) hg hat); replace HB := zA (hb); have HO159 := zA (ho); clear HO_5; clear ho hb hg hat))
           go_ret
           exact ⟨_, qE, by (with_reducible repeat (first | apply Kd.R_alloc | apply Kd.R_drewN | apply Kd.R_drew)); exact Kd.R_mono HO159.out (fun _ hk => trivial), qB⟩
          ·rw [zD c53] at H
           exact absurd H (by simp)
end Go.Proofs.YtniknpjeknmpjaaGreatDoor.Q
namespace Go.Proofs.YtniknpjeknmpjaaGreatDoor.PlainText
open Go Go.RowKit Go.Proofs.YtniknpjeknmpjaaGreatDoorW.PrintWords Go.Proofs.YtniknpjeknmpjaaGreatDoorW.PrintMore Go.Proofs.YtniknpjeknmpjaaGreatDoor.Q Go.Proofs.YtniknpjeknmpjaaGreatDoor.Plain
set_option linter.unusedVariables false
set_option linter.unusedSimpArgs false
def emp : ByteArray := ⟨#[]⟩
def wordR (op : Int) (code : Bool) : ByteArray := match text_of.f op code with
 | some (_, wd, _, true) => wd
 | _ => emp
def numsR (x : SIns) (code : Bool) : List Int :=
 if 3 ≤ x.f0 ∧ x.f0 ≤ 7 then [x.f1, x.f2, x.f3] else if x.f0 = 9 then [x.f2, x.f3] else if x.f0 = 10 ∨ x.f0 = 12 ∨ x.f0 = 14 then [x.f2] else if x.f0 = 13 then [x.f2, x.f3, x.f1] else if x.f0 = 11 then (if code = true then [x.f1, x.f2] else x.f1 :: x.f5) else [x.f1, x.f2]
theorem op_cases (op : Int) : op = 1 ∨ op = 2 ∨ op = 3 ∨ op = 4 ∨ op = 5 ∨ op = 6 ∨ op = 7 ∨ op = 8 ∨ op = 9 ∨ op = 10 ∨ op = 11 ∨ op = 12 ∨ op = 13 ∨ op = 14 ∨ op = 21 ∨ op = 22 ∨ op = 0 ∨ (op < 0 ∨ 14 < op) ∧ op ≠ 21 ∧ op ≠ 22 := by omega
theorem text_of_none {op : Int} {code : Bool} (h : op = 0 ∨ (op < 0 ∨ 14 < op) ∧ op ≠ 21 ∧ op ≠ 22) : text_of.f op code = some (0, emp, emp, false) := by
 unfold text_of.f
 rw [zD (by omega), zD (by omega), zD (by omega), zD (by omega), zD (by omega), zD (by omega), zD (by omega), zD (by omega), zD (by omega), zD (by omega), zD (by omega), zD (by omega), zD (by omega), zD (by omega), zD (by omega), zD (by omega)]
 rfl
theorem word_ev (op : Int) (code : Bool) : Ev (fun k => cubbyref08_word.f k op code) (wordR op code) := by
 refine ⟨3, fun k hk => ?_⟩
 obtain ⟨q, rfl⟩ : ∃ q, k = q + 3 := ⟨k - 3, by omega⟩
 rcases op_cases op with rfl | rfl | rfl | rfl | rfl | rfl | rfl | rfl | rfl | rfl | rfl | rfl | rfl | rfl | rfl | rfl | rfl | h
 all_goals first
  | (cases code <;> rfl)
  | skip
 have e : wordR op code = emp := by unfold wordR; rw [text_of_none (.inr h)]
 rw [e]
 unfold cubbyref08_word.f
 simp only [zJ]
 have h2 : (op == 21) = false := by simpa using h.2.1
 have go : cubbyref08_word.j0 (q + 3) op code ([(⟨#[]⟩ : ByteArray), (⟨#[99, 111, 110, 115, 116]⟩ : ByteArray), (⟨#[99, 111, 112, 121]⟩ : ByteArray), (⟨#[97, 100, 100]⟩ : ByteArray), (⟨#[115, 117, 98]⟩ : ByteArray), (⟨#[109, 117, 108]⟩ : ByteArray), (⟨#[108, 101, 115, 115]⟩ : ByteArray), (⟨#[100, 105, 118]⟩ : ByteArray), (⟨#[108, 111, 97, 100]⟩ : ByteArray), (⟨#[115, 116, 111, 114, 101]⟩ : ByteArray), (⟨#[111, 117, 116]⟩ : ByteArray), (⟨#[99, 97, 108, 108]⟩ : ByteArray), (⟨#[106, 117, 109, 112]⟩ : ByteArray), (⟨#[98, 114, 97, 110, 99, 104]⟩ : ByteArray), (⟨#[114, 101, 116]⟩ : ByteArray)] : List ByteArray) false = some emp := by
  simp only [cubbyref08_word.j0]
  rw [zD (by simp), h2]
  cases code with
  | false => simp only [cubbyref08_word.j1]; rw [zD (by simp), zD (by simp), zD (by simp)]; rfl
  | true => simp only [cubbyref08_word.j1, if_true, Bool.false_eq_true, if_false]; rw [zD h.2.2]; rfl
 by_cases h0 : op ≥ 0
 ·rw [zC h0, zG (by show ¬ op < 15; omega)]
  exact go
 ·rw [zD h0]
  exact go
theorem numbers_ev (x : SIns) (code : Bool) (h5 : x.f5.length ≤ 1000) : Ev (fun k => cubbyref08_numbers.f k x.f0 x.f1 x.f2 x.f3 x.f4 x.f5 code) (numsR x code) := by
 obtain ⟨x0, x1, x2, x3, x4, x5⟩ := x
 dsimp only at h5 ⊢
 refine ⟨3, fun k hk => ?_⟩
 obtain ⟨q, rfl⟩ : ∃ q, k = q + 3 := ⟨k - 3, by omega⟩
 have h6 : 1 + x5.length < 17592186044416 := by omega
 have hoth : (x0 < 3 ∨ x0 = 8 ∨ 14 < x0) → cubbyref08_numbers.f (q + 3) x0 x1 x2 x3 x4 x5 code = some (numsR ⟨x0, x1, x2, x3, x4, x5⟩ code) := fun h => by
  unfold numsR cubbyref08_numbers.f
  dsimp only
  simp only [zJ]
  rw [zD (by omega), zD (by omega), zD (by omega), zD (by omega), zD (by omega), zD (by omega), zD (by omega), zD (by omega), zD (by omega)]
  rw [show (x0 == 7) = false from by simpa using (by omega : ¬ x0 = 7)]
  simp only [cubbyref08_numbers.j0]
  rw [zD (by simp), zD (by omega), zD (by omega), zD (by omega), show (x0 == 14) = false from by simpa using (by omega : ¬ x0 = 14)]
  simp only [cubbyref08_numbers.j1]
  rw [zD (by simp), zD (by omega), zD (by omega)]
  rfl
 rcases op_cases x0 with rfl | rfl | rfl | rfl | rfl | rfl | rfl | rfl | rfl | rfl | rfl | rfl | rfl | rfl | rfl | rfl | rfl | h
 all_goals first
  | exact hoth (by omega)
  | rfl
  | skip
 cases code with
 | true => rfl
 | false =>
  have e : cubbyref08_numbers.f (q + 3) 11 x1 x2 x3 x4 x5 false = if 1 + x5.length < 17592186044416 then some (x1 :: x5) else none := rfl
  show cubbyref08_numbers.f (q + 3) 11 x1 x2 x3 x4 x5 false = _
  rw [e, zC h6]
  rfl
end Go.Proofs.YtniknpjeknmpjaaGreatDoor.PlainText
namespace Go.Proofs.YtniknpjeknmpjaaGreatDoor.Q
open Go.RowKit Go.Proofs.YtniknpjeknmpjaaGreatDoorW.PrintWords Go.Proofs.YtniknpjeknmpjaaGreatDoorW.PrintLast Go.Proofs.YtniknpjeknmpjaaGreatDoorW.PrintMore
attribute [local go_sem] max2_int min2_int max_two min_two max_three min_three max_four min_four
set_option linter.unusedVariables false
set_option linter.unusedSimpArgs false

mutual
def cubbyref08_ins.l0 : Nat → List ByteArray → Bool → Int → Int → Option (Int × Int × Int × Int × ByteArray × List Int × Int)
 | 0, _, _, _, _ => none
 | k + 1, x0, x1, x6, x7 => if x7 ≤ 22 then ((cubbyref08_word.f k x7 x1).bind fun t380 => (if 0 < (x0.length : Int) then (if t380.toList = (rdOf ByteArray.empty x0 0).toList then (if (rdOf ByteArray.empty x0 0).toList = ([] : List UInt8) then (cubbyref08_ins.l0 k x0 x1 x6 (wrap64 (x7 + 1))) else (cubbyref08_ins.l0 k x0 x1 x7 (wrap64 (x7 + 1)))) else (cubbyref08_ins.l0 k x0 x1 x6 (wrap64 (x7 + 1)))) else (none))) else (if x6 < 0 then (some (0, 0, 0, 0, (⟨#[]⟩ : ByteArray), ([] : List Int), 80)) else ((cubbyref08_numbers.f k x6 0 0 0 (⟨#[]⟩ : ByteArray) ([] : List Int) x1).bind fun t384 => (if x6 = 11 then (if x1 = true then (cubbyref08_ins.j1 k x0 x1 x6 (wrap64 ((t384.length : Int) + 1)) 1 x6 0 0 0 (⟨#[]⟩ : ByteArray)) else (cubbyref08_ins.j1 k x0 x1 x6 (mx 2 (wrap64 ((x0.length : Int) - 1))) 1 x6 0 0 0 (⟨#[]⟩ : ByteArray))) else (cubbyref08_ins.j1 k x0 x1 x6 (t384.length : Int) (-1) x6 0 0 0 (⟨#[]⟩ : ByteArray)))))
def cubbyref08_ins.j1 : Nat → List ByteArray → Bool → Int → Int → Int → Int → Int → Int → Int → ByteArray → Option (Int × Int × Int × Int × ByteArray × List Int × Int)
 | 0, _, _, _, _, _, _, _, _, _, _ => none
 | k + 1, x0, x1, x6, x9, x10, x384000, x384001, x384002, x384003, x384004 => (cubbyref08_read.f k x0 x9 x10).bind fun bt387 => (if bt387.2.2 = 0 then (if x6 = 3 then (cubbyref08_ins.j2 k x1 bt387.1 x6 (x6 == 3) x384000 x384001 x384002 x384003 bt387.2.1) else (if x6 = 4 then (cubbyref08_ins.j2 k x1 bt387.1 x6 (x6 == 4) x384000 x384001 x384002 x384003 bt387.2.1) else (if x6 = 5 then (cubbyref08_ins.j2 k x1 bt387.1 x6 (x6 == 5) x384000 x384001 x384002 x384003 bt387.2.1) else (if x6 = 6 then (cubbyref08_ins.j2 k x1 bt387.1 x6 (x6 == 6) x384000 x384001 x384002 x384003 bt387.2.1) else (cubbyref08_ins.j2 k x1 bt387.1 x6 (x6 == 7) x384000 x384001 x384002 x384003 bt387.2.1))))) else (some (0, 0, 0, 0, (⟨#[]⟩ : ByteArray), ([] : List Int), bt387.2.2)))
def cubbyref08_ins.j2 : Nat → Bool → List Int → Int → Bool → Int → Int → Int → Int → ByteArray → Option (Int × Int × Int × Int × ByteArray × List Int × Int)
 | 0, _, _, _, _, _, _, _, _, _ => none
 | k + 1, x1, x11, x65, x74, x384000, x384001, x384002, x384003, x384004 => if x74 = true then (if 0 < (x11.length : Int) then (if 1 < (x11.length : Int) then (if 2 < (x11.length : Int) then (some (x384000, rd x11 0, rd x11 1, rd x11 2, x384004, ([] : List Int), 0)) else (none)) else (none)) else (none)) else (if x65 = 9 then (if 0 < (x11.length : Int) then (if 1 < (x11.length : Int) then (some (x384000, x384001, rd x11 0, rd x11 1, x384004, ([] : List Int), 0)) else (none)) else (none)) else (if x65 = 10 then (cubbyref08_ins.j3 k x1 x11 x65 (x65 == 10) x384000 x384001 x384002 x384003 x384004) else (if x65 = 12 then (cubbyref08_ins.j3 k x1 x11 x65 (x65 == 12) x384000 x384001 x384002 x384003 x384004) else (cubbyref08_ins.j3 k x1 x11 x65 (x65 == 14) x384000 x384001 x384002 x384003 x384004))))
def cubbyref08_ins.j3 : Nat → Bool → List Int → Int → Bool → Int → Int → Int → Int → ByteArray → Option (Int × Int × Int × Int × ByteArray × List Int × Int)
 | 0, _, _, _, _, _, _, _, _, _ => none
 | k + 1, x1, x11, x65, x102, x384000, x384001, x384002, x384003, x384004 => if x102 = true then (if 0 < (x11.length : Int) then (some (x384000, x384001, rd x11 0, x384003, x384004, ([] : List Int), 0)) else (none)) else (if x65 = 13 then (if 0 < (x11.length : Int) then (if 1 < (x11.length : Int) then (if 2 < (x11.length : Int) then (some (x384000, rd x11 2, rd x11 0, rd x11 1, x384004, ([] : List Int), 0)) else (none)) else (none)) else (none)) else (if x65 = 11 then (if 0 < (x11.length : Int) then (if x1 = true then (if 1 < (x11.length : Int) then (some (x384000, rd x11 0, rd x11 1, x384003, x384004, ([] : List Int), 0)) else (none)) else (if (x11.length : Int) > 1 then (if 1 ≤ (x11.length : Int) then ((some (x11.drop 1 : List Int)).bind fun y403 => (if ([] : List Int).length + y403.length < 17592186044416 then (some (x384000, rd x11 0, x384002, x384003, x384004, (([] : List Int) ++ y403), 0)) else (none))) else (none)) else (some (x384000, rd x11 0, x384002, x384003, x384004, ([] : List Int), 0)))) else (none)) else (if 0 < (x11.length : Int) then (if 1 < (x11.length : Int) then (some (x384000, rd x11 0, rd x11 1, x384003, x384004, ([] : List Int), 0)) else (none)) else (none))))
end
def cubbyref08_ins.f (k : Nat) (l0 : List ByteArray) (a1 : Bool) : Option (Int × Int × Int × Int × ByteArray × List Int × Int) := cubbyref08_ins.l0 k l0 a1 (-1) 1
def cubbyref08_ins.T5 : Bool × List (List Nat × List Nat) := (true, [([], []), ([], []), ([0, 1], [0, 1]), ([], []), ([3], [3]), ([4], [4]), ([2, 5], [2, 5]), ([6, 2], [6]), ([7], [7]), ([8, 7], [7, 8]), ([9, 7], [7, 9]), ([10, 7], [7, 10]), ([7, 11], [7, 11])])
def cubbyref08_ins.B5 : List Nat := [0, 0, 3, 0, 8, 24, 63, 127, 255, 511, 1023, 2047, 4095]
theorem cubbyref08_ins.tab5 : rtab .any (opsOf Tryz.f54 5) = cubbyref08_ins.T5 := by kernel_rfl
theorem cubbyref08_ins.bits5 : waitsOk cubbyref08_ins.T5.2 cubbyref08_ins.B5 = true := by kernel_rfl
set_option maxHeartbeats 8000000 in
set_option maxRecDepth 100000 in
theorem cubbyref08_ins.calls (k : Nat) (A0 : Option Addr) (c0 : Nat) (l0 : List ByteArray) (a1 : Bool) (r1 : Int) (r2 : Int) (r3 : Int) (r4 : Int) (r5 : ByteArray) (r6 : List Int) (r7 : Int) (w : World) (hr0 : Kd.C Kd.string w A0 l0.length l0) (hc0 : l0.length ≤ c0) (h : cubbyref08_ins.f k l0 a1 = some (r1, r2, r3, r4, r5, r6, r7)) :
 Calls Tryz.prog 54 #[.slice A0 l0.length c0, .bool a1] w fun e w' => ∃ v5_ : Value, e = .returned (.tuple #[.agg #[.int .i64 r1, .int .i64 r2, .int .i64 r3, .int .i64 r4, .string r5, v5_], .int .i64 r7]) ∧ Kd.R (Kd.int .i64) 3 w' w.heap.size (fun _ => True) v5_ r6 ∧ Below w.heap.size w w' := by
 have hu44 := Tryz.underlying44
 have HR0 := zA hr0
 have HC0 := zA hc0
 clear hr0 hc0
 have HB := zA (Below.refl w.heap.size w)
 have H := h; clear h; unfold cubbyref08_ins.f at H
 have H' := zA H
 clear H
 go_enter Tryz.func54, Tryz.ntmps54
 go_wp2_with (first | ((with_reducible refine gate_dst (N := 4) rfl ?_); refine box_event (by rfl) (N := 4) (by rfl) (cs := #[.int .i64 0, .int .i64 0, .int .i64 0, .int .i64 0, .string (⟨#[]⟩ : ByteArray), .slice none 0 0]) (t := 44) ?hr ?_; (case hr => go_simp <;> rfl); intro gb379 hg w3 hbox hb; have BK379 := zA (hbox); have GW379 := qG hg; have GE379 := GW379; replace HB := qH hb; clear hb hbox hg))
 go_loopg [6, 7] k (fun kq v6 v7 w' => ∃ (x6_1 : Int) (x7_1 : Int), v6 = .int .i64 x6_1 ∧ v7 = .int .i64 x7_1 ∧ Aside0 (cubbyref08_ins.l0 kq l0 a1 x6_1 x7_1 = some (r1, r2, r3, r4, r5, r6, r7)) ∧ Aside0 (kq ≤ k) ∧ Aside0 (w'.heap[gb379]? = some (.cells #[.int .i64 0, .int .i64 0, .int .i64 0, .int .i64 0, .string (⟨#[]⟩ : ByteArray), (.slice none 0 0)] 44 (0, 0))) ∧ Aside0 (Below w.heap.size w w'))
 case atStart => exact ⟨((-1)), (1), qT, qT, H', ⟨Nat.le_refl _⟩, ⟨qK BK379.out⟩, ⟨qB⟩⟩
 case round =>
  clear H'
  try clear p2
  obtain ⟨x6_1, x7_1, rfl, rfl, HA, HK1, BK379, HB⟩ := hrel
  cases gk with
  | zero => exact absurd HA.out (by simp [cubbyref08_ins.l0])
  | succ k1 =>
   have H := HA.out
   clear HA
   simp only [cubbyref08_ins.l0] at H
   by_cases c4 : x7_1 ≤ 22
   ·rw [zC c4] at H
    have c4b0 := zF c4
    clear c4
    replace H := qb H; obtain ⟨t380, A5, H⟩ := H
    by_cases c6 : 0 < (l0.length : Int)
    ·rw [zC c6] at H
     have c6b0 := zF c6
     have c6b1 : decide (0 < l0.length) = true := zF (by omega)
     clear c6
     by_cases c7 : t380.toList = (rdOf ByteArray.empty l0 0).toList
     ·rw [zC c7] at H
      obtain ⟨c7b0, c7b1⟩ := qe c7; clear c7
      by_cases c8 : (rdOf ByteArray.empty l0 0).toList = ([] : List UInt8)
      ·rw [zC c8] at H
       obtain ⟨c8b0, c8b1⟩ := qe c8; clear c8
       have H' := zA H
       clear H
       try go_wp2
       have n0_ := zA (blk_drew BK379.out)
       have n1_ := zA (below_drew1 HB.out)
       clear BK379
       clear HB
       have BK379 := n0_
       have HB := n1_
       clear n0_ n1_
       have p381 : 0 ≤ (0 : Int) := (by omega)
       have q381 : 0 < (l0.length : Int) := zB qA
       obtain ⟨ad381, e381, hx381_0⟩ := Kd.at_string HR0.out 0 p381 q381
       have hw381_0 := hx381_0
       (try rw [show ((0 : Int)).toNat = 0 from rfl] at hw381_0)
       (try rw [show 0 * 1 = 0 from rfl] at hw381_0)
       (try rw [Addr.add_zero'] at hw381_0)
       cases e381
       have qi381 : (0 < l0.length) = True := eq_true (by omega)
       (try rw [show ((0 : Int)).toNat = 0 from rfl] at hx381_0)
       (try rw [Addr.add_zero'] at hx381_0)
       replace hx381_0 := (HB.out.cell (zE w _ hx381_0)).trans hx381_0
       replace p381 := eq_true p381
       replace q381 := eq_true q381
       have p382 : 0 ≤ (0 : Int) := (by omega)
       have q382 : 0 < (l0.length : Int) := zB qA
       obtain ⟨ad382, e382, hx382_0⟩ := Kd.at_string HR0.out 0 p382 q382
       have hw382_0 := hx382_0
       (try rw [show ((0 : Int)).toNat = 0 from rfl] at hw382_0)
       (try rw [show 0 * 1 = 0 from rfl] at hw382_0)
       (try rw [Addr.add_zero'] at hw382_0)
       obtain rfl : ad381 = ad382 := (by injection e382)
       have qi382 : (0 < l0.length) = True := eq_true (by omega)
       (try rw [show ((0 : Int)).toNat = 0 from rfl] at hx382_0)
       (try rw [Addr.add_zero'] at hx382_0)
       replace hx382_0 := (HB.out.cell (zE w _ hx382_0)).trans hx382_0
       replace p382 := eq_true p382
       replace q382 := eq_true q382
       refine start_ (n := 13) (S := fun w' => w'.cell? ad381 = some (.string (rdOf ByteArray.empty l0 0)) ∧ w'.cell? ad381 = some (.string (rdOf ByteArray.empty l0 0))) (ds := []) (bA 13 0) (by kernel_rfl) rfl rfl ⟨((HB.out.cell (zE w _ hw381_0)).trans hw381_0), ((HB.out.cell (zE w _ hw382_0)).trans hw382_0)⟩ (fun hHeld => ?_); refine with_tabW cubbyref08_ins.tab5 cubbyref08_ins.bits5 (fun HT_ HW_ => ?_)
       generalize wr.drew = w9 at BK379 HB hx381_0 hx382_0 hHeld ⊢
       refine pu_ (i := 0) (N := some 18) (bA 13 1) ?_
       refine pu_ (i := 1) (N := some 19) (bA 13 3) ?_
       refine pu_ (i := 3) (N := some 21) (bA 13 11) ?_
       refine pu_ (i := 4) (N := some 22) (bA 13 27) ?_
       refine tk_ (i := 5) (N := some 23) (bA 13 59) ?_
       refine one_ (i := 2) (N := some 20) (bA 13 63) rfl rfl (one_of HT_.out (by kernel_rfl)) (by decide) (fun K hK => ?_)
       refine goes_ Tryz.func38 (by kernel_rfl) rfl #[.int .i64 x7_1, .bool a1] (by rfl) rfl rfl qL ?_
       with_reducible refine (cubbyref08_word.calls k1 x7_1 a1 t380 _ A5.out).mono ?_
       rintro e w10 ⟨rfl, hb⟩
       refine ⟨_, rfl, ?_⟩
       have n0_ := qW BK379 hb
       have n1_ := qH hb
       clear BK379
       clear HB
       have BK379 := n0_
       have HB := n1_
       clear n0_ n1_
       (try clear hb)
       (try clear hb2)
       (try clear hk)
       (try clear hi)
       refine hK.out _ _ ⟨((HB.out.cell (zE w _ hw381_0)).trans hw381_0), ((HB.out.cell (zE w _ hw382_0)).trans hw382_0)⟩ (fun hHeld => ?_)
       clear hK K
       refine norm_ (a' := ?_) ?_ ?_
       rotate_left
       ·show Act.put _ (some 20) _ = _
        simp only [Act.put, List.setIfInBounds_toArray, List.set_cons_zero, List.set_cons_succ, i64_w, i32_w]
        rfl
       refine pu_ (i := 6) (N := some 24) (bA 13 127) ?_
       refine pu_ (i := 7) (N := some 25) (bA 13 255) ?_
       refine pu_ (i := 8) (N := some 26) (bA 13 511) ?_
       refine pu_ (i := 9) (N := some 27) (bA 13 1023) ?_
       refine tk_ (i := 10) (N := some 28) (bA 13 2047) ?_
       refine pu_ (i := 11) (N := some 29) (bA 13 4095) ?_
       refine pu_ (i := 12) (N := some 30) (bA 13 8191) ?_
       refine done_ (done_of HT_.out (by kernel_rfl)) ?_
       try go_wp2
       go_roundg k1
       case measure => have := HK1.out; omega
       case rel => exact ⟨(x6_1), (wrap64 (x7_1 + 1)), qT, qT, H', ⟨by have := HK1.out; omega⟩, ⟨qK BK379.out⟩, ⟨qB⟩⟩
      ·rw [zD c8] at H
       obtain ⟨c8b0, c8b1⟩ := qn c8
       have H' := zA H
       clear H
       try go_wp2
       have n0_ := zA (blk_drew BK379.out)
       have n1_ := zA (below_drew1 HB.out)
       clear BK379
       clear HB
       have BK379 := n0_
       have HB := n1_
       clear n0_ n1_
       have p381 : 0 ≤ (0 : Int) := (by omega)
       have q381 : 0 < (l0.length : Int) := zB qA
       obtain ⟨ad381, e381, hx381_0⟩ := Kd.at_string HR0.out 0 p381 q381
       have hw381_0 := hx381_0
       (try rw [show ((0 : Int)).toNat = 0 from rfl] at hw381_0)
       (try rw [show 0 * 1 = 0 from rfl] at hw381_0)
       (try rw [Addr.add_zero'] at hw381_0)
       cases e381
       have qi381 : (0 < l0.length) = True := eq_true (by omega)
       (try rw [show ((0 : Int)).toNat = 0 from rfl] at hx381_0)
       (try rw [Addr.add_zero'] at hx381_0)
       replace hx381_0 := (HB.out.cell (zE w _ hx381_0)).trans hx381_0
       replace p381 := eq_true p381
       replace q381 := eq_true q381
       have p382 : 0 ≤ (0 : Int) := (by omega)
       have q382 : 0 < (l0.length : Int) := zB qA
       obtain ⟨ad382, e382, hx382_0⟩ := Kd.at_string HR0.out 0 p382 q382
       have hw382_0 := hx382_0
       (try rw [show ((0 : Int)).toNat = 0 from rfl] at hw382_0)
       (try rw [show 0 * 1 = 0 from rfl] at hw382_0)
       (try rw [Addr.add_zero'] at hw382_0)
       obtain rfl : ad381 = ad382 := (by injection e382)
       have qi382 : (0 < l0.length) = True := eq_true (by omega)
       (try rw [show ((0 : Int)).toNat = 0 from rfl] at hx382_0)
       (try rw [Addr.add_zero'] at hx382_0)
       replace hx382_0 := (HB.out.cell (zE w _ hx382_0)).trans hx382_0
       replace p382 := eq_true p382
       replace q382 := eq_true q382
       refine start_ (n := 13) (S := fun w' => w'.cell? ad381 = some (.string (rdOf ByteArray.empty l0 0)) ∧ w'.cell? ad381 = some (.string (rdOf ByteArray.empty l0 0))) (ds := []) (bA 13 0) (by kernel_rfl) rfl rfl ⟨((HB.out.cell (zE w _ hw381_0)).trans hw381_0), ((HB.out.cell (zE w _ hw382_0)).trans hw382_0)⟩ (fun hHeld => ?_); refine with_tabW cubbyref08_ins.tab5 cubbyref08_ins.bits5 (fun HT_ HW_ => ?_)
       generalize wr.drew = w11 at BK379 HB hx381_0 hx382_0 hHeld ⊢
       refine pu_ (i := 0) (N := some 18) (bA 13 1) ?_
       refine pu_ (i := 1) (N := some 19) (bA 13 3) ?_
       refine pu_ (i := 3) (N := some 21) (bA 13 11) ?_
       refine pu_ (i := 4) (N := some 22) (bA 13 27) ?_
       refine tk_ (i := 5) (N := some 23) (bA 13 59) ?_
       refine one_ (i := 2) (N := some 20) (bA 13 63) rfl rfl (one_of HT_.out (by kernel_rfl)) (by decide) (fun K hK => ?_)
       refine goes_ Tryz.func38 (by kernel_rfl) rfl #[.int .i64 x7_1, .bool a1] (by rfl) rfl rfl qL ?_
       with_reducible refine (cubbyref08_word.calls k1 x7_1 a1 t380 _ A5.out).mono ?_
       rintro e w12 ⟨rfl, hb⟩
       refine ⟨_, rfl, ?_⟩
       have n0_ := qW BK379 hb
       have n1_ := qH hb
       clear BK379
       clear HB
       have BK379 := n0_
       have HB := n1_
       clear n0_ n1_
       (try clear hb)
       (try clear hb2)
       (try clear hk)
       (try clear hi)
       refine hK.out _ _ ⟨((HB.out.cell (zE w _ hw381_0)).trans hw381_0), ((HB.out.cell (zE w _ hw382_0)).trans hw382_0)⟩ (fun hHeld => ?_)
       clear hK K
       refine norm_ (a' := ?_) ?_ ?_
       rotate_left
       ·show Act.put _ (some 20) _ = _
        simp only [Act.put, List.setIfInBounds_toArray, List.set_cons_zero, List.set_cons_succ, i64_w, i32_w]
        rfl
       refine pu_ (i := 6) (N := some 24) (bA 13 127) ?_
       refine pu_ (i := 7) (N := some 25) (bA 13 255) ?_
       refine pu_ (i := 8) (N := some 26) (bA 13 511) ?_
       refine pu_ (i := 9) (N := some 27) (bA 13 1023) ?_
       refine tk_ (i := 10) (N := some 28) (bA 13 2047) ?_
       refine pu_ (i := 11) (N := some 29) (bA 13 4095) ?_
       refine pu_ (i := 12) (N := some 30) (bA 13 8191) ?_
       refine done_ (done_of HT_.out (by kernel_rfl)) ?_
       try go_wp2
       go_roundg k1
       case measure => have := HK1.out; omega
       case rel => exact ⟨(x7_1), (wrap64 (x7_1 + 1)), qT, qT, H', ⟨by have := HK1.out; omega⟩, ⟨qK BK379.out⟩, ⟨qB⟩⟩
     ·rw [zD c7] at H
      obtain ⟨c7b0, c7b1⟩ := qn c7
      have H' := zA H
      clear H
      try go_wp2
      have n0_ := zA (blk_drew BK379.out)
      have n1_ := zA (below_drew1 HB.out)
      clear BK379
      clear HB
      have BK379 := n0_
      have HB := n1_
      clear n0_ n1_
      have p381 : 0 ≤ (0 : Int) := (by omega)
      have q381 : 0 < (l0.length : Int) := zB qA
      obtain ⟨ad381, e381, hx381_0⟩ := Kd.at_string HR0.out 0 p381 q381
      have hw381_0 := hx381_0
      (try rw [show ((0 : Int)).toNat = 0 from rfl] at hw381_0)
      (try rw [show 0 * 1 = 0 from rfl] at hw381_0)
      (try rw [Addr.add_zero'] at hw381_0)
      cases e381
      have qi381 : (0 < l0.length) = True := eq_true (by omega)
      (try rw [show ((0 : Int)).toNat = 0 from rfl] at hx381_0)
      (try rw [Addr.add_zero'] at hx381_0)
      replace hx381_0 := (HB.out.cell (zE w _ hx381_0)).trans hx381_0
      replace p381 := eq_true p381
      replace q381 := eq_true q381
      refine start_ (n := 13) (S := fun w' => w'.cell? ad381 = some (.string (rdOf ByteArray.empty l0 0))) (ds := []) (bA 13 0) (by kernel_rfl) rfl rfl (((HB.out.cell (zE w _ hw381_0)).trans hw381_0)) (fun hHeld => ?_); refine with_tabW cubbyref08_ins.tab5 cubbyref08_ins.bits5 (fun HT_ HW_ => ?_)
      generalize wr.drew = w13 at BK379 HB hx381_0 hHeld ⊢
      refine pu_ (i := 0) (N := some 18) (bA 13 1) ?_
      refine pu_ (i := 1) (N := some 19) (bA 13 3) ?_
      refine pu_ (i := 3) (N := some 21) (bA 13 11) ?_
      refine pu_ (i := 4) (N := some 22) (bA 13 27) ?_
      refine take_ (i := 5) (N := some 23) (v := ?_) (a' := ?_) (bA 13 59) rfl rfl (take_ofW HT_.out HW_.out (by kernel_rfl)) (fun _ _ _ h => h) (Or.inl ⟨by rfl, ?_⟩) hHeld ?_ ?_
      rotate_left
      ·intro w' s0
       go_simp
       with_reducible rfl
      rotate_left
      ·simp only [Act.put, List.setIfInBounds_toArray, List.set_cons_zero, List.set_cons_succ, i64_w, i32_w]
       rfl
      refine one_ (i := 2) (N := some 20) (bA 13 63) rfl rfl (one_of HT_.out (by kernel_rfl)) (by decide) (fun K hK => ?_)
      refine goes_ Tryz.func38 (by kernel_rfl) rfl #[.int .i64 x7_1, .bool a1] (by rfl) rfl rfl qL ?_
      with_reducible refine (cubbyref08_word.calls k1 x7_1 a1 t380 _ A5.out).mono ?_
      rintro e w14 ⟨rfl, hb⟩
      refine ⟨_, rfl, ?_⟩
      have n0_ := qW BK379 hb
      have n1_ := qH hb
      clear BK379
      clear HB
      have BK379 := n0_
      have HB := n1_
      clear n0_ n1_
      (try clear hb)
      (try clear hb2)
      (try clear hk)
      (try clear hi)
      refine hK.out _ _ (((HB.out.cell (zE w _ hw381_0)).trans hw381_0)) (fun hHeld => ?_)
      clear hK K
      refine norm_ (a' := ?_) ?_ ?_
      rotate_left
      ·show Act.put _ (some 20) _ = _
       simp only [Act.put, List.setIfInBounds_toArray, List.set_cons_zero, List.set_cons_succ, i64_w, i32_w]
       rfl
      refine pu_ (i := 6) (N := some 24) (bA 13 127) ?_
      refine pu_ (i := 7) (N := some 25) (bA 13 255) ?_
      refine pure_ (i := 8) (N := some 26) (v := undef) (a' := ?_) (bA 13 511) rfl rfl (any_of HT_.out (by kernel_rfl)) (fun _ _ _ h => h) (Or.inr ⟨by rfl, rfl⟩) ?_ ?_
      rotate_left
      ·simp only [Act.put, List.setIfInBounds_toArray, List.set_cons_zero, List.set_cons_succ, i64_w, i32_w]
       rfl
      refine pure_ (i := 9) (N := some 27) (v := undef) (a' := ?_) (bA 13 1023) rfl rfl (any_of HT_.out (by kernel_rfl)) (fun _ _ _ h => h) (Or.inr ⟨by rfl, rfl⟩) ?_ ?_
      rotate_left
      ·simp only [Act.put, List.setIfInBounds_toArray, List.set_cons_zero, List.set_cons_succ, i64_w, i32_w]
       rfl
      refine pure_ (i := 10) (N := some 28) (v := undef) (a' := ?_) (bA 13 2047) rfl rfl (any_of HT_.out (by kernel_rfl)) (fun _ _ _ h => h) (Or.inr ⟨by rfl, rfl⟩) ?_ ?_
      rotate_left
      ·simp only [Act.put, List.setIfInBounds_toArray, List.set_cons_zero, List.set_cons_succ, i64_w, i32_w]
       rfl
      refine pure_ (i := 11) (N := some 29) (v := undef) (a' := ?_) (bA 13 4095) rfl rfl (any_of HT_.out (by kernel_rfl)) (fun _ _ _ h => h) (Or.inr ⟨by rfl, rfl⟩) ?_ ?_
      rotate_left
      ·simp only [Act.put, List.setIfInBounds_toArray, List.set_cons_zero, List.set_cons_succ, i64_w, i32_w]
       rfl
      refine pu_ (i := 12) (N := some 30) (bA 13 8191) ?_
      refine done_ (done_of HT_.out (by kernel_rfl)) ?_
      try go_wp2
      go_roundg k1
      case measure => have := HK1.out; omega
      case rel => exact ⟨(x6_1), (wrap64 (x7_1 + 1)), qT, qT, H', ⟨by have := HK1.out; omega⟩, ⟨qK BK379.out⟩, ⟨qB⟩⟩
    ·rw [zD c6] at H
     exact absurd H (by simp)
   ·rw [zD c4] at H
    have c4b0 := zG c4
    clear c4
    by_cases c15 : x6_1 < 0
    ·rw [zC c15] at H
     have c15b0 := zF c15
     clear c15
     simp only [Option.some.injEq, Prod.mk.injEq] at H
     obtain ⟨rfl, rfl, rfl, rfl, rfl, rfl, rfl⟩ := H
     have z16_0 := bk6 BK379.out
     go_wp2
     refine bodyPost_ret (results_ct rfl _ _ gb379 44 #[.int .i64 0, .int .i64 0, .int .i64 0, .int .i64 0, .string (⟨#[]⟩ : ByteArray), .slice none 0 0] (0, 0) _ rfl (by (with_reducible repeat (first | refine blk_drewN ?_ _ | refine blk_drew ?_ | refine blk_alloc ?_ _)); refine blk_put (cs := #[.int .i64 0, .int .i64 0, .int .i64 0, .int .i64 0, .string (⟨#[]⟩ : ByteArray), .slice none 0 0]) ?_ 5 _ rfl; (with_reducible repeat (first | refine blk_drewN ?_ _ | refine blk_drew ?_ | refine blk_alloc ?_ _)); refine blk_put (cs := #[.int .i64 0, .int .i64 0, .int .i64 0, .int .i64 0, .string (⟨#[]⟩ : ByteArray), .slice none 0 0]) ?_ 4 _ rfl; (with_reducible repeat (first | refine blk_drewN ?_ _ | refine blk_drew ?_ | refine blk_alloc ?_ _)); refine blk_put (cs := #[.int .i64 0, .int .i64 0, .int .i64 0, .int .i64 0, .string (⟨#[]⟩ : ByteArray), .slice none 0 0]) ?_ 3 _ rfl; (with_reducible repeat (first | refine blk_drewN ?_ _ | refine blk_drew ?_ | refine blk_alloc ?_ _)); refine blk_put (cs := #[.int .i64 0, .int .i64 0, .int .i64 0, .int .i64 0, .string (⟨#[]⟩ : ByteArray), .slice none 0 0]) ?_ 2 _ rfl; (with_reducible repeat (first | refine blk_drewN ?_ _ | refine blk_drew ?_ | refine blk_alloc ?_ _)); refine blk_put (cs := #[.int .i64 0, .int .i64 0, .int .i64 0, .int .i64 0, .string (⟨#[]⟩ : ByteArray), .slice none 0 0]) ?_ 1 _ rfl; (with_reducible repeat (first | refine blk_drewN ?_ _ | refine blk_drew ?_ | refine blk_alloc ?_ _)); refine blk_put (cs := #[.int .i64 0, .int .i64 0, .int .i64 0, .int .i64 0, .string (⟨#[]⟩ : ByteArray), .slice none 0 0]) ?_ 0 _ rfl; (with_reducible repeat (first | refine blk_drewN ?_ _ | refine blk_drew ?_ | refine blk_alloc ?_ _)); exact BK379.out) Tryz.underlying44 rfl (by kernel_rfl)) rfl ?_
     exact ⟨_, qE, by first | exact Kd.R_nil _ _ _ _ _ | exact Kd.N_nil _ _ _ _ _ | exact Kd.V_nil _ _ _ _ _ | exact Kd.Q_nil _ _ _ _ _ | exact Kd.S_nil _ _ _ _ _, qB⟩
    ·rw [zD c15] at H
     have c15b0 := zG c15
     clear c15
     replace H := qb H; obtain ⟨t384, A17, H⟩ := H
     have HC18 := zA H
     clear H
     go_upto_if 42 with (first | ((with_reducible refine gate_dst (N := 8) rfl ?_); refine box_event (by rfl) (N := 8) (by rfl) (cs := #[.int .i64 0, .int .i64 0, .int .i64 0, .int .i64 0, .string (⟨#[]⟩ : ByteArray), .slice none 0 0]) (t := 44) ?hr ?_; (case hr => go_simp <;> rfl); intro gb383 hg w19 hbox hb; have BK383 := zA (hbox); have GW383 := qG hg; have GE383 := GW383; replace HB := qH hb; have NB379_383 := zA ((by rw [hg]; exact Nat.ne_of_lt (blk_lt (g := gb379) (o := .cells #[.int .i64 0, .int .i64 0, .int .i64 0, .int .i64 0, .string (⟨#[]⟩ : ByteArray), .slice none 0 0] 44 (0, 0)) (qK BK379.out)) : gb379 ≠ gb383)); have NB383_379 := zA ((by rw [hg]; exact Nat.ne_of_gt (blk_lt (g := gb379) (o := .cells #[.int .i64 0, .int .i64 0, .int .i64 0, .int .i64 0, .string (⟨#[]⟩ : ByteArray), .slice none 0 0] 44 (0, 0)) (qK BK379.out)) : gb383 ≠ gb379)); replace BK379 := qW BK379 hb; clear hb hbox hg; have hnb20 := NB383_379.out; have hnc20 := NB379_383.out; have z21_0 := bk6 BK383.out) | ((with_reducible refine gate_callee (f := 39) rfl ?_); refine goesL_ (some 39) rfl rfl Tryz.func39 (by kernel_rfl) rfl #[.agg #[.int .i64 x6_1, .int .i64 0, .int .i64 0, .int .i64 0, .string (⟨#[]⟩ : ByteArray), .slice none 0 0], .bool a1] rfl qL ?_; (refine (cubbyref08_numbers.calls k1 x6_1 0 0 0 (⟨#[]⟩ : ByteArray) _ _ ([] : List Int) a1 t384 _ ?side1 ?side2 A17.out).mono ?_); (case side1 => exact Kd.C_nil _ _); (case side2 => exact Nat.le_refl _); rintro e w22 ⟨v385, rfl, ho0, hb⟩; refine ⟨_, rfl, ?_⟩; have HO386 := zA (Kd.R_lower ho0 (below_size qB)); replace BK379 := zA (blk_below (g := gb379) (o := .cells #[.int .i64 0, .int .i64 0, .int .i64 0, .int .i64 0, .string (⟨#[]⟩ : ByteArray), .slice none 0 0] 44 (0, 0)) (by (with_reducible repeat (first | refine blk_drewN ?_ _ | refine blk_drew ?_ | refine blk_alloc ?_ _)); refine blk_far ?_ NB379_383.out _; (with_reducible repeat (first | refine blk_drewN ?_ _ | refine blk_drew ?_ | refine blk_alloc ?_ _)); refine blk_far ?_ NB379_383.out _; (with_reducible repeat (first | refine blk_drewN ?_ _ | refine blk_drew ?_ | refine blk_alloc ?_ _)); refine blk_far ?_ NB379_383.out _; (with_reducible repeat (first | refine blk_drewN ?_ _ | refine blk_drew ?_ | refine blk_alloc ?_ _)); refine blk_far ?_ NB379_383.out _; (with_reducible repeat (first | refine blk_drewN ?_ _ | refine blk_drew ?_ | refine blk_alloc ?_ _)); refine blk_far ?_ NB379_383.out _; (with_reducible repeat (first | refine blk_drewN ?_ _ | refine blk_drew ?_ | refine blk_alloc ?_ _)); refine blk_far ?_ NB379_383.out _; (with_reducible repeat (first | refine blk_drewN ?_ _ | refine blk_drew ?_ | refine blk_alloc ?_ _)); exact BK379.out) hb); replace BK383 := zA (blk_below (g := gb383) (o := .cells #[.int .i64 x6_1, .int .i64 0, .int .i64 0, .int .i64 0, .string (⟨#[]⟩ : ByteArray), .slice none 0 0] 44 (0, 0)) (by (with_reducible repeat (first | refine blk_drewN ?_ _ | refine blk_drew ?_ | refine blk_alloc ?_ _)); refine blk_put (cs := #[.int .i64 x6_1, .int .i64 0, .int .i64 0, .int .i64 0, .string (⟨#[]⟩ : ByteArray), .slice none 0 0]) ?_ 5 _ rfl; (with_reducible repeat (first | refine blk_drewN ?_ _ | refine blk_drew ?_ | refine blk_alloc ?_ _)); refine blk_put (cs := #[.int .i64 x6_1, .int .i64 0, .int .i64 0, .int .i64 0, .string (⟨#[]⟩ : ByteArray), .slice none 0 0]) ?_ 4 _ rfl; (with_reducible repeat (first | refine blk_drewN ?_ _ | refine blk_drew ?_ | refine blk_alloc ?_ _)); refine blk_put (cs := #[.int .i64 x6_1, .int .i64 0, .int .i64 0, .int .i64 0, .string (⟨#[]⟩ : ByteArray), .slice none 0 0]) ?_ 3 _ rfl; (with_reducible repeat (first | refine blk_drewN ?_ _ | refine blk_drew ?_ | refine blk_alloc ?_ _)); refine blk_put (cs := #[.int .i64 x6_1, .int .i64 0, .int .i64 0, .int .i64 0, .string (⟨#[]⟩ : ByteArray), .slice none 0 0]) ?_ 2 _ rfl; (with_reducible repeat (first | refine blk_drewN ?_ _ | refine blk_drew ?_ | refine blk_alloc ?_ _)); refine blk_put (cs := #[.int .i64 x6_1, .int .i64 0, .int .i64 0, .int .i64 0, .string (⟨#[]⟩ : ByteArray), .slice none 0 0]) ?_ 1 _ rfl; (with_reducible repeat (first | refine blk_drewN ?_ _ | refine blk_drew ?_ | refine blk_alloc ?_ _)); refine blk_put (cs := #[.int .i64 0, .int .i64 0, .int .i64 0, .int .i64 0, .string (⟨#[]⟩ : ByteArray), .slice none 0 0]) ?_ 0 _ rfl; (with_reducible repeat (first | refine blk_drewN ?_ _ | refine blk_drew ?_ | refine blk_alloc ?_ _)); exact BK383.out) hb); replace HB := qH hb; obtain ⟨Ao23, co23, eo23⟩ := Kd.R_slice HO386.out; subst eo23))
     (try simp only [Act.put, List.setIfInBounds_toArray, List.set_cons_zero, List.set_cons_succ])
     go_cut [9, 10] (fun v9 v10 wc => ∃ (kq : Nat) (x9_17 : Int) (x10_17 : Int), v9 = .int .i64 x9_17 ∧ v10 = .int .i64 x10_17 ∧ Aside0 (cubbyref08_ins.j1 kq l0 a1 x6_1 x9_17 x10_17 x6_1 0 0 0 (⟨#[]⟩ : ByteArray) = some (r1, r2, r3, r4, r5, r6, r7)) ∧ Aside0 (kq ≤ k1) ∧ Aside0 (wc.heap[gb379]? = some (.cells #[.int .i64 0, .int .i64 0, .int .i64 0, .int .i64 0, .string (⟨#[]⟩ : ByteArray), (.slice none 0 0)] 44 (0, 0))) ∧ Aside0 (wc.heap[gb383]? = some (.cells #[.int .i64 x6_1, .int .i64 0, .int .i64 0, .int .i64 0, .string (⟨#[]⟩ : ByteArray), (.slice none 0 0)] 44 (0, 0))) ∧ Aside0 (Below w.heap.size w wc))
     case first =>
      have H := HC18.out
      clear HC18
      by_cases c24 : x6_1 = 11
      ·rw [zC c24] at H
       obtain ⟨c24b0, c24b1⟩ := qe c24; clear c24
       (first | rw [c24b0] | (simp only [i64_w, i32_w]; rw [c24b0]) | skip)
       by_cases c25 : a1 = true
       ·subst c25
        have H1 : (cubbyref08_ins.j1 k1 l0 true x6_1 (wrap64 ((t384.length : Int) + 1)) 1 x6_1 0 0 0 (⟨#[]⟩ : ByteArray)) = some (r1, r2, r3, r4, r5, r6, r7) := by rw [zC rfl] at H; exact H
        clear H
        have H := H1
        clear H1
        have H' := zA H
        clear H
        go_wp2
        go_meet
        case rel => exact ⟨_, (wrap64 ((t384.length : Int) + 1)), (1), qT, qT, H', ⟨by have := HK1.out; first | omega | exact Nat.le_refl _⟩, ⟨qK BK379.out⟩, ⟨qK BK383.out⟩, ⟨qB⟩⟩
       ·replace c25 := Bool.eq_false_iff.mpr c25
        subst c25
        have H1 : (cubbyref08_ins.j1 k1 l0 false x6_1 (mx 2 (wrap64 ((l0.length : Int) - 1))) 1 x6_1 0 0 0 (⟨#[]⟩ : ByteArray)) = some (r1, r2, r3, r4, r5, r6, r7) := by rw [zD (show ¬ (false = true) by decide)] at H; exact H
        clear H
        have H := H1
        clear H1
        obtain ⟨ji26, hji26⟩ : ∃ j_ : Int, (mx 2 (wrap64 ((l0.length : Int) - 1))) = j_ := ⟨_, rfl⟩
        replace H : (cubbyref08_ins.j1 k1 l0 false x6_1 ji26 1 x6_1 0 0 0 (⟨#[]⟩ : ByteArray)) = some (r1, r2, r3, r4, r5, r6, r7) := by first | (rw [hji26] at H; exact H) | (simp only [hji26] at H ⊢; exact H)
        have hji26_ : (if 2 < (wrap64 ((l0.length : Int) - 1)) then (wrap64 ((l0.length : Int) - 1)) else 2) = ji26 := hji26
        have H' := zA H
        clear H
        go_wp2
        go_meet
        case rel => exact ⟨_, (ji26), (1), (by first | rfl | (simp; done) | (simp only [← hji26] <;> (first | rfl | simp)) | (simp [*]; done)), qT, H', ⟨by have := HK1.out; first | omega | exact Nat.le_refl _⟩, ⟨qK BK379.out⟩, ⟨qK BK383.out⟩, ⟨qB⟩⟩
      ·rw [zD c24] at H
       obtain ⟨c24b0, c24b1⟩ := qn c24
       (first | rw [c24b0] | (simp only [i64_w, i32_w]; rw [c24b0]) | skip)
       have H' := zA H
       clear H
       go_wp2
       go_meet
       case rel => exact ⟨_, ((t384.length : Int)), ((-1)), qT, qT, H', ⟨by have := HK1.out; first | omega | exact Nat.le_refl _⟩, ⟨qK BK379.out⟩, ⟨qK BK383.out⟩, ⟨qB⟩⟩
     case rest =>
      clear HC18
      try clear c1; try clear c2; try clear p2; try clear c3; try clear p3; try clear q3; try clear hx3; try clear qi3; try clear c4b0; try clear c5; try clear c6; try clear c6b0 c6b1; try clear p6; try clear c7; try clear c7b0 c7b1; try clear c8; try clear c8b0 c8b1; try clear c15b0; try clear c20; try clear c24; try clear c24b0 c24b1; try clear c25; try clear z16_0; try clear z21_0; try clear hx381_0; try clear hx382_0; try clear p381; try clear p382; try clear q381; try clear q382
      obtain ⟨kq, x9_17, x10_17, rfl, rfl, HA, HJ17, BK379, BK383, HB⟩ := hcut
      cases kq with
      | zero => exact absurd HA.out (by simp [cubbyref08_ins.j1])
      | succ kj17 =>
       have H := HA.out
       clear HA
       simp only [cubbyref08_ins.j1] at H
       replace H := Option.bind_eq_some_iff.mp H
       obtain ⟨⟨t387, t388, t389⟩, A270, H⟩ := H
       replace H : (if t389 = 0 then (if x6_1 = 3 then (cubbyref08_ins.j2 kj17 a1 t387 x6_1 (x6_1 == 3) x6_1 0 0 0 t388) else (if x6_1 = 4 then (cubbyref08_ins.j2 kj17 a1 t387 x6_1 (x6_1 == 4) x6_1 0 0 0 t388) else (if x6_1 = 5 then (cubbyref08_ins.j2 kj17 a1 t387 x6_1 (x6_1 == 5) x6_1 0 0 0 t388) else (if x6_1 = 6 then (cubbyref08_ins.j2 kj17 a1 t387 x6_1 (x6_1 == 6) x6_1 0 0 0 t388) else (cubbyref08_ins.j2 kj17 a1 t387 x6_1 (x6_1 == 7) x6_1 0 0 0 t388))))) else (some (0, 0, 0, 0, (⟨#[]⟩ : ByteArray), ([] : List Int), t389))) = some (r1, r2, r3, r4, r5, r6, r7) := H
       have A27 := zA A270
       clear A270
       by_cases c28 : t389 = 0
       ·rw [zC c28] at H
        obtain ⟨c28b0, c28b1⟩ := qe c28; clear c28
        have HC29 := zA H
        clear H
        go_upto_if 74 with (first | ((with_reducible refine gate_callee (f := 53) rfl ?_); refine goesL_ (some 55) rfl rfl Tryz.func53 (by kernel_rfl) rfl #[.slice A0 l0.length c0, .int .i64 x9_17, .int .i64 x10_17] rfl qL ?_; (with_reducible refine (cubbyref08_read.calls kj17 _ _ l0 x9_17 x10_17 t387 t388 t389 _ ?side1 ?side2 A27.out).mono ?_); (case side1 => exact qCB HR0.out); (case side2 => exact HC0.out); rintro e w30 ⟨v390, rfl, ho0, hb⟩; refine ⟨_, rfl, ?_⟩; have HO391 := zA (Kd.R_lower ho0 (below_size qB)); replace BK379 := qW BK379 hb; replace BK383 := qW BK383 hb; replace HB := qH hb; (try clear hb); (try clear ho0); have hnb31 := NB383_379.out; have hnc31 := NB379_383.out; have z32_0 := bk6 BK383.out))
        (try simp only [Act.put, List.setIfInBounds_toArray, List.set_cons_zero, List.set_cons_succ])
        go_cut [74] (fun v74 wc => ∃ (kq : Nat) (x74_28 : Bool), v74 = .bool x74_28 ∧ Aside0 (cubbyref08_ins.j2 kq a1 t387 x6_1 x74_28 x6_1 0 0 0 t388 = some (r1, r2, r3, r4, r5, r6, r7)) ∧ Aside0 (kq ≤ kj17) ∧ Aside0 (Kd.R (Kd.int .i64) 3 wc w.heap.size (fun _ => True) v390 t387) ∧ Aside0 (wc.heap[gb379]? = some (.cells #[.int .i64 0, .int .i64 0, .int .i64 0, .int .i64 0, .string (⟨#[]⟩ : ByteArray), (.slice none 0 0)] 44 (0, 0))) ∧ Aside0 (wc.heap[gb383]? = some (.cells #[.int .i64 x6_1, .int .i64 0, .int .i64 0, .int .i64 0, .string t388, (.slice none 0 0)] 44 (0, 0))) ∧ Aside0 (Below w.heap.size w wc))
        case first =>
         have H := HC29.out
         clear HC29
         by_cases c33 : x6_1 = 3
         ·rw [zC c33] at H
          obtain ⟨c33b0, c33b1⟩ := qe c33; clear c33
          (first | rw [c33b0] | (simp only [i64_w, i32_w]; rw [c33b0]) | skip)
          have H' := zA H
          clear H
          go_wp2
          go_meet
          case rel => exact ⟨_, ((x6_1 == 3)), qT, H', ⟨by have := HK1.out; have := HJ17.out; first | omega | exact Nat.le_refl _⟩, ⟨by (with_reducible repeat (first | apply Kd.R_alloc | apply Kd.R_drewN | apply Kd.R_drew)); exact Kd.R_mono (Kd.R_far (p := ⟨gb383, 4, none⟩) (Kd.R_types HO391.out BK383.out (by decide)) (fun _ hk => hk.2) (.string t388)) (fun _ hk => trivial)⟩, ⟨by (with_reducible repeat (first | refine blk_drewN ?_ _ | refine blk_drew ?_ | refine blk_alloc ?_ _)); refine blk_far ?_ NB379_383.out _; (with_reducible repeat (first | refine blk_drewN ?_ _ | refine blk_drew ?_ | refine blk_alloc ?_ _)); exact BK379.out⟩, ⟨by (with_reducible repeat (first | refine blk_drewN ?_ _ | refine blk_drew ?_ | refine blk_alloc ?_ _)); refine blk_put (cs := #[.int .i64 x6_1, .int .i64 0, .int .i64 0, .int .i64 0, .string (⟨#[]⟩ : ByteArray), .slice none 0 0]) ?_ 4 _ rfl; (with_reducible repeat (first | refine blk_drewN ?_ _ | refine blk_drew ?_ | refine blk_alloc ?_ _)); exact BK383.out⟩, ⟨qB⟩⟩
         ·rw [zD c33] at H
          obtain ⟨c33b0, c33b1⟩ := qn c33
          (first | rw [c33b0] | (simp only [i64_w, i32_w]; rw [c33b0]) | skip)
          by_cases c34 : x6_1 = 4
          ·rw [zC c34] at H
           obtain ⟨c34b0, c34b1⟩ := qe c34; clear c34
           have H' := zA H
           clear H
           go_wp2
           go_meet
           case rel => exact ⟨_, ((x6_1 == 4)), qT, H', ⟨by have := HK1.out; have := HJ17.out; first | omega | exact Nat.le_refl _⟩, ⟨by (with_reducible repeat (first | apply Kd.R_alloc | apply Kd.R_drewN | apply Kd.R_drew)); exact Kd.R_mono (Kd.R_far (p := ⟨gb383, 4, none⟩) (Kd.R_types HO391.out BK383.out (by decide)) (fun _ hk => hk.2) (.string t388)) (fun _ hk => trivial)⟩, ⟨by (with_reducible repeat (first | refine blk_drewN ?_ _ | refine blk_drew ?_ | refine blk_alloc ?_ _)); refine blk_far ?_ NB379_383.out _; (with_reducible repeat (first | refine blk_drewN ?_ _ | refine blk_drew ?_ | refine blk_alloc ?_ _)); exact BK379.out⟩, ⟨by (with_reducible repeat (first | refine blk_drewN ?_ _ | refine blk_drew ?_ | refine blk_alloc ?_ _)); refine blk_put (cs := #[.int .i64 x6_1, .int .i64 0, .int .i64 0, .int .i64 0, .string (⟨#[]⟩ : ByteArray), .slice none 0 0]) ?_ 4 _ rfl; (with_reducible repeat (first | refine blk_drewN ?_ _ | refine blk_drew ?_ | refine blk_alloc ?_ _)); exact BK383.out⟩, ⟨qB⟩⟩
          ·rw [zD c34] at H
           obtain ⟨c34b0, c34b1⟩ := qn c34
           by_cases c35 : x6_1 = 5
           ·rw [zC c35] at H
            obtain ⟨c35b0, c35b1⟩ := qe c35; clear c35
            have H' := zA H
            clear H
            go_wp2
            go_meet
            case rel => exact ⟨_, ((x6_1 == 5)), qT, H', ⟨by have := HK1.out; have := HJ17.out; first | omega | exact Nat.le_refl _⟩, ⟨by (with_reducible repeat (first | apply Kd.R_alloc | apply Kd.R_drewN | apply Kd.R_drew)); exact Kd.R_mono (Kd.R_far (p := ⟨gb383, 4, none⟩) (Kd.R_types HO391.out BK383.out (by decide)) (fun _ hk => hk.2) (.string t388)) (fun _ hk => trivial)⟩, ⟨by (with_reducible repeat (first | refine blk_drewN ?_ _ | refine blk_drew ?_ | refine blk_alloc ?_ _)); refine blk_far ?_ NB379_383.out _; (with_reducible repeat (first | refine blk_drewN ?_ _ | refine blk_drew ?_ | refine blk_alloc ?_ _)); exact BK379.out⟩, ⟨by (with_reducible repeat (first | refine blk_drewN ?_ _ | refine blk_drew ?_ | refine blk_alloc ?_ _)); refine blk_put (cs := #[.int .i64 x6_1, .int .i64 0, .int .i64 0, .int .i64 0, .string (⟨#[]⟩ : ByteArray), .slice none 0 0]) ?_ 4 _ rfl; (with_reducible repeat (first | refine blk_drewN ?_ _ | refine blk_drew ?_ | refine blk_alloc ?_ _)); exact BK383.out⟩, ⟨qB⟩⟩
           ·rw [zD c35] at H
            obtain ⟨c35b0, c35b1⟩ := qn c35
            by_cases c36 : x6_1 = 6
            ·rw [zC c36] at H
             obtain ⟨c36b0, c36b1⟩ := qe c36; clear c36
             have H' := zA H
             clear H
             go_wp2
             go_meet
             case rel => exact ⟨_, ((x6_1 == 6)), qT, H', ⟨by have := HK1.out; have := HJ17.out; first | omega | exact Nat.le_refl _⟩, ⟨by (with_reducible repeat (first | apply Kd.R_alloc | apply Kd.R_drewN | apply Kd.R_drew)); exact Kd.R_mono (Kd.R_far (p := ⟨gb383, 4, none⟩) (Kd.R_types HO391.out BK383.out (by decide)) (fun _ hk => hk.2) (.string t388)) (fun _ hk => trivial)⟩, ⟨by (with_reducible repeat (first | refine blk_drewN ?_ _ | refine blk_drew ?_ | refine blk_alloc ?_ _)); refine blk_far ?_ NB379_383.out _; (with_reducible repeat (first | refine blk_drewN ?_ _ | refine blk_drew ?_ | refine blk_alloc ?_ _)); exact BK379.out⟩, ⟨by (with_reducible repeat (first | refine blk_drewN ?_ _ | refine blk_drew ?_ | refine blk_alloc ?_ _)); refine blk_put (cs := #[.int .i64 x6_1, .int .i64 0, .int .i64 0, .int .i64 0, .string (⟨#[]⟩ : ByteArray), .slice none 0 0]) ?_ 4 _ rfl; (with_reducible repeat (first | refine blk_drewN ?_ _ | refine blk_drew ?_ | refine blk_alloc ?_ _)); exact BK383.out⟩, ⟨qB⟩⟩
            ·rw [zD c36] at H
             obtain ⟨c36b0, c36b1⟩ := qn c36
             have H' := zA H
             clear H
             go_wp2
             go_meet
             case rel => exact ⟨_, ((x6_1 == 7)), qT, H', ⟨by have := HK1.out; have := HJ17.out; first | omega | exact Nat.le_refl _⟩, ⟨by (with_reducible repeat (first | apply Kd.R_alloc | apply Kd.R_drewN | apply Kd.R_drew)); exact Kd.R_mono (Kd.R_far (p := ⟨gb383, 4, none⟩) (Kd.R_types HO391.out BK383.out (by decide)) (fun _ hk => hk.2) (.string t388)) (fun _ hk => trivial)⟩, ⟨by (with_reducible repeat (first | refine blk_drewN ?_ _ | refine blk_drew ?_ | refine blk_alloc ?_ _)); refine blk_far ?_ NB379_383.out _; (with_reducible repeat (first | refine blk_drewN ?_ _ | refine blk_drew ?_ | refine blk_alloc ?_ _)); exact BK379.out⟩, ⟨by (with_reducible repeat (first | refine blk_drewN ?_ _ | refine blk_drew ?_ | refine blk_alloc ?_ _)); refine blk_put (cs := #[.int .i64 x6_1, .int .i64 0, .int .i64 0, .int .i64 0, .string (⟨#[]⟩ : ByteArray), .slice none 0 0]) ?_ 4 _ rfl; (with_reducible repeat (first | refine blk_drewN ?_ _ | refine blk_drew ?_ | refine blk_alloc ?_ _)); exact BK383.out⟩, ⟨qB⟩⟩
        case rest =>
         clear HC29
         try clear c1; try clear c2; try clear p2; try clear c3; try clear p3; try clear q3; try clear hx3; try clear qi3; try clear c4b0; try clear c5; try clear c6; try clear c6b0 c6b1; try clear p6; try clear c7; try clear c7b0 c7b1; try clear c8; try clear c8b0 c8b1; try clear c15b0; try clear c20; try clear c24; try clear c24b0 c24b1; try clear c25; try clear c28b0 c28b1; try clear c31; try clear c33; try clear c33b0 c33b1; try clear c34; try clear c34b0 c34b1; try clear c35; try clear c35b0 c35b1; try clear c36; try clear c36b0 c36b1; try clear z16_0; try clear z21_0; try clear z32_0; try clear hx381_0; try clear hx382_0; try clear p381; try clear p382; try clear q381; try clear q382
         obtain ⟨kq, x74_28, rfl, HA, HJ28, HO_11, BK379, BK383, HB⟩ := hcut
         cases kq with
         | zero => exact absurd HA.out (by simp [cubbyref08_ins.j2])
         | succ kj28 =>
          have H := HA.out
          clear HA
          simp only [cubbyref08_ins.j2] at H
          by_cases c37 : x74_28 = true
          ·subst c37
           have H1 : (if 0 < (t387.length : Int) then (if 1 < (t387.length : Int) then (if 2 < (t387.length : Int) then (some (x6_1, rd t387 0, rd t387 1, rd t387 2, t388, ([] : List Int), 0)) else (none)) else (none)) else (none)) = some (r1, r2, r3, r4, r5, r6, r7) := by rw [zC rfl] at H; exact H
           clear H
           have H := H1
           clear H1
           by_cases c38 : 0 < (t387.length : Int)
           ·rw [zC c38] at H
            have c38b0 := zF c38
            have c38b1 : decide (0 < t387.length) = true := zF (by omega)
            clear c38
            by_cases c39 : 1 < (t387.length : Int)
            ·rw [zC c39] at H
             have c39b0 := zF c39
             have c39b1 : decide (1 < t387.length) = true := zF (by omega)
             clear c39
             by_cases c40 : 2 < (t387.length : Int)
             ·rw [zC c40] at H
              have c40b0 := zF c40
              have c40b1 : decide (2 < t387.length) = true := zF (by omega)
              clear c40
              simp only [Option.some.injEq, Prod.mk.injEq] at H
              obtain ⟨rfl, rfl, rfl, rfl, rfl, rfl, rfl⟩ := H
              obtain ⟨Ao41, co41, eo41⟩ := Kd.R_slice HO_11.out
              subst eo41
              have p392 : 0 ≤ (0 : Int) := (by omega)
              have q392 : 0 < (t387.length : Int) := zB qA
              obtain ⟨ad392, e392, hx392_0⟩ := Kd.at_int (Kd.R_reads' HO_11.out).2.2 0 p392 q392
              cases e392
              have qi392 : (0 < t387.length) = True := eq_true (by omega)
              (try rw [show ((0 : Int)).toNat = 0 from rfl] at hx392_0)
              (try rw [Addr.add_zero'] at hx392_0)
              replace p392 := eq_true p392
              replace q392 := eq_true q392
              have hnb42 := NB383_379.out
              have hnc42 := NB379_383.out
              have z43_0 := bk6 BK383.out
              have p393 : 0 ≤ (1 : Int) := (by omega)
              have q393 : 1 < (t387.length : Int) := zB qA
              obtain ⟨ad393, e393, hx393_0⟩ := Kd.at_int (Kd.R_reads' HO_11.out).2.2 1 p393 q393
              obtain rfl : ad392 = ad393 := (by injection e393)
              (try simp only [show (1 : Int).toNat = 1 from rfl, Nat.reduceMul, Nat.reduceEqDiff, Go.Addr.add, ↓reduceIte] at hx393_0)
              have qi393 : (1 < t387.length) = True := eq_true (by omega)
              (try rw [show ((1 : Int)).toNat = 1 from rfl] at hx393_0)
              have hn393_0 : ad392.block ≠ gb383 := Kd.own_blk (Kd.R_ne HO_11.out BK383.out (by decide))
              replace hx393_0 := (cell_far (p := ⟨gb383, 1, none⟩) (by first | (rw [add_block]; exact hn393_0) | (show (Addr.add _ _).block ≠ _; rw [add_block]; exact hn393_0) | exact hn393_0) (.int .i64 (rd t387 0))).trans hx393_0
              clear hn393_0
              replace p393 := eq_true p393
              replace q393 := eq_true q393
              have p394 : 0 ≤ (2 : Int) := (by omega)
              have q394 : 2 < (t387.length : Int) := zB qA
              obtain ⟨ad394, e394, hx394_0⟩ := Kd.at_int (Kd.R_reads' HO_11.out).2.2 2 p394 q394
              obtain rfl : ad392 = ad394 := (by injection e394)
              (try simp only [show (2 : Int).toNat = 2 from rfl, Nat.reduceMul, Nat.reduceEqDiff, Go.Addr.add, ↓reduceIte] at hx394_0)
              have qi394 : (2 < t387.length) = True := eq_true (by omega)
              (try rw [show ((2 : Int)).toNat = 2 from rfl] at hx394_0)
              have hn394_0 : ad392.block ≠ gb383 := Kd.own_blk (Kd.R_ne HO_11.out BK383.out (by decide))
              have hn394_1 : ad392.block ≠ gb383 := Kd.own_blk (Kd.R_ne HO_11.out BK383.out (by decide))
              replace hx394_0 := (cell_far (p := ⟨gb383, 1, none⟩) (by first | (rw [add_block]; exact hn394_0) | (show (Addr.add _ _).block ≠ _; rw [add_block]; exact hn394_0) | exact hn394_0) (.int .i64 (rd t387 0))).trans hx394_0
              replace hx394_0 := (cell_far (p := ⟨gb383, 2, none⟩) (by first | (rw [add_block]; exact hn394_1) | (show (Addr.add _ _).block ≠ _; rw [add_block]; exact hn394_1) | exact hn394_1) (.int .i64 (rd t387 1))).trans hx394_0
              clear hn394_0
              clear hn394_1
              replace p394 := eq_true p394
              replace q394 := eq_true q394
              have z44_0 := bk6 BK379.out
              go_wp2
              refine bodyPost_ret (results_ct rfl _ _ gb379 44 #[.int .i64 x6_1, .int .i64 (rd t387 0), .int .i64 (rd t387 1), .int .i64 (rd t387 2), .string t388, .slice none 0 0] (0, 0) _ rfl (by (with_reducible repeat (first | refine blk_drewN ?_ _ | refine blk_drew ?_ | refine blk_alloc ?_ _)); refine blk_put (cs := #[.int .i64 x6_1, .int .i64 (rd t387 0), .int .i64 (rd t387 1), .int .i64 (rd t387 2), .string t388, .slice none 0 0]) ?_ 5 _ rfl; (with_reducible repeat (first | refine blk_drewN ?_ _ | refine blk_drew ?_ | refine blk_alloc ?_ _)); refine blk_put (cs := #[.int .i64 x6_1, .int .i64 (rd t387 0), .int .i64 (rd t387 1), .int .i64 (rd t387 2), .string (⟨#[]⟩ : ByteArray), .slice none 0 0]) ?_ 4 _ rfl; (with_reducible repeat (first | refine blk_drewN ?_ _ | refine blk_drew ?_ | refine blk_alloc ?_ _)); refine blk_put (cs := #[.int .i64 x6_1, .int .i64 (rd t387 0), .int .i64 (rd t387 1), .int .i64 0, .string (⟨#[]⟩ : ByteArray), .slice none 0 0]) ?_ 3 _ rfl; (with_reducible repeat (first | refine blk_drewN ?_ _ | refine blk_drew ?_ | refine blk_alloc ?_ _)); refine blk_put (cs := #[.int .i64 x6_1, .int .i64 (rd t387 0), .int .i64 0, .int .i64 0, .string (⟨#[]⟩ : ByteArray), .slice none 0 0]) ?_ 2 _ rfl; (with_reducible repeat (first | refine blk_drewN ?_ _ | refine blk_drew ?_ | refine blk_alloc ?_ _)); refine blk_put (cs := #[.int .i64 x6_1, .int .i64 0, .int .i64 0, .int .i64 0, .string (⟨#[]⟩ : ByteArray), .slice none 0 0]) ?_ 1 _ rfl; (with_reducible repeat (first | refine blk_drewN ?_ _ | refine blk_drew ?_ | refine blk_alloc ?_ _)); refine blk_put (cs := #[.int .i64 0, .int .i64 0, .int .i64 0, .int .i64 0, .string (⟨#[]⟩ : ByteArray), .slice none 0 0]) ?_ 0 _ rfl; (with_reducible repeat (first | refine blk_drewN ?_ _ | refine blk_drew ?_ | refine blk_alloc ?_ _)); refine blk_far ?_ NB379_383.out _; (with_reducible repeat (first | refine blk_drewN ?_ _ | refine blk_drew ?_ | refine blk_alloc ?_ _)); refine blk_far ?_ NB379_383.out _; (with_reducible repeat (first | refine blk_drewN ?_ _ | refine blk_drew ?_ | refine blk_alloc ?_ _)); refine blk_far ?_ NB379_383.out _; (with_reducible repeat (first | refine blk_drewN ?_ _ | refine blk_drew ?_ | refine blk_alloc ?_ _)); exact BK379.out) Tryz.underlying44 rfl (by kernel_rfl)) rfl ?_
              exact ⟨_, qE, by first | exact Kd.R_nil _ _ _ _ _ | exact Kd.N_nil _ _ _ _ _ | exact Kd.V_nil _ _ _ _ _ | exact Kd.Q_nil _ _ _ _ _ | exact Kd.S_nil _ _ _ _ _, qB⟩
             ·rw [zD c40] at H
              exact absurd H (by simp)
            ·rw [zD c39] at H
             exact absurd H (by simp)
           ·rw [zD c38] at H
            exact absurd H (by simp)
          ·replace c37 := Bool.eq_false_iff.mpr c37
           subst c37
           have H1 : (if x6_1 = 9 then (if 0 < (t387.length : Int) then (if 1 < (t387.length : Int) then (some (x6_1, 0, rd t387 0, rd t387 1, t388, ([] : List Int), 0)) else (none)) else (none)) else (if x6_1 = 10 then (cubbyref08_ins.j3 kj28 a1 t387 x6_1 (x6_1 == 10) x6_1 0 0 0 t388) else (if x6_1 = 12 then (cubbyref08_ins.j3 kj28 a1 t387 x6_1 (x6_1 == 12) x6_1 0 0 0 t388) else (cubbyref08_ins.j3 kj28 a1 t387 x6_1 (x6_1 == 14) x6_1 0 0 0 t388)))) = some (r1, r2, r3, r4, r5, r6, r7) := by rw [zD (show ¬ (false = true) by decide)] at H; exact H
           clear H
           have H := H1
           clear H1
           by_cases c45 : x6_1 = 9
           ·rw [zC c45] at H
            obtain ⟨c45b0, c45b1⟩ := qe c45; clear c45
            by_cases c46 : 0 < (t387.length : Int)
            ·rw [zC c46] at H
             have c46b0 := zF c46
             have c46b1 : decide (0 < t387.length) = true := zF (by omega)
             clear c46
             by_cases c47 : 1 < (t387.length : Int)
             ·rw [zC c47] at H
              have c47b0 := zF c47
              have c47b1 : decide (1 < t387.length) = true := zF (by omega)
              clear c47
              simp only [Option.some.injEq, Prod.mk.injEq] at H
              obtain ⟨rfl, rfl, rfl, rfl, rfl, rfl, rfl⟩ := H
              obtain ⟨Ao48, co48, eo48⟩ := Kd.R_slice HO_11.out
              subst eo48
              have p395 : 0 ≤ (0 : Int) := (by omega)
              have q395 : 0 < (t387.length : Int) := zB qA
              obtain ⟨ad395, e395, hx395_0⟩ := Kd.at_int (Kd.R_reads' HO_11.out).2.2 0 p395 q395
              cases e395
              have qi395 : (0 < t387.length) = True := eq_true (by omega)
              (try rw [show ((0 : Int)).toNat = 0 from rfl] at hx395_0)
              (try rw [Addr.add_zero'] at hx395_0)
              replace p395 := eq_true p395
              replace q395 := eq_true q395
              have hnb49 := NB383_379.out
              have hnc49 := NB379_383.out
              have z50_0 := bk6 BK383.out
              have p396 : 0 ≤ (1 : Int) := (by omega)
              have q396 : 1 < (t387.length : Int) := zB qA
              obtain ⟨ad396, e396, hx396_0⟩ := Kd.at_int (Kd.R_reads' HO_11.out).2.2 1 p396 q396
              obtain rfl : ad395 = ad396 := (by injection e396)
              (try simp only [show (1 : Int).toNat = 1 from rfl, Nat.reduceMul, Nat.reduceEqDiff, Go.Addr.add, ↓reduceIte] at hx396_0)
              have qi396 : (1 < t387.length) = True := eq_true (by omega)
              (try rw [show ((1 : Int)).toNat = 1 from rfl] at hx396_0)
              have hn396_0 : ad395.block ≠ gb383 := Kd.own_blk (Kd.R_ne HO_11.out BK383.out (by decide))
              replace hx396_0 := (cell_far (p := ⟨gb383, 2, none⟩) (by first | (rw [add_block]; exact hn396_0) | (show (Addr.add _ _).block ≠ _; rw [add_block]; exact hn396_0) | exact hn396_0) (.int .i64 (rd t387 0))).trans hx396_0
              clear hn396_0
              replace p396 := eq_true p396
              replace q396 := eq_true q396
              have z51_0 := bk6 BK379.out
              go_wp2
              refine bodyPost_ret (results_ct rfl _ _ gb379 44 #[.int .i64 x6_1, .int .i64 0, .int .i64 (rd t387 0), .int .i64 (rd t387 1), .string t388, .slice none 0 0] (0, 0) _ rfl (by (with_reducible repeat (first | refine blk_drewN ?_ _ | refine blk_drew ?_ | refine blk_alloc ?_ _)); refine blk_put (cs := #[.int .i64 x6_1, .int .i64 0, .int .i64 (rd t387 0), .int .i64 (rd t387 1), .string t388, .slice none 0 0]) ?_ 5 _ rfl; (with_reducible repeat (first | refine blk_drewN ?_ _ | refine blk_drew ?_ | refine blk_alloc ?_ _)); refine blk_put (cs := #[.int .i64 x6_1, .int .i64 0, .int .i64 (rd t387 0), .int .i64 (rd t387 1), .string (⟨#[]⟩ : ByteArray), .slice none 0 0]) ?_ 4 _ rfl; (with_reducible repeat (first | refine blk_drewN ?_ _ | refine blk_drew ?_ | refine blk_alloc ?_ _)); refine blk_put (cs := #[.int .i64 x6_1, .int .i64 0, .int .i64 (rd t387 0), .int .i64 0, .string (⟨#[]⟩ : ByteArray), .slice none 0 0]) ?_ 3 _ rfl; (with_reducible repeat (first | refine blk_drewN ?_ _ | refine blk_drew ?_ | refine blk_alloc ?_ _)); refine blk_put (cs := #[.int .i64 x6_1, .int .i64 0, .int .i64 0, .int .i64 0, .string (⟨#[]⟩ : ByteArray), .slice none 0 0]) ?_ 2 _ rfl; (with_reducible repeat (first | refine blk_drewN ?_ _ | refine blk_drew ?_ | refine blk_alloc ?_ _)); refine blk_put (cs := #[.int .i64 x6_1, .int .i64 0, .int .i64 0, .int .i64 0, .string (⟨#[]⟩ : ByteArray), .slice none 0 0]) ?_ 1 _ rfl; (with_reducible repeat (first | refine blk_drewN ?_ _ | refine blk_drew ?_ | refine blk_alloc ?_ _)); refine blk_put (cs := #[.int .i64 0, .int .i64 0, .int .i64 0, .int .i64 0, .string (⟨#[]⟩ : ByteArray), .slice none 0 0]) ?_ 0 _ rfl; (with_reducible repeat (first | refine blk_drewN ?_ _ | refine blk_drew ?_ | refine blk_alloc ?_ _)); refine blk_far ?_ NB379_383.out _; (with_reducible repeat (first | refine blk_drewN ?_ _ | refine blk_drew ?_ | refine blk_alloc ?_ _)); refine blk_far ?_ NB379_383.out _; (with_reducible repeat (first | refine blk_drewN ?_ _ | refine blk_drew ?_ | refine blk_alloc ?_ _)); exact BK379.out) Tryz.underlying44 rfl (by kernel_rfl)) rfl ?_
              exact ⟨_, qE, by first | exact Kd.R_nil _ _ _ _ _ | exact Kd.N_nil _ _ _ _ _ | exact Kd.V_nil _ _ _ _ _ | exact Kd.Q_nil _ _ _ _ _ | exact Kd.S_nil _ _ _ _ _, qB⟩
             ·rw [zD c47] at H
              exact absurd H (by simp)
            ·rw [zD c46] at H
             exact absurd H (by simp)
           ·rw [zD c45] at H
            obtain ⟨c45b0, c45b1⟩ := qn c45
            have HC52 := zA H
            clear H
            go_upto_if 102 with (fail)
            go_cut [102] (fun v102 wc => ∃ (kq : Nat) (x102_51 : Bool), v102 = .bool x102_51 ∧ Aside0 (cubbyref08_ins.j3 kq a1 t387 x6_1 x102_51 x6_1 0 0 0 t388 = some (r1, r2, r3, r4, r5, r6, r7)) ∧ Aside0 (kq ≤ kj28) ∧ Aside0 (Kd.R (Kd.int .i64) 3 wc w.heap.size (fun _ => True) v390 t387) ∧ Aside0 (wc.heap[gb379]? = some (.cells #[.int .i64 0, .int .i64 0, .int .i64 0, .int .i64 0, .string (⟨#[]⟩ : ByteArray), (.slice none 0 0)] 44 (0, 0))) ∧ Aside0 (wc.heap[gb383]? = some (.cells #[.int .i64 x6_1, .int .i64 0, .int .i64 0, .int .i64 0, .string t388, (.slice none 0 0)] 44 (0, 0))) ∧ Aside0 (Below w.heap.size w wc))
            case first =>
             have H := HC52.out
             clear HC52
             by_cases c53 : x6_1 = 10
             ·rw [zC c53] at H
              obtain ⟨c53b0, c53b1⟩ := qe c53; clear c53
              (first | rw [c53b0] | (simp only [i64_w, i32_w]; rw [c53b0]) | skip)
              have H' := zA H
              clear H
              go_wp2
              go_meet
              case rel => exact ⟨_, ((x6_1 == 10)), qT, H', ⟨by have := HK1.out; have := HJ17.out; have := HJ28.out; first | omega | exact Nat.le_refl _⟩, ⟨qR HO_11.out⟩, ⟨qK BK379.out⟩, ⟨qK BK383.out⟩, ⟨qB⟩⟩
             ·rw [zD c53] at H
              obtain ⟨c53b0, c53b1⟩ := qn c53
              (first | rw [c53b0] | (simp only [i64_w, i32_w]; rw [c53b0]) | skip)
              by_cases c54 : x6_1 = 12
              ·rw [zC c54] at H
               obtain ⟨c54b0, c54b1⟩ := qe c54; clear c54
               have H' := zA H
               clear H
               go_wp2
               go_meet
               case rel => exact ⟨_, ((x6_1 == 12)), qT, H', ⟨by have := HK1.out; have := HJ17.out; have := HJ28.out; first | omega | exact Nat.le_refl _⟩, ⟨qR HO_11.out⟩, ⟨qK BK379.out⟩, ⟨qK BK383.out⟩, ⟨qB⟩⟩
              ·rw [zD c54] at H
               obtain ⟨c54b0, c54b1⟩ := qn c54
               have H' := zA H
               clear H
               go_wp2
               go_meet
               case rel => exact ⟨_, ((x6_1 == 14)), qT, H', ⟨by have := HK1.out; have := HJ17.out; have := HJ28.out; first | omega | exact Nat.le_refl _⟩, ⟨qR HO_11.out⟩, ⟨qK BK379.out⟩, ⟨qK BK383.out⟩, ⟨qB⟩⟩
            case rest =>
             clear HC52
             try clear c1; try clear c2; try clear p2; try clear c3; try clear p3; try clear q3; try clear hx3; try clear qi3; try clear c4b0; try clear c5; try clear c6; try clear c6b0 c6b1; try clear p6; try clear c7; try clear c7b0 c7b1; try clear c8; try clear c8b0 c8b1; try clear c15b0; try clear c20; try clear c24; try clear c24b0 c24b1; try clear c25; try clear c28b0 c28b1; try clear c31; try clear c33; try clear c33b0 c33b1; try clear c34; try clear c34b0 c34b1; try clear c35; try clear c35b0 c35b1; try clear c36; try clear c36b0 c36b1; try clear c37; try clear c38; try clear c38b0 c38b1; try clear p38; try clear q38; try clear hx38; try clear c39; try clear c39b0 c39b1; try clear p39; try clear q39; try clear hx39; try clear qi39; try clear c40; try clear c40b0 c40b1; try clear c42; try clear c45; try clear c45b0 c45b1; try clear c46; try clear c46b0 c46b1; try clear c47; try clear c47b0 c47b1; try clear c49; try clear c53; try clear c53b0 c53b1; try clear c54; try clear c54b0 c54b1; try clear z16_0; try clear z21_0; try clear z32_0; try clear z43_0; try clear z44_0; try clear z50_0; try clear z51_0; try clear hx381_0; try clear hx382_0; try clear hx392_0; try clear hx393_0; try clear hx394_0; try clear hx395_0; try clear hx396_0; try clear p381; try clear p382; try clear p392; try clear p393; try clear p394; try clear p395; try clear p396; try clear q381; try clear q382; try clear q392; try clear q393; try clear q394; try clear q395; try clear q396
             obtain ⟨kq, x102_51, rfl, HA, HJ51, HO_11, BK379, BK383, HB⟩ := hcut
             cases kq with
             | zero => exact absurd HA.out (by simp [cubbyref08_ins.j3])
             | succ kj51 =>
              have H := HA.out
              clear HA
              simp only [cubbyref08_ins.j3] at H
              by_cases c55 : x102_51 = true
              ·subst c55
               have H1 : (if 0 < (t387.length : Int) then (some (x6_1, 0, rd t387 0, 0, t388, ([] : List Int), 0)) else (none)) = some (r1, r2, r3, r4, r5, r6, r7) := by rw [zC rfl] at H; exact H
               clear H
               have H := H1
               clear H1
               by_cases c56 : 0 < (t387.length : Int)
               ·rw [zC c56] at H
                have c56b0 := zF c56
                have c56b1 : decide (0 < t387.length) = true := zF (by omega)
                clear c56
                simp only [Option.some.injEq, Prod.mk.injEq] at H
                obtain ⟨rfl, rfl, rfl, rfl, rfl, rfl, rfl⟩ := H
                obtain ⟨Ao57, co57, eo57⟩ := Kd.R_slice HO_11.out
                subst eo57
                have p397 : 0 ≤ (0 : Int) := (by omega)
                have q397 : 0 < (t387.length : Int) := zB qA
                obtain ⟨ad397, e397, hx397_0⟩ := Kd.at_int (Kd.R_reads' HO_11.out).2.2 0 p397 q397
                cases e397
                have qi397 : (0 < t387.length) = True := eq_true (by omega)
                (try rw [show ((0 : Int)).toNat = 0 from rfl] at hx397_0)
                (try rw [Addr.add_zero'] at hx397_0)
                replace p397 := eq_true p397
                replace q397 := eq_true q397
                have hnb58 := NB383_379.out
                have hnc58 := NB379_383.out
                have z59_0 := bk6 BK383.out
                have z60_0 := bk6 BK379.out
                go_wp2
                refine bodyPost_ret (results_ct rfl _ _ gb379 44 #[.int .i64 x6_1, .int .i64 0, .int .i64 (rd t387 0), .int .i64 0, .string t388, .slice none 0 0] (0, 0) _ rfl (by (with_reducible repeat (first | refine blk_drewN ?_ _ | refine blk_drew ?_ | refine blk_alloc ?_ _)); refine blk_put (cs := #[.int .i64 x6_1, .int .i64 0, .int .i64 (rd t387 0), .int .i64 0, .string t388, .slice none 0 0]) ?_ 5 _ rfl; (with_reducible repeat (first | refine blk_drewN ?_ _ | refine blk_drew ?_ | refine blk_alloc ?_ _)); refine blk_put (cs := #[.int .i64 x6_1, .int .i64 0, .int .i64 (rd t387 0), .int .i64 0, .string (⟨#[]⟩ : ByteArray), .slice none 0 0]) ?_ 4 _ rfl; (with_reducible repeat (first | refine blk_drewN ?_ _ | refine blk_drew ?_ | refine blk_alloc ?_ _)); refine blk_put (cs := #[.int .i64 x6_1, .int .i64 0, .int .i64 (rd t387 0), .int .i64 0, .string (⟨#[]⟩ : ByteArray), .slice none 0 0]) ?_ 3 _ rfl; (with_reducible repeat (first | refine blk_drewN ?_ _ | refine blk_drew ?_ | refine blk_alloc ?_ _)); refine blk_put (cs := #[.int .i64 x6_1, .int .i64 0, .int .i64 0, .int .i64 0, .string (⟨#[]⟩ : ByteArray), .slice none 0 0]) ?_ 2 _ rfl; (with_reducible repeat (first | refine blk_drewN ?_ _ | refine blk_drew ?_ | refine blk_alloc ?_ _)); refine blk_put (cs := #[.int .i64 x6_1, .int .i64 0, .int .i64 0, .int .i64 0, .string (⟨#[]⟩ : ByteArray), .slice none 0 0]) ?_ 1 _ rfl; (with_reducible repeat (first | refine blk_drewN ?_ _ | refine blk_drew ?_ | refine blk_alloc ?_ _)); refine blk_put (cs := #[.int .i64 0, .int .i64 0, .int .i64 0, .int .i64 0, .string (⟨#[]⟩ : ByteArray), .slice none 0 0]) ?_ 0 _ rfl; (with_reducible repeat (first | refine blk_drewN ?_ _ | refine blk_drew ?_ | refine blk_alloc ?_ _)); refine blk_far ?_ NB379_383.out _; (with_reducible repeat (first | refine blk_drewN ?_ _ | refine blk_drew ?_ | refine blk_alloc ?_ _)); exact BK379.out) Tryz.underlying44 rfl (by kernel_rfl)) rfl ?_
                exact ⟨_, qE, by first | exact Kd.R_nil _ _ _ _ _ | exact Kd.N_nil _ _ _ _ _ | exact Kd.V_nil _ _ _ _ _ | exact Kd.Q_nil _ _ _ _ _ | exact Kd.S_nil _ _ _ _ _, qB⟩
               ·rw [zD c56] at H
                exact absurd H (by simp)
              ·replace c55 := Bool.eq_false_iff.mpr c55
               subst c55
               have H1 : (if x6_1 = 13 then (if 0 < (t387.length : Int) then (if 1 < (t387.length : Int) then (if 2 < (t387.length : Int) then (some (x6_1, rd t387 2, rd t387 0, rd t387 1, t388, ([] : List Int), 0)) else (none)) else (none)) else (none)) else (if x6_1 = 11 then (if 0 < (t387.length : Int) then (if a1 = true then (if 1 < (t387.length : Int) then (some (x6_1, rd t387 0, rd t387 1, 0, t388, ([] : List Int), 0)) else (none)) else (if (t387.length : Int) > 1 then (if 1 ≤ (t387.length : Int) then ((some (t387.drop 1 : List Int)).bind fun y403 => (if ([] : List Int).length + y403.length < 17592186044416 then (some (x6_1, rd t387 0, 0, 0, t388, (([] : List Int) ++ y403), 0)) else (none))) else (none)) else (some (x6_1, rd t387 0, 0, 0, t388, ([] : List Int), 0)))) else (none)) else (if 0 < (t387.length : Int) then (if 1 < (t387.length : Int) then (some (x6_1, rd t387 0, rd t387 1, 0, t388, ([] : List Int), 0)) else (none)) else (none)))) = some (r1, r2, r3, r4, r5, r6, r7) := by rw [zD (show ¬ (false = true) by decide)] at H; exact H
               clear H
               have H := H1
               clear H1
               by_cases c61 : x6_1 = 13
               ·rw [zC c61] at H
                obtain ⟨c61b0, c61b1⟩ := qe c61; clear c61
                by_cases c62 : 0 < (t387.length : Int)
                ·rw [zC c62] at H
                 have c62b0 := zF c62
                 have c62b1 : decide (0 < t387.length) = true := zF (by omega)
                 clear c62
                 by_cases c63 : 1 < (t387.length : Int)
                 ·rw [zC c63] at H
                  have c63b0 := zF c63
                  have c63b1 : decide (1 < t387.length) = true := zF (by omega)
                  clear c63
                  by_cases c64 : 2 < (t387.length : Int)
                  ·rw [zC c64] at H
                   have c64b0 := zF c64
                   have c64b1 : decide (2 < t387.length) = true := zF (by omega)
                   clear c64
                   simp only [Option.some.injEq, Prod.mk.injEq] at H
                   obtain ⟨rfl, rfl, rfl, rfl, rfl, rfl, rfl⟩ := H
                   obtain ⟨Ao65, co65, eo65⟩ := Kd.R_slice HO_11.out
                   subst eo65
                   have p398 : 0 ≤ (0 : Int) := (by omega)
                   have q398 : 0 < (t387.length : Int) := zB qA
                   obtain ⟨ad398, e398, hx398_0⟩ := Kd.at_int (Kd.R_reads' HO_11.out).2.2 0 p398 q398
                   cases e398
                   have qi398 : (0 < t387.length) = True := eq_true (by omega)
                   (try rw [show ((0 : Int)).toNat = 0 from rfl] at hx398_0)
                   (try rw [Addr.add_zero'] at hx398_0)
                   replace p398 := eq_true p398
                   replace q398 := eq_true q398
                   have hnb66 := NB383_379.out
                   have hnc66 := NB379_383.out
                   have z67_0 := bk6 BK383.out
                   have p399 : 0 ≤ (1 : Int) := (by omega)
                   have q399 : 1 < (t387.length : Int) := zB qA
                   obtain ⟨ad399, e399, hx399_0⟩ := Kd.at_int (Kd.R_reads' HO_11.out).2.2 1 p399 q399
                   obtain rfl : ad398 = ad399 := (by injection e399)
                   (try simp only [show (1 : Int).toNat = 1 from rfl, Nat.reduceMul, Nat.reduceEqDiff, Go.Addr.add, ↓reduceIte] at hx399_0)
                   have qi399 : (1 < t387.length) = True := eq_true (by omega)
                   (try rw [show ((1 : Int)).toNat = 1 from rfl] at hx399_0)
                   have hn399_0 : ad398.block ≠ gb383 := Kd.own_blk (Kd.R_ne HO_11.out BK383.out (by decide))
                   replace hx399_0 := (cell_far (p := ⟨gb383, 2, none⟩) (by first | (rw [add_block]; exact hn399_0) | (show (Addr.add _ _).block ≠ _; rw [add_block]; exact hn399_0) | exact hn399_0) (.int .i64 (rd t387 0))).trans hx399_0
                   clear hn399_0
                   replace p399 := eq_true p399
                   replace q399 := eq_true q399
                   have p400 : 0 ≤ (2 : Int) := (by omega)
                   have q400 : 2 < (t387.length : Int) := zB qA
                   obtain ⟨ad400, e400, hx400_0⟩ := Kd.at_int (Kd.R_reads' HO_11.out).2.2 2 p400 q400
                   obtain rfl : ad398 = ad400 := (by injection e400)
                   (try simp only [show (2 : Int).toNat = 2 from rfl, Nat.reduceMul, Nat.reduceEqDiff, Go.Addr.add, ↓reduceIte] at hx400_0)
                   have qi400 : (2 < t387.length) = True := eq_true (by omega)
                   (try rw [show ((2 : Int)).toNat = 2 from rfl] at hx400_0)
                   have hn400_0 : ad398.block ≠ gb383 := Kd.own_blk (Kd.R_ne HO_11.out BK383.out (by decide))
                   have hn400_1 : ad398.block ≠ gb383 := Kd.own_blk (Kd.R_ne HO_11.out BK383.out (by decide))
                   replace hx400_0 := (cell_far (p := ⟨gb383, 2, none⟩) (by first | (rw [add_block]; exact hn400_0) | (show (Addr.add _ _).block ≠ _; rw [add_block]; exact hn400_0) | exact hn400_0) (.int .i64 (rd t387 0))).trans hx400_0
                   replace hx400_0 := (cell_far (p := ⟨gb383, 3, none⟩) (by first | (rw [add_block]; exact hn400_1) | (show (Addr.add _ _).block ≠ _; rw [add_block]; exact hn400_1) | exact hn400_1) (.int .i64 (rd t387 1))).trans hx400_0
                   clear hn400_0
                   clear hn400_1
                   replace p400 := eq_true p400
                   replace q400 := eq_true q400
                   have z68_0 := bk6 BK379.out
                   go_wp2
                   refine bodyPost_ret (results_ct rfl _ _ gb379 44 #[.int .i64 x6_1, .int .i64 (rd t387 2), .int .i64 (rd t387 0), .int .i64 (rd t387 1), .string t388, .slice none 0 0] (0, 0) _ rfl (by (with_reducible repeat (first | refine blk_drewN ?_ _ | refine blk_drew ?_ | refine blk_alloc ?_ _)); refine blk_put (cs := #[.int .i64 x6_1, .int .i64 (rd t387 2), .int .i64 (rd t387 0), .int .i64 (rd t387 1), .string t388, .slice none 0 0]) ?_ 5 _ rfl; (with_reducible repeat (first | refine blk_drewN ?_ _ | refine blk_drew ?_ | refine blk_alloc ?_ _)); refine blk_put (cs := #[.int .i64 x6_1, .int .i64 (rd t387 2), .int .i64 (rd t387 0), .int .i64 (rd t387 1), .string (⟨#[]⟩ : ByteArray), .slice none 0 0]) ?_ 4 _ rfl; (with_reducible repeat (first | refine blk_drewN ?_ _ | refine blk_drew ?_ | refine blk_alloc ?_ _)); refine blk_put (cs := #[.int .i64 x6_1, .int .i64 (rd t387 2), .int .i64 (rd t387 0), .int .i64 0, .string (⟨#[]⟩ : ByteArray), .slice none 0 0]) ?_ 3 _ rfl; (with_reducible repeat (first | refine blk_drewN ?_ _ | refine blk_drew ?_ | refine blk_alloc ?_ _)); refine blk_put (cs := #[.int .i64 x6_1, .int .i64 (rd t387 2), .int .i64 0, .int .i64 0, .string (⟨#[]⟩ : ByteArray), .slice none 0 0]) ?_ 2 _ rfl; (with_reducible repeat (first | refine blk_drewN ?_ _ | refine blk_drew ?_ | refine blk_alloc ?_ _)); refine blk_put (cs := #[.int .i64 x6_1, .int .i64 0, .int .i64 0, .int .i64 0, .string (⟨#[]⟩ : ByteArray), .slice none 0 0]) ?_ 1 _ rfl; (with_reducible repeat (first | refine blk_drewN ?_ _ | refine blk_drew ?_ | refine blk_alloc ?_ _)); refine blk_put (cs := #[.int .i64 0, .int .i64 0, .int .i64 0, .int .i64 0, .string (⟨#[]⟩ : ByteArray), .slice none 0 0]) ?_ 0 _ rfl; (with_reducible repeat (first | refine blk_drewN ?_ _ | refine blk_drew ?_ | refine blk_alloc ?_ _)); refine blk_far ?_ NB379_383.out _; (with_reducible repeat (first | refine blk_drewN ?_ _ | refine blk_drew ?_ | refine blk_alloc ?_ _)); refine blk_far ?_ NB379_383.out _; (with_reducible repeat (first | refine blk_drewN ?_ _ | refine blk_drew ?_ | refine blk_alloc ?_ _)); refine blk_far ?_ NB379_383.out _; (with_reducible repeat (first | refine blk_drewN ?_ _ | refine blk_drew ?_ | refine blk_alloc ?_ _)); exact BK379.out) Tryz.underlying44 rfl (by kernel_rfl)) rfl ?_
                   exact ⟨_, qE, by first | exact Kd.R_nil _ _ _ _ _ | exact Kd.N_nil _ _ _ _ _ | exact Kd.V_nil _ _ _ _ _ | exact Kd.Q_nil _ _ _ _ _ | exact Kd.S_nil _ _ _ _ _, qB⟩
                  ·rw [zD c64] at H
                   exact absurd H (by simp)
                 ·rw [zD c63] at H
                  exact absurd H (by simp)
                ·rw [zD c62] at H
                 exact absurd H (by simp)
               ·rw [zD c61] at H
                obtain ⟨c61b0, c61b1⟩ := qn c61
                by_cases c69 : x6_1 = 11
                ·rw [zC c69] at H
                 obtain ⟨c69b0, c69b1⟩ := qe c69; clear c69
                 by_cases c70 : 0 < (t387.length : Int)
                 ·rw [zC c70] at H
                  have c70b0 := zF c70
                  have c70b1 : decide (0 < t387.length) = true := zF (by omega)
                  clear c70
                  by_cases c71 : a1 = true
                  ·subst c71
                   have H1 : (if 1 < (t387.length : Int) then (some (x6_1, rd t387 0, rd t387 1, 0, t388, ([] : List Int), 0)) else (none)) = some (r1, r2, r3, r4, r5, r6, r7) := by rw [zC rfl] at H; exact H
                   clear H
                   have H := H1
                   clear H1
                   by_cases c72 : 1 < (t387.length : Int)
                   ·rw [zC c72] at H
                    have c72b0 := zF c72
                    have c72b1 : decide (1 < t387.length) = true := zF (by omega)
                    clear c72
                    simp only [Option.some.injEq, Prod.mk.injEq] at H
                    obtain ⟨rfl, rfl, rfl, rfl, rfl, rfl, rfl⟩ := H
                    obtain ⟨Ao73, co73, eo73⟩ := Kd.R_slice HO_11.out
                    subst eo73
                    have p401 : 0 ≤ (0 : Int) := (by omega)
                    have q401 : 0 < (t387.length : Int) := zB qA
                    obtain ⟨ad401, e401, hx401_0⟩ := Kd.at_int (Kd.R_reads' HO_11.out).2.2 0 p401 q401
                    cases e401
                    have qi401 : (0 < t387.length) = True := eq_true (by omega)
                    (try rw [show ((0 : Int)).toNat = 0 from rfl] at hx401_0)
                    (try rw [Addr.add_zero'] at hx401_0)
                    replace p401 := eq_true p401
                    replace q401 := eq_true q401
                    have hnb74 := NB383_379.out
                    have hnc74 := NB379_383.out
                    have z75_0 := bk6 BK383.out
                    have p402 : 0 ≤ (1 : Int) := (by omega)
                    have q402 : 1 < (t387.length : Int) := zB qA
                    obtain ⟨ad402, e402, hx402_0⟩ := Kd.at_int (Kd.R_reads' HO_11.out).2.2 1 p402 q402
                    obtain rfl : ad401 = ad402 := (by injection e402)
                    (try simp only [show (1 : Int).toNat = 1 from rfl, Nat.reduceMul, Nat.reduceEqDiff, Go.Addr.add, ↓reduceIte] at hx402_0)
                    have qi402 : (1 < t387.length) = True := eq_true (by omega)
                    (try rw [show ((1 : Int)).toNat = 1 from rfl] at hx402_0)
                    have hn402_0 : ad401.block ≠ gb383 := Kd.own_blk (Kd.R_ne HO_11.out BK383.out (by decide))
                    replace hx402_0 := (cell_far (p := ⟨gb383, 1, none⟩) (by first | (rw [add_block]; exact hn402_0) | (show (Addr.add _ _).block ≠ _; rw [add_block]; exact hn402_0) | exact hn402_0) (.int .i64 (rd t387 0))).trans hx402_0
                    clear hn402_0
                    replace p402 := eq_true p402
                    replace q402 := eq_true q402
                    have z76_0 := bk6 BK379.out
                    go_wp2
                    refine bodyPost_ret (results_ct rfl _ _ gb379 44 #[.int .i64 x6_1, .int .i64 (rd t387 0), .int .i64 (rd t387 1), .int .i64 0, .string t388, .slice none 0 0] (0, 0) _ rfl (by (with_reducible repeat (first | refine blk_drewN ?_ _ | refine blk_drew ?_ | refine blk_alloc ?_ _)); refine blk_put (cs := #[.int .i64 x6_1, .int .i64 (rd t387 0), .int .i64 (rd t387 1), .int .i64 0, .string t388, .slice none 0 0]) ?_ 5 _ rfl; (with_reducible repeat (first | refine blk_drewN ?_ _ | refine blk_drew ?_ | refine blk_alloc ?_ _)); refine blk_put (cs := #[.int .i64 x6_1, .int .i64 (rd t387 0), .int .i64 (rd t387 1), .int .i64 0, .string (⟨#[]⟩ : ByteArray), .slice none 0 0]) ?_ 4 _ rfl; (with_reducible repeat (first | refine blk_drewN ?_ _ | refine blk_drew ?_ | refine blk_alloc ?_ _)); refine blk_put (cs := #[.int .i64 x6_1, .int .i64 (rd t387 0), .int .i64 (rd t387 1), .int .i64 0, .string (⟨#[]⟩ : ByteArray), .slice none 0 0]) ?_ 3 _ rfl; (with_reducible repeat (first | refine blk_drewN ?_ _ | refine blk_drew ?_ | refine blk_alloc ?_ _)); refine blk_put (cs := #[.int .i64 x6_1, .int .i64 (rd t387 0), .int .i64 0, .int .i64 0, .string (⟨#[]⟩ : ByteArray), .slice none 0 0]) ?_ 2 _ rfl; (with_reducible repeat (first | refine blk_drewN ?_ _ | refine blk_drew ?_ | refine blk_alloc ?_ _)); refine blk_put (cs := #[.int .i64 x6_1, .int .i64 0, .int .i64 0, .int .i64 0, .string (⟨#[]⟩ : ByteArray), .slice none 0 0]) ?_ 1 _ rfl; (with_reducible repeat (first | refine blk_drewN ?_ _ | refine blk_drew ?_ | refine blk_alloc ?_ _)); refine blk_put (cs := #[.int .i64 0, .int .i64 0, .int .i64 0, .int .i64 0, .string (⟨#[]⟩ : ByteArray), .slice none 0 0]) ?_ 0 _ rfl; (with_reducible repeat (first | refine blk_drewN ?_ _ | refine blk_drew ?_ | refine blk_alloc ?_ _)); refine blk_far ?_ NB379_383.out _; (with_reducible repeat (first | refine blk_drewN ?_ _ | refine blk_drew ?_ | refine blk_alloc ?_ _)); refine blk_far ?_ NB379_383.out _; (with_reducible repeat (first | refine blk_drewN ?_ _ | refine blk_drew ?_ | refine blk_alloc ?_ _)); exact BK379.out) Tryz.underlying44 rfl (by kernel_rfl)) rfl ?_
                    exact ⟨_, qE, by first | exact Kd.R_nil _ _ _ _ _ | exact Kd.N_nil _ _ _ _ _ | exact Kd.V_nil _ _ _ _ _ | exact Kd.Q_nil _ _ _ _ _ | exact Kd.S_nil _ _ _ _ _, qB⟩
                   ·rw [zD c72] at H
                    exact absurd H (by simp)
                  ·replace c71 := Bool.eq_false_iff.mpr c71
                   subst c71
                   have H1 : (if (t387.length : Int) > 1 then (if 1 ≤ (t387.length : Int) then ((some (t387.drop 1 : List Int)).bind fun y403 => (if ([] : List Int).length + y403.length < 17592186044416 then (some (x6_1, rd t387 0, 0, 0, t388, (([] : List Int) ++ y403), 0)) else (none))) else (none)) else (some (x6_1, rd t387 0, 0, 0, t388, ([] : List Int), 0))) = some (r1, r2, r3, r4, r5, r6, r7) := by rw [zD (show ¬ (false = true) by decide)] at H; exact H
                   clear H
                   have H := H1
                   clear H1
                   by_cases c77 : (t387.length : Int) > 1
                   ·rw [zC c77] at H
                    have c77b0 : decide (1 < (t387.length : Int)) = true := zF c77
                    have c77b1 : decide (1 < t387.length) = true := zF (by omega)
                    clear c77
                    by_cases c78 : 1 ≤ (t387.length : Int)
                    ·rw [zC c78] at H
                     have c78b0 := eq_true c78
                     have c78b1 := zF c78
                     clear c78
                     obtain ⟨y403, hy403⟩ : ∃ y_ : List Int, y_ = (t387.drop 1) := ⟨_, rfl⟩
                     replace H : (if ([] : List Int).length + y403.length < 17592186044416 then (some (x6_1, rd t387 0, 0, 0, t388, (([] : List Int) ++ y403), 0)) else (none)) = some (r1, r2, r3, r4, r5, r6, r7) := by (try rw [hy403]); first | with_reducible exact H | exact (zJ _ _).symm.trans H | exact H
                     have Ny403 := zA hy403
                     clear hy403
                     by_cases c79 : ([] : List Int).length + y403.length < 17592186044416
                     ·rw [zC c79] at H
                      have LMc79 := zA c79
                      clear c79
                      obtain ⟨y407, hy407⟩ : ∃ y_ : List Int, y_ = (([] : List Int) ++ y403) := ⟨_, rfl⟩
                      replace H : (some (x6_1, rd t387 0, 0, 0, t388, y407, 0)) = some (r1, r2, r3, r4, r5, r6, r7) := by (try rw [hy407]); first | with_reducible exact H | exact (zJ _ _).symm.trans H | exact H
                      have Ny407 := zA hy407
                      clear hy407
                      simp only [Option.some.injEq, Prod.mk.injEq] at H
                      obtain ⟨rfl, rfl, rfl, rfl, rfl, rfl, rfl⟩ := H
                      obtain ⟨Ao80, co80, eo80⟩ := Kd.R_slice HO_11.out
                      subst eo80
                      have p401 : 0 ≤ (0 : Int) := (by omega)
                      have q401 : 0 < (t387.length : Int) := zB qA
                      obtain ⟨ad401, e401, hx401_0⟩ := Kd.at_int (Kd.R_reads' HO_11.out).2.2 0 p401 q401
                      cases e401
                      have qi401 : (0 < t387.length) = True := eq_true (by omega)
                      (try rw [show ((0 : Int)).toNat = 0 from rfl] at hx401_0)
                      (try rw [Addr.add_zero'] at hx401_0)
                      replace p401 := eq_true p401
                      replace q401 := eq_true q401
                      have hnb81 := NB383_379.out
                      have hnc81 := NB379_383.out
                      have z82_0 := bk6 BK383.out
                      try go_wp2
                      have n0_ : Aside0 (Kd.R (Kd.int .i64) 3 (wc.setCell ⟨gb383, 1, none⟩ (.int .i64 (rd t387 0))) w.heap.size (fun _ => True) (.slice (some ad401) t387.length co80) t387) := ⟨by (with_reducible repeat (first | apply Kd.R_alloc | apply Kd.R_drewN | apply Kd.R_drew)); exact Kd.R_mono (Kd.R_far (p := ⟨gb383, 1, none⟩) (Kd.R_types HO_11.out BK383.out (by decide)) (fun _ hk => hk.2) (.int .i64 (rd t387 0))) (fun _ hk => trivial)⟩
                      have n1_ : Aside0 ((wc.setCell ⟨gb383, 1, none⟩ (.int .i64 (rd t387 0))).heap[gb379]? = some (.cells #[.int .i64 0, .int .i64 0, .int .i64 0, .int .i64 0, .string (⟨#[]⟩ : ByteArray), .slice none 0 0] 44 (0, 0))) := ⟨by (with_reducible repeat (first | refine blk_drewN ?_ _ | refine blk_drew ?_ | refine blk_alloc ?_ _)); refine blk_far ?_ NB379_383.out _; (with_reducible repeat (first | refine blk_drewN ?_ _ | refine blk_drew ?_ | refine blk_alloc ?_ _)); exact BK379.out⟩
                      have n2_ : Aside0 ((wc.setCell ⟨gb383, 1, none⟩ (.int .i64 (rd t387 0))).heap[gb383]? = some (.cells #[.int .i64 x6_1, .int .i64 (rd t387 0), .int .i64 0, .int .i64 0, .string t388, .slice none 0 0] 44 (0, 0))) := ⟨by (with_reducible repeat (first | refine blk_drewN ?_ _ | refine blk_drew ?_ | refine blk_alloc ?_ _)); refine blk_put (cs := #[.int .i64 x6_1, .int .i64 0, .int .i64 0, .int .i64 0, .string t388, .slice none 0 0]) ?_ 1 _ rfl; (with_reducible repeat (first | refine blk_drewN ?_ _ | refine blk_drew ?_ | refine blk_alloc ?_ _)); exact BK383.out⟩
                      have n3_ : Aside0 (Below w.heap.size w (wc.setCell ⟨gb383, 1, none⟩ (.int .i64 (rd t387 0)))) := ⟨qB⟩
                      (try clear HO_11)
                      (try clear BK379)
                      (try clear BK383)
                      (try clear HB)
                      generalize (wc.setCell ⟨gb383, 1, none⟩ (.int .i64 (rd t387 0))) = w83 at n0_ n1_ n2_ n3_ ⊢
                      have HO_11 := n0_
                      have BK379 := n1_
                      have BK383 := n2_
                      have HB := n3_
                      clear n0_ n1_ n2_ n3_
                      have n0_ := zA (Kd.R_drew HO_11.out)
                      have n1_ := zA (blk_drew BK379.out)
                      have n2_ := zA (blk_drew BK383.out)
                      have n3_ := zA (below_drew1 HB.out)
                      clear HO_11
                      clear BK379
                      clear BK383
                      clear HB
                      have HO_11 := n0_
                      have BK379 := n1_
                      have BK383 := n2_
                      have HB := n3_
                      clear n0_ n1_ n2_ n3_
                      have q85 : (1 : Int) ≤ ((t387.length : Int) : Int) := zB qA
                      obtain ⟨i085, hi085, _, hsz85, _⟩ := info_parts info3
                      have hroom85 : t387.length ≤ co80 := (Kd.R_reads' HO_11.out).2.1
                      have hC85 : Kd.C (Kd.int .i64) _ (some ad401) t387.length t387 := (Kd.R_reads' HO_11.out).2.2
                      have hcut85 := cut_from (P := Tryz.prog) 42 3 .i64 Tryz.underlying42 hi085 1 hsz85 (some ad401) t387.length co80 1 (by omega) q85
                      have hr85 := Kd.C_drop (m := (1 : Int).toNat) (c := co80) hC85 (by omega) hroom85
                      obtain ⟨A85, hA85⟩ : ∃ A1, A1 = (if co80 = (1 : Int).toNat then (some ad401) else ((some ad401) : Option Addr).map (·.add ((1 : Int).toNat * 1))) := ⟨_, rfl⟩
                      obtain ⟨c85, hc85⟩ : ∃ c1, c1 = co80 - (1 : Int).toNat := ⟨_, rfl⟩
                      have hy85 : y403.length = t387.length - (1 : Int).toNat := (by rw [Ny403.out, List.length_drop] <;> omega)
                      rw [show (t387).drop (1 : Int).toNat = y403 from Ny403.out.symm] at hr85
                      replace hr85 : Kd.C (Kd.int .i64) _ A85 y403.length y403 := (by rw [hA85]; exact hr85)
                      rw [← hy85, ← hA85, ← hc85] at hcut85
                      have HR406 := zA hr85
                      have HC406 := zA (show y403.length ≤ c85 from by rw [hy85, hc85]; exact Nat.sub_le_sub_right hroom85 _)
                      clear hr85 hC85 hroom85 hi085 hsz85 hc85
                      have KY85 := zA hy85
                      have KA85 := zA hA85
                      clear hy85 hA85
                      have KL85 := zA (show 1 ≤ t387.length from by omega)
                      replace q85 := eq_true q85
                      refine start_ (n := 7) (S := fun w' => w'.cell? ⟨gb383, 0, none⟩ = some (.int .i64 x6_1) ∧ w'.cell? ⟨gb383, 1, none⟩ = some (.int .i64 (rd t387 0)) ∧ w'.cell? ⟨gb383, 2, none⟩ = some (.int .i64 0) ∧ w'.cell? ⟨gb383, 3, none⟩ = some (.int .i64 0) ∧ w'.cell? ⟨gb383, 4, none⟩ = some (.string t388) ∧ w'.cell? ⟨gb383, 5, none⟩ = some (.slice none 0 0)) (ds := [6]) (bA 7 0) (by kernel_rfl) rfl rfl ⟨(blk_cell BK383.out 0).trans rfl, (blk_cell BK383.out 1).trans rfl, (blk_cell BK383.out 2).trans rfl, (blk_cell BK383.out 3).trans rfl, (blk_cell BK383.out 4).trans rfl, (blk_cell BK383.out 5).trans rfl⟩ (fun hHeld => ?_)
                      generalize w83.drew = w84 at HO_11 BK379 BK383 HB HR406 hHeld ⊢
                      refine pure_ (i := 0) (N := some 138) (v := ?_) (a' := ?_) (bA 7 1) rfl rfl (by kernel_rfl) (fun _ _ _ h => h) (Or.inl ⟨by rfl, ?_⟩) ?_ ?_
                      rotate_left
                      ·intro w'
                       go_simp
                       with_reducible rfl
                      rotate_left
                      ·simp only [Act.put, List.setIfInBounds_toArray, List.set_cons_zero, List.set_cons_succ, i64_w, i32_w]
                       rfl
                      refine pure_ (i := 2) (N := some 140) (v := ?_) (a' := ?_) (bA 7 5) rfl rfl (by kernel_rfl) (fun _ _ _ h => h) (Or.inl ⟨by rfl, ?_⟩) ?_ ?_
                      rotate_left
                      ·intro w'
                       go_simp
                       with_reducible rfl
                      rotate_left
                      ·simp only [Act.put, List.setIfInBounds_toArray, List.set_cons_zero, List.set_cons_succ, i64_w, i32_w]
                       rfl
                      refine pure_ (i := 3) (N := some 141) (v := ?_) (a' := ?_) (bA 7 13) rfl rfl (by kernel_rfl) (fun _ _ _ h => h) (Or.inl ⟨by rfl, ?_⟩) ?_ ?_
                      rotate_left
                      ·intro w'
                       go_simp
                       with_reducible rfl
                      rotate_left
                      ·simp only [Act.put, List.setIfInBounds_toArray, List.set_cons_zero, List.set_cons_succ, i64_w, i32_w]
                       rfl
                      refine take_ (i := 1) (N := some 139) (v := ?_) (a' := ?_) (bA 7 15) rfl rfl (by kernel_rfl) (fun _ _ _ h => h) (Or.inl ⟨by rfl, ?_⟩) hHeld ?_ ?_
                      rotate_left
                      ·rintro w' ⟨s0, s1, s2, s3, s4, s5⟩
                       go_simp
                       with_reducible rfl
                      rotate_left
                      ·simp only [Act.put, List.setIfInBounds_toArray, List.set_cons_zero, List.set_cons_succ, i64_w, i32_w]
                       rfl
                      refine one_ (i := 4) (N := some 142) (bA 7 31) rfl rfl (by kernel_rfl) (by decide) (fun K hK => ?_)
                      refine Kd.R_append_rows_step (Kd.int .i64) (w0 := w) w.heap.size (by rfl) (.tmp 139) (.tmp 141) 42 3 (.int .i64 0) 8 rfl Tryz.underlying42 info3 rfl (by decide) (by omega) (.slice none 0 0) ([] : List Int) y403 _ _ _ (fun k_ => some k_ ≠ (.slice (some ad401) t387.length co80 : Value).ownBlock) (fun _ => False) rfl rfl ?aO ?aR (fun _ _ h => h) (fun _ h => h.elim) ?aF ?aB ?aS ?aL ?_
                      (case aR => repeat (first | exact (by repeat (first | (with_reducible exact HR406.out) | (with_reducible refine Kd.C_alloc ?_ _) | (with_reducible refine Kd.C_drewN ?_ _) | (with_reducible refine Kd.C_drew ?_) | exact HR406.out)) | (with_reducible refine Kd.C_alloc ?_ _) | (with_reducible refine Kd.C_drewN ?_ _) | (with_reducible refine Kd.C_drew ?_)))
                      (case aB => exact qB)
                      (case aF => exact (fun k_ hk => Kd.fresh' (Kd.R_lt (qR HO_11.out)) k_ hk))
                      (case aO => exact ((Kd.R_nil _ _ _ _ (fun k_ => some k_ ≠ (.slice (some ad401) t387.length co80 : Value).ownBlock))))
                      (case aS => exact (below_size qB))
                      (case aL => have := LMc79.out; omega)
                      intro v408 w86 ho hb hg hat
                      rw [← Ny407.out] at ho
                      have n0_ := zA (Kd.R_after (Kd.R_apart_nil (qR HO_11.out)) hg hat)
                      have n1_ := zA (blk_grown (qK BK379.out) hg (by simp [Value.ownBlock]))
                      have n2_ := zA (blk_grown (qK BK383.out) hg (by simp [Value.ownBlock]))
                      have n3_ := zA (hb)
                      have n4_ := zA ((show Kd.C (Kd.int .i64) w86 A85 y403.length y403 from by rw [Ny403.out, KA85.out]; exact Kd.C_drop (m := 1) (c := co80) ((Kd.R_reads' (Kd.R_after (Kd.R_apart_nil (qR HO_11.out)) hg hat)).2.2) KL85.out ((Kd.R_reads' (Kd.R_after (Kd.R_apart_nil (qR HO_11.out)) hg hat)).2.1)))
                      have n5_ := zA (ho)
                      clear HO_11
                      clear BK379
                      clear BK383
                      clear HB
                      clear HR406
                      have HO_11 := n0_
                      have BK379 := n1_
                      have BK383 := n2_
                      have HB := n3_
                      have HR406 := n4_
                      have HO409 := n5_
                      clear n0_ n1_ n2_ n3_ n4_ n5_
                      clear ho hb hg hat
                      obtain ⟨Ao87, co87, eo87⟩ := Kd.R_slice HO409.out
                      (first | subst eo87 | (injection eo87 with f1_ f2_ f3_; have f4_ := f1_.symm; have f5_ := f3_.symm; clear f1_ f2_ f3_; subst f4_; subst f5_))
                      refine hK.out _ _ ⟨(blk_cell BK383.out 0).trans rfl, (blk_cell BK383.out 1).trans rfl, (blk_cell BK383.out 2).trans rfl, (blk_cell BK383.out 3).trans rfl, (blk_cell BK383.out 4).trans rfl, (blk_cell BK383.out 5).trans rfl⟩ (fun hHeld => ?_)
                      clear hK K
                      refine norm_ (a' := ?_) ?_ ?_
                      rotate_left
                      ·show Act.put _ (some 142) _ = _
                       simp only [Act.put, List.setIfInBounds_toArray, List.set_cons_zero, List.set_cons_succ, i64_w, i32_w]
                       rfl
                      refine pure_ (i := 5) (N := some 143) (v := ?_) (a' := ?_) (bA 7 63) rfl rfl (by kernel_rfl) (fun _ _ _ h => h) (Or.inl ⟨by rfl, ?_⟩) ?_ ?_
                      rotate_left
                      ·intro w'
                       go_simp
                       with_reducible rfl
                      rotate_left
                      ·simp only [Act.put, List.setIfInBounds_toArray, List.set_cons_zero, List.set_cons_succ, i64_w, i32_w]
                       rfl
                      refine last_ (i := 6) (N := none) (bA 7 127) rfl rfl (by kernel_rfl) (by decide) (fun K hK => ?_)
                      have hs88 : w86.cell? ⟨gb383, 5, none⟩ = some (.slice none 0 0) := (blk_cell BK383.out 5).trans rfl
                      have hfs88 := blk_frozen BK383.out 5
                      have hns88_0 := NB379_383.out
                      have hms88_0 := NB383_379.out
                      refine skip_ (w1 := ?_) (by rfl) rfl ?_ ?_
                      rotate_left
                      ·go_simp
                       rfl
                      refine hK.out _ _ ?_
                      clear hK K
                      refine done_ (by kernel_rfl) ?_
                      have z89_0 := bk6 BK383.out
                      have z90_0 := bk6 BK379.out
                      try go_wp2
                      refine bodyPost_ret (results_ct rfl _ _ gb379 44 #[.int .i64 x6_1, .int .i64 (rd t387 0), .int .i64 0, .int .i64 0, .string t388, .slice Ao87 y407.length co87] (0, 0) _ rfl (by (with_reducible repeat (first | refine blk_drewN ?_ _ | refine blk_drew ?_ | refine blk_alloc ?_ _)); refine blk_put (cs := #[.int .i64 x6_1, .int .i64 (rd t387 0), .int .i64 0, .int .i64 0, .string t388, .slice none 0 0]) ?_ 5 _ rfl; (with_reducible repeat (first | refine blk_drewN ?_ _ | refine blk_drew ?_ | refine blk_alloc ?_ _)); refine blk_put (cs := #[.int .i64 x6_1, .int .i64 (rd t387 0), .int .i64 0, .int .i64 0, .string (⟨#[]⟩ : ByteArray), .slice none 0 0]) ?_ 4 _ rfl; (with_reducible repeat (first | refine blk_drewN ?_ _ | refine blk_drew ?_ | refine blk_alloc ?_ _)); refine blk_put (cs := #[.int .i64 x6_1, .int .i64 (rd t387 0), .int .i64 0, .int .i64 0, .string (⟨#[]⟩ : ByteArray), .slice none 0 0]) ?_ 3 _ rfl; (with_reducible repeat (first | refine blk_drewN ?_ _ | refine blk_drew ?_ | refine blk_alloc ?_ _)); refine blk_put (cs := #[.int .i64 x6_1, .int .i64 (rd t387 0), .int .i64 0, .int .i64 0, .string (⟨#[]⟩ : ByteArray), .slice none 0 0]) ?_ 2 _ rfl; (with_reducible repeat (first | refine blk_drewN ?_ _ | refine blk_drew ?_ | refine blk_alloc ?_ _)); refine blk_put (cs := #[.int .i64 x6_1, .int .i64 0, .int .i64 0, .int .i64 0, .string (⟨#[]⟩ : ByteArray), .slice none 0 0]) ?_ 1 _ rfl; (with_reducible repeat (first | refine blk_drewN ?_ _ | refine blk_drew ?_ | refine blk_alloc ?_ _)); refine blk_put (cs := #[.int .i64 0, .int .i64 0, .int .i64 0, .int .i64 0, .string (⟨#[]⟩ : ByteArray), .slice none 0 0]) ?_ 0 _ rfl; (with_reducible repeat (first | refine blk_drewN ?_ _ | refine blk_drew ?_ | refine blk_alloc ?_ _)); refine blk_far ?_ NB379_383.out _; (with_reducible repeat (first | refine blk_drewN ?_ _ | refine blk_drew ?_ | refine blk_alloc ?_ _)); exact BK379.out) Tryz.underlying44 rfl (by kernel_rfl)) rfl ?_
                      exact ⟨_, qE, by (with_reducible repeat (first | apply Kd.R_alloc | apply Kd.R_drewN | apply Kd.R_drew)); exact Kd.R_mono (Kd.R_far (p := ⟨gb379, 5, none⟩) (Kd.R_far (p := ⟨gb379, 4, none⟩) (Kd.R_far (p := ⟨gb379, 3, none⟩) (Kd.R_far (p := ⟨gb379, 2, none⟩) (Kd.R_far (p := ⟨gb379, 1, none⟩) (Kd.R_far (p := ⟨gb379, 0, none⟩) (Kd.R_far (p := ⟨gb383, 5, none⟩) (Kd.R_types (Kd.R_types HO409.out BK383.out (by decide)) BK379.out (by decide)) (fun _ hk => hk.1.2) (.slice Ao87 y407.length co87)) (fun _ hk => hk.2) (.int .i64 x6_1)) (fun _ hk => hk.2) (.int .i64 (rd t387 0))) (fun _ hk => hk.2) (.int .i64 0)) (fun _ hk => hk.2) (.int .i64 0)) (fun _ hk => hk.2) (.string t388)) (fun _ hk => hk.2) (.slice Ao87 y407.length co87)) (fun _ hk => trivial), qB⟩
                     ·rw [zD c79] at H
                      exact absurd H (by simp)
                    ·rw [zD c78] at H
                     exact absurd H (by simp)
                   ·rw [zD c77] at H
                    have c77b0 : decide (1 < (t387.length : Int)) = false := zG c77
                    have c77b1 : decide (1 < t387.length) = false := zG (by omega)
                    clear c77
                    simp only [Option.some.injEq, Prod.mk.injEq] at H
                    obtain ⟨rfl, rfl, rfl, rfl, rfl, rfl, rfl⟩ := H
                    obtain ⟨Ao91, co91, eo91⟩ := Kd.R_slice HO_11.out
                    subst eo91
                    have p401 : 0 ≤ (0 : Int) := (by omega)
                    have q401 : 0 < (t387.length : Int) := zB qA
                    obtain ⟨ad401, e401, hx401_0⟩ := Kd.at_int (Kd.R_reads' HO_11.out).2.2 0 p401 q401
                    cases e401
                    have qi401 : (0 < t387.length) = True := eq_true (by omega)
                    (try rw [show ((0 : Int)).toNat = 0 from rfl] at hx401_0)
                    (try rw [Addr.add_zero'] at hx401_0)
                    replace p401 := eq_true p401
                    replace q401 := eq_true q401
                    have hnb92 := NB383_379.out
                    have hnc92 := NB379_383.out
                    have z93_0 := bk6 BK383.out
                    have z94_0 := bk6 BK379.out
                    go_wp2
                    refine bodyPost_ret (results_ct rfl _ _ gb379 44 #[.int .i64 x6_1, .int .i64 (rd t387 0), .int .i64 0, .int .i64 0, .string t388, .slice none 0 0] (0, 0) _ rfl (by (with_reducible repeat (first | refine blk_drewN ?_ _ | refine blk_drew ?_ | refine blk_alloc ?_ _)); refine blk_put (cs := #[.int .i64 x6_1, .int .i64 (rd t387 0), .int .i64 0, .int .i64 0, .string t388, .slice none 0 0]) ?_ 5 _ rfl; (with_reducible repeat (first | refine blk_drewN ?_ _ | refine blk_drew ?_ | refine blk_alloc ?_ _)); refine blk_put (cs := #[.int .i64 x6_1, .int .i64 (rd t387 0), .int .i64 0, .int .i64 0, .string (⟨#[]⟩ : ByteArray), .slice none 0 0]) ?_ 4 _ rfl; (with_reducible repeat (first | refine blk_drewN ?_ _ | refine blk_drew ?_ | refine blk_alloc ?_ _)); refine blk_put (cs := #[.int .i64 x6_1, .int .i64 (rd t387 0), .int .i64 0, .int .i64 0, .string (⟨#[]⟩ : ByteArray), .slice none 0 0]) ?_ 3 _ rfl; (with_reducible repeat (first | refine blk_drewN ?_ _ | refine blk_drew ?_ | refine blk_alloc ?_ _)); refine blk_put (cs := #[.int .i64 x6_1, .int .i64 (rd t387 0), .int .i64 0, .int .i64 0, .string (⟨#[]⟩ : ByteArray), .slice none 0 0]) ?_ 2 _ rfl; (with_reducible repeat (first | refine blk_drewN ?_ _ | refine blk_drew ?_ | refine blk_alloc ?_ _)); refine blk_put (cs := #[.int .i64 x6_1, .int .i64 0, .int .i64 0, .int .i64 0, .string (⟨#[]⟩ : ByteArray), .slice none 0 0]) ?_ 1 _ rfl; (with_reducible repeat (first | refine blk_drewN ?_ _ | refine blk_drew ?_ | refine blk_alloc ?_ _)); refine blk_put (cs := #[.int .i64 0, .int .i64 0, .int .i64 0, .int .i64 0, .string (⟨#[]⟩ : ByteArray), .slice none 0 0]) ?_ 0 _ rfl; (with_reducible repeat (first | refine blk_drewN ?_ _ | refine blk_drew ?_ | refine blk_alloc ?_ _)); refine blk_far ?_ NB379_383.out _; (with_reducible repeat (first | refine blk_drewN ?_ _ | refine blk_drew ?_ | refine blk_alloc ?_ _)); exact BK379.out) Tryz.underlying44 rfl (by kernel_rfl)) rfl ?_
                    exact ⟨_, qE, by first | exact Kd.R_nil _ _ _ _ _ | exact Kd.N_nil _ _ _ _ _ | exact Kd.V_nil _ _ _ _ _ | exact Kd.Q_nil _ _ _ _ _ | exact Kd.S_nil _ _ _ _ _, qB⟩
                 ·rw [zD c70] at H
                  exact absurd H (by simp)
                ·rw [zD c69] at H
                 obtain ⟨c69b0, c69b1⟩ := qn c69
                 by_cases c95 : 0 < (t387.length : Int)
                 ·rw [zC c95] at H
                  have c95b0 := zF c95
                  have c95b1 : decide (0 < t387.length) = true := zF (by omega)
                  clear c95
                  by_cases c96 : 1 < (t387.length : Int)
                  ·rw [zC c96] at H
                   have c96b0 := zF c96
                   have c96b1 : decide (1 < t387.length) = true := zF (by omega)
                   clear c96
                   simp only [Option.some.injEq, Prod.mk.injEq] at H
                   obtain ⟨rfl, rfl, rfl, rfl, rfl, rfl, rfl⟩ := H
                   obtain ⟨Ao97, co97, eo97⟩ := Kd.R_slice HO_11.out
                   subst eo97
                   have p410 : 0 ≤ (0 : Int) := (by omega)
                   have q410 : 0 < (t387.length : Int) := zB qA
                   obtain ⟨ad410, e410, hx410_0⟩ := Kd.at_int (Kd.R_reads' HO_11.out).2.2 0 p410 q410
                   cases e410
                   have qi410 : (0 < t387.length) = True := eq_true (by omega)
                   (try rw [show ((0 : Int)).toNat = 0 from rfl] at hx410_0)
                   (try rw [Addr.add_zero'] at hx410_0)
                   replace p410 := eq_true p410
                   replace q410 := eq_true q410
                   have hnb98 := NB383_379.out
                   have hnc98 := NB379_383.out
                   have z99_0 := bk6 BK383.out
                   have p411 : 0 ≤ (1 : Int) := (by omega)
                   have q411 : 1 < (t387.length : Int) := zB qA
                   obtain ⟨ad411, e411, hx411_0⟩ := Kd.at_int (Kd.R_reads' HO_11.out).2.2 1 p411 q411
                   obtain rfl : ad410 = ad411 := (by injection e411)
                   (try simp only [show (1 : Int).toNat = 1 from rfl, Nat.reduceMul, Nat.reduceEqDiff, Go.Addr.add, ↓reduceIte] at hx411_0)
                   have qi411 : (1 < t387.length) = True := eq_true (by omega)
                   (try rw [show ((1 : Int)).toNat = 1 from rfl] at hx411_0)
                   have hn411_0 : ad410.block ≠ gb383 := Kd.own_blk (Kd.R_ne HO_11.out BK383.out (by decide))
                   replace hx411_0 := (cell_far (p := ⟨gb383, 1, none⟩) (by first | (rw [add_block]; exact hn411_0) | (show (Addr.add _ _).block ≠ _; rw [add_block]; exact hn411_0) | exact hn411_0) (.int .i64 (rd t387 0))).trans hx411_0
                   clear hn411_0
                   replace p411 := eq_true p411
                   replace q411 := eq_true q411
                   have z100_0 := bk6 BK379.out
                   go_wp2
                   refine bodyPost_ret (results_ct rfl _ _ gb379 44 #[.int .i64 x6_1, .int .i64 (rd t387 0), .int .i64 (rd t387 1), .int .i64 0, .string t388, .slice none 0 0] (0, 0) _ rfl (by (with_reducible repeat (first | refine blk_drewN ?_ _ | refine blk_drew ?_ | refine blk_alloc ?_ _)); refine blk_put (cs := #[.int .i64 x6_1, .int .i64 (rd t387 0), .int .i64 (rd t387 1), .int .i64 0, .string t388, .slice none 0 0]) ?_ 5 _ rfl; (with_reducible repeat (first | refine blk_drewN ?_ _ | refine blk_drew ?_ | refine blk_alloc ?_ _)); refine blk_put (cs := #[.int .i64 x6_1, .int .i64 (rd t387 0), .int .i64 (rd t387 1), .int .i64 0, .string (⟨#[]⟩ : ByteArray), .slice none 0 0]) ?_ 4 _ rfl; (with_reducible repeat (first | refine blk_drewN ?_ _ | refine blk_drew ?_ | refine blk_alloc ?_ _)); refine blk_put (cs := #[.int .i64 x6_1, .int .i64 (rd t387 0), .int .i64 (rd t387 1), .int .i64 0, .string (⟨#[]⟩ : ByteArray), .slice none 0 0]) ?_ 3 _ rfl; (with_reducible repeat (first | refine blk_drewN ?_ _ | refine blk_drew ?_ | refine blk_alloc ?_ _)); refine blk_put (cs := #[.int .i64 x6_1, .int .i64 (rd t387 0), .int .i64 0, .int .i64 0, .string (⟨#[]⟩ : ByteArray), .slice none 0 0]) ?_ 2 _ rfl; (with_reducible repeat (first | refine blk_drewN ?_ _ | refine blk_drew ?_ | refine blk_alloc ?_ _)); refine blk_put (cs := #[.int .i64 x6_1, .int .i64 0, .int .i64 0, .int .i64 0, .string (⟨#[]⟩ : ByteArray), .slice none 0 0]) ?_ 1 _ rfl; (with_reducible repeat (first | refine blk_drewN ?_ _ | refine blk_drew ?_ | refine blk_alloc ?_ _)); refine blk_put (cs := #[.int .i64 0, .int .i64 0, .int .i64 0, .int .i64 0, .string (⟨#[]⟩ : ByteArray), .slice none 0 0]) ?_ 0 _ rfl; (with_reducible repeat (first | refine blk_drewN ?_ _ | refine blk_drew ?_ | refine blk_alloc ?_ _)); refine blk_far ?_ NB379_383.out _; (with_reducible repeat (first | refine blk_drewN ?_ _ | refine blk_drew ?_ | refine blk_alloc ?_ _)); refine blk_far ?_ NB379_383.out _; (with_reducible repeat (first | refine blk_drewN ?_ _ | refine blk_drew ?_ | refine blk_alloc ?_ _)); exact BK379.out) Tryz.underlying44 rfl (by kernel_rfl)) rfl ?_
                   exact ⟨_, qE, by first | exact Kd.R_nil _ _ _ _ _ | exact Kd.N_nil _ _ _ _ _ | exact Kd.V_nil _ _ _ _ _ | exact Kd.Q_nil _ _ _ _ _ | exact Kd.S_nil _ _ _ _ _, qB⟩
                  ·rw [zD c96] at H
                   exact absurd H (by simp)
                 ·rw [zD c95] at H
                  exact absurd H (by simp)
       ·rw [zD c28] at H
        obtain ⟨c28b0, c28b1⟩ := qn c28
        simp only [Option.some.injEq, Prod.mk.injEq] at H
        obtain ⟨rfl, rfl, rfl, rfl, rfl, rfl, rfl⟩ := H
        go_wp2_with (first | ((with_reducible refine gate_callee (f := 53) rfl ?_); refine goesL_ (some 55) rfl rfl Tryz.func53 (by kernel_rfl) rfl #[.slice A0 l0.length c0, .int .i64 x9_17, .int .i64 x10_17] rfl qL ?_; (with_reducible refine (cubbyref08_read.calls kj17 _ _ l0 x9_17 x10_17 t387 t388 t389 _ ?side1 ?side2 A27.out).mono ?_); (case side1 => exact qCB HR0.out); (case side2 => exact HC0.out); rintro e w101 ⟨v390, rfl, ho0, hb⟩; refine ⟨_, rfl, ?_⟩; have HO391 := zA (Kd.R_lower ho0 (below_size qB)); replace BK379 := qW BK379 hb; replace BK383 := qW BK383 hb; replace HB := qH hb; (try clear hb); (try clear ho0); have hnb102 := NB379_383.out; have hnc102 := NB383_379.out; have z103_0 := bk6 BK379.out))
        refine bodyPost_ret (results_ct rfl _ _ gb379 44 #[.int .i64 0, .int .i64 0, .int .i64 0, .int .i64 0, .string (⟨#[]⟩ : ByteArray), .slice none 0 0] (0, 0) _ rfl (by (with_reducible repeat (first | refine blk_drewN ?_ _ | refine blk_drew ?_ | refine blk_alloc ?_ _)); refine blk_put (cs := #[.int .i64 0, .int .i64 0, .int .i64 0, .int .i64 0, .string (⟨#[]⟩ : ByteArray), .slice none 0 0]) ?_ 5 _ rfl; (with_reducible repeat (first | refine blk_drewN ?_ _ | refine blk_drew ?_ | refine blk_alloc ?_ _)); refine blk_put (cs := #[.int .i64 0, .int .i64 0, .int .i64 0, .int .i64 0, .string (⟨#[]⟩ : ByteArray), .slice none 0 0]) ?_ 4 _ rfl; (with_reducible repeat (first | refine blk_drewN ?_ _ | refine blk_drew ?_ | refine blk_alloc ?_ _)); refine blk_put (cs := #[.int .i64 0, .int .i64 0, .int .i64 0, .int .i64 0, .string (⟨#[]⟩ : ByteArray), .slice none 0 0]) ?_ 3 _ rfl; (with_reducible repeat (first | refine blk_drewN ?_ _ | refine blk_drew ?_ | refine blk_alloc ?_ _)); refine blk_put (cs := #[.int .i64 0, .int .i64 0, .int .i64 0, .int .i64 0, .string (⟨#[]⟩ : ByteArray), .slice none 0 0]) ?_ 2 _ rfl; (with_reducible repeat (first | refine blk_drewN ?_ _ | refine blk_drew ?_ | refine blk_alloc ?_ _)); refine blk_put (cs := #[.int .i64 0, .int .i64 0, .int .i64 0, .int .i64 0, .string (⟨#[]⟩ : ByteArray), .slice none 0 0]) ?_ 1 _ rfl; (with_reducible repeat (first | refine blk_drewN ?_ _ | refine blk_drew ?_ | refine blk_alloc ?_ _)); refine blk_put (cs := #[.int .i64 0, .int .i64 0, .int .i64 0, .int .i64 0, .string (⟨#[]⟩ : ByteArray), .slice none 0 0]) ?_ 0 _ rfl; (with_reducible repeat (first | refine blk_drewN ?_ _ | refine blk_drew ?_ | refine blk_alloc ?_ _)); exact BK379.out) Tryz.underlying44 rfl (by kernel_rfl)) rfl ?_
        exact ⟨_, qE, by first | exact Kd.R_nil _ _ _ _ _ | exact Kd.N_nil _ _ _ _ _ | exact Kd.V_nil _ _ _ _ _ | exact Kd.Q_nil _ _ _ _ _ | exact Kd.S_nil _ _ _ _ _, qB⟩
end Go.Proofs.YtniknpjeknmpjaaGreatDoor.Q
namespace Go.Proofs.YtniknpjeknmpjaaGreatDoor.PlainText
open Go Go.RowKit Go.Proofs.YtniknpjeknmpjaaGreatDoorW.PrintWords Go.Proofs.YtniknpjeknmpjaaGreatDoorW.PrintMore Go.Proofs.YtniknpjeknmpjaaGreatDoor.Q Go.Proofs.YtniknpjeknmpjaaGreatDoor.Plain Go.Proofs.YtniknpjeknmpjaaGreatDoor.PlainNum Go.Proofs.YtniknpjeknmpjaaGreatDoor.PlainName
set_option linter.unusedVariables false
set_option linter.unusedSimpArgs false
def zIns : SIns := ⟨0, 0, 0, 0, ⟨#[]⟩, []⟩
def insF (rest : List ByteArray) (op : Int) (fs : ByteArray) : Int × SIns :=
 if openF fs = false ∧ rest.length ≠ fs.size ∨ openF fs = true ∧ rest.length + 1 < fs.size then (80, zIns)
 else if (fillR rest fs.data.toList 0 (insOp op)).1 = 0 then (0, (fillR rest fs.data.toList 0 (insOp op)).2) else ((fillR rest fs.data.toList 0 (insOp op)).1, zIns)
def insR (ws : List ByteArray) (code : Bool) : Int × SIns :=
 match ws with
 | [] => (80, zIns)
 | w0 :: rest => match byOf w0 code with
  | none => (80, zIns)
  | some (op, wd, fs) => insF rest op fs
def insFlat (r : Int × SIns) : Int × Int × Int × Int × ByteArray × List Int × Int := (r.2.f0, r.2.f1, r.2.f2, r.2.f3, r.2.f4, r.2.f5, r.1)
theorem lineP_ins (s : PS) (w0 : ByteArray) (rest : List ByteArray) (h1 : ¬ (w0.toList = [98, 108, 111, 99, 107] ∧ rest = [])) (h2 : s.blocks ≠ []) :
 lineP s (w0 :: rest) = if (insR (w0 :: rest) s.code).1 = 0 then (0, { s with blocks := s.blocks.set (s.blocks.length - 1) (s.blocks.getD (s.blocks.length - 1) [] ++ [(insR (w0 :: rest) s.code).2]) }) else ((insR (w0 :: rest) s.code).1, s) := by
 unfold lineP insR insF
 simp only [zD h1, zD h2]
 cases byOf w0 s.code with
 | none => rfl
 | some r =>
  obtain ⟨op, wd, fs⟩ := r
  dsimp only
  split
  ·rfl
  ·by_cases h : (fillR rest fs.data.toList 0 (insOp op)).1 = 0
   ·simp only [zC h, if_true]
   ·simp only [zD h]
theorem readL_nums (name : Int) : ∀ (r : List ByteArray) (i : Nat) (out : List Int) (s : ByteArray), name < i → readL name i r out s = match r.mapM numOf with | some l => (out ++ l, s, 0) | none => ([], ⟨#[]⟩, 81)
 | [], i, out, s, h => by simp [readL]
 | t :: r, i, out, s, h => by
  unfold readL
  rw [zD (by omega), List.mapM_cons]
  cases numOf t with
  | none => rfl
  | some v =>
   dsimp only
   rw [readL_nums name r (i + 1) (out ++ [v]) s (by omega)]
   cases r.mapM numOf with
   | none => rfl
   | some l => simp
def insK (code : Bool) (op : Int) (k : Nat) (bt234 : List Int × ByteArray × Int) : Option (Int × Int × Int × Int × ByteArray × List Int × Int) :=
 if bt234.2.2 = 0 then (if op = 3 then (cubbyref08_ins.j2 k code bt234.1 op (op == 3) op 0 0 0 bt234.2.1) else (if op = 4 then (cubbyref08_ins.j2 k code bt234.1 op (op == 4) op 0 0 0 bt234.2.1) else (if op = 5 then (cubbyref08_ins.j2 k code bt234.1 op (op == 5) op 0 0 0 bt234.2.1) else (if op = 6 then (cubbyref08_ins.j2 k code bt234.1 op (op == 6) op 0 0 0 bt234.2.1) else (cubbyref08_ins.j2 k code bt234.1 op (op == 7) op 0 0 0 bt234.2.1))))) else (some (0, 0, 0, 0, (⟨#[]⟩ : ByteArray), ([] : List Int), bt234.2.2))
theorem insK_fin (w0 : ByteArray) (rest : List ByteArray) (code : Bool) (op : Int) (many : Nat) (name : Int) {r : Int × Int × Int × Int × ByteArray × List Int × Int} (hm : many ≤ 100000) (hev : Ev (fun k => insK code op k (readW (w0 :: rest) many name)) r) : Ev (fun k => cubbyref08_ins.j1 k (w0 :: rest) code op (many : Int) name op 0 0 0 (⟨#[]⟩ : ByteArray)) r := by
 refine Ev.step (fun k => ?_) (Ev.bind (f := insK code op) (read_ev (w0 :: rest) many name hm) hev)
 simp only [cubbyref08_ins.j1]
 rfl
theorem insK_count (w0 : ByteArray) (rest : List ByteArray) (code : Bool) (op : Int) (fs : ByteArray) (many : Nat) (name : Int) (h1 : openF fs = false) (h2 : fs.size = many) (h : rest.length ≠ many) : Ev (fun k => insK code op k (readW (w0 :: rest) many name)) (insFlat (insF rest op fs)) := by
 have e1 : readW (w0 :: rest) many name = ([], ⟨#[]⟩, 80) := by unfold readW; rw [zD (by simp; omega)]
 have e2 : insF rest op fs = (80, zIns) := by unfold insF; rw [zC (.inl ⟨h1, by omega⟩)]
 rw [e1, e2]
 exact ⟨0, fun k _ => rfl⟩
theorem fillR_num {ws : List ByteArray} {c : UInt8} {r : List UInt8} {at_ : Nat} {x : SIns} {t : ByteArray} (h1 : ¬ c = 78) (h2 : ¬ c = 76) (h : ws[at_]? = some t) : fillR ws (c :: r) at_ x = match numOf t with | some n => fillR ws r (at_ + 1) (setF c n x) | none => (81, x) := by
 conv => lhs; unfold fillR
 rw [zD h1, zD h2, h]
 try rfl
theorem fillR_name {ws : List ByteArray} {r : List UInt8} {at_ : Nat} {x : SIns} {t : ByteArray} (h : ws[at_]? = some t) : fillR ws (78 :: r) at_ x = if nameOk t = true then fillR ws r (at_ + 1) { x with f4 := t } else (80, x) := by
 conv => lhs; unfold fillR
 rw [zC rfl, h]
 try rfl
theorem fillR_list {ws : List ByteArray} {at_ : Nat} {x : SIns} : fillR ws [76] at_ x = match (ws.drop at_).mapM numOf with | some l => (0, { x with f5 := x.f5 ++ l }) | none => (81, x) := by
 conv => lhs; unfold fillR
 rw [zD (by decide), zC rfl]
 try rfl
theorem insF_right {rest : List ByteArray} {op : Int} {fs : ByteArray} (h1 : openF fs = false) (h : rest.length = fs.size) {e : Int} {y : SIns} (hf : fillR rest fs.data.toList 0 (insOp op) = (e, y)) : insF rest op fs = if e = 0 then (0, y) else (e, zIns) := by
 unfold insF
 rw [zD (by rintro (⟨_, h2⟩ | ⟨h2, _⟩); exact h2 h; rw [h1] at h2; cases h2), hf]
theorem form_DA (w0 : ByteArray) (rest : List ByteArray) (code : Bool) (op : Int) (hop : op = 1 ∨ op = 2 ∨ op = 8 ∨ op = 21 ∨ op = 22) : Ev (fun k => insK code op k (readW (w0 :: rest) 2 (-1))) (insFlat (insF rest op ⟨#[68, 65]⟩)) := by
 by_cases hl : rest.length = 2
 ·match rest, hl with
  | [a, b], _ =>
   have e0 : readW [w0, a, b] 2 (-1) = (match [a, b].mapM numOf with | some l => (l, ⟨#[]⟩, 0) | none => ([], ⟨#[]⟩, 81)) := by
    simp only [readW, List.drop_one, List.tail_cons, List.length_cons, List.length_nil, if_true]
    rw [readL_nums _ _ _ _ _ (by decide)]
    rfl
   rw [e0]
   cases ha : numOf a with
   | none =>
    have hm : [a, b].mapM numOf = none := by simp [ha]
    rw [hm, insF_right (e := 81) rfl rfl (by show fillR [a, b] [68, 65] 0 (insOp op) = _; rw [fillR_num (t := a) (by decide) (by decide) rfl, ha])]
    exact ⟨0, fun k _ => rfl⟩
   | some x =>
    cases hb : numOf b with
    | none =>
     have hm : [a, b].mapM numOf = none := by simp [ha, hb]
     rw [hm, insF_right (e := 81) rfl rfl (by show fillR [a, b] [68, 65] 0 (insOp op) = _; rw [fillR_num (t := a) (by decide) (by decide) rfl, ha]; dsimp only; rw [fillR_num (t := b) (by decide) (by decide) rfl, hb])]
     exact ⟨0, fun k _ => rfl⟩
    | some y =>
     rw [insF_right (e := 0) (y := ⟨op, x, y, 0, ⟨#[]⟩, []⟩) rfl rfl (by show fillR [a, b] [68, 65] 0 (insOp op) = _; rw [fillR_num (t := a) (by decide) (by decide) rfl, ha]; dsimp only; rw [fillR_num (t := b) (by decide) (by decide) rfl, hb]; dsimp only; rfl)]
     refine ⟨3, fun k hk => ?_⟩
     obtain ⟨q, rfl⟩ : ∃ q, k = q + 3 := ⟨k - 3, by omega⟩
     have hm : [a, b].mapM numOf = some [x, y] := by simp [ha, hb]
     rw [hm]
     rcases hop with rfl | rfl | rfl | rfl | rfl <;> rfl
 ·exact insK_count w0 rest code op ⟨#[68, 65]⟩ 2 (-1) rfl rfl hl
theorem form_DAB (w0 : ByteArray) (rest : List ByteArray) (code : Bool) (op : Int) (hop : op = 3 ∨ op = 4 ∨ op = 5 ∨ op = 6 ∨ op = 7) : Ev (fun k => insK code op k (readW (w0 :: rest) 3 (-1))) (insFlat (insF rest op ⟨#[68, 65, 66]⟩)) := by
 by_cases hl : rest.length = 3
 ·match rest, hl with
  | [a, b, c], _ =>
   have e0 : readW [w0, a, b, c] 3 (-1) = (match [a, b, c].mapM numOf with | some l => (l, ⟨#[]⟩, 0) | none => ([], ⟨#[]⟩, 81)) := by
    simp only [readW, List.drop_one, List.tail_cons, List.length_cons, List.length_nil, if_true]
    rw [readL_nums _ _ _ _ _ (by decide)]
    rfl
   rw [e0]
   cases ha : numOf a with
   | none =>
    have hm : [a, b, c].mapM numOf = none := by simp [ha]
    rw [hm, insF_right (e := 81) rfl rfl (by show fillR [a, b, c] [68, 65, 66] 0 (insOp op) = _; rw [fillR_num (t := a) (by decide) (by decide) rfl, ha])]
    exact ⟨0, fun k _ => rfl⟩
   | some x =>
    cases hb : numOf b with
    | none =>
     have hm : [a, b, c].mapM numOf = none := by simp [ha, hb]
     rw [hm, insF_right (e := 81) rfl rfl (by show fillR [a, b, c] [68, 65, 66] 0 (insOp op) = _; rw [fillR_num (t := a) (by decide) (by decide) rfl, ha]; dsimp only; rw [fillR_num (t := b) (by decide) (by decide) rfl, hb])]
     exact ⟨0, fun k _ => rfl⟩
    | some y =>
     cases hc : numOf c with
     | none =>
      have hm : [a, b, c].mapM numOf = none := by simp [ha, hb, hc]
      rw [hm, insF_right (e := 81) rfl rfl (by show fillR [a, b, c] [68, 65, 66] 0 (insOp op) = _; rw [fillR_num (t := a) (by decide) (by decide) rfl, ha]; dsimp only; rw [fillR_num (t := b) (by decide) (by decide) rfl, hb]; dsimp only; rw [fillR_num (t := c) (by decide) (by decide) rfl, hc])]
      exact ⟨0, fun k _ => rfl⟩
     | some z =>
      rw [insF_right (e := 0) (y := ⟨op, x, y, z, ⟨#[]⟩, []⟩) rfl rfl (by show fillR [a, b, c] [68, 65, 66] 0 (insOp op) = _; rw [fillR_num (t := a) (by decide) (by decide) rfl, ha]; dsimp only; rw [fillR_num (t := b) (by decide) (by decide) rfl, hb]; dsimp only; rw [fillR_num (t := c) (by decide) (by decide) rfl, hc]; dsimp only; rfl)]
      refine ⟨3, fun k hk => ?_⟩
      obtain ⟨q, rfl⟩ : ∃ q, k = q + 3 := ⟨k - 3, by omega⟩
      have hm : [a, b, c].mapM numOf = some [x, y, z] := by simp [ha, hb, hc]
      rw [hm]
      rcases hop with rfl | rfl | rfl | rfl | rfl <;> rfl
 ·exact insK_count w0 rest code op ⟨#[68, 65, 66]⟩ 3 (-1) rfl rfl hl
theorem form_AB (w0 : ByteArray) (rest : List ByteArray) (code : Bool) (op : Int) (hop : op = 9) : Ev (fun k => insK code op k (readW (w0 :: rest) 2 (-1))) (insFlat (insF rest op ⟨#[65, 66]⟩)) := by
 by_cases hl : rest.length = 2
 ·match rest, hl with
  | [a, b], _ =>
   have e0 : readW [w0, a, b] 2 (-1) = (match [a, b].mapM numOf with | some l => (l, ⟨#[]⟩, 0) | none => ([], ⟨#[]⟩, 81)) := by
    simp only [readW, List.drop_one, List.tail_cons, List.length_cons, List.length_nil, if_true]
    rw [readL_nums _ _ _ _ _ (by decide)]
    rfl
   rw [e0]
   cases ha : numOf a with
   | none =>
    have hm : [a, b].mapM numOf = none := by simp [ha]
    rw [hm, insF_right (e := 81) rfl rfl (by show fillR [a, b] [65, 66] 0 (insOp op) = _; rw [fillR_num (t := a) (by decide) (by decide) rfl, ha])]
    exact ⟨0, fun k _ => rfl⟩
   | some x =>
    cases hb : numOf b with
    | none =>
     have hm : [a, b].mapM numOf = none := by simp [ha, hb]
     rw [hm, insF_right (e := 81) rfl rfl (by show fillR [a, b] [65, 66] 0 (insOp op) = _; rw [fillR_num (t := a) (by decide) (by decide) rfl, ha]; dsimp only; rw [fillR_num (t := b) (by decide) (by decide) rfl, hb])]
     exact ⟨0, fun k _ => rfl⟩
    | some y =>
     rw [insF_right (e := 0) (y := ⟨op, 0, x, y, ⟨#[]⟩, []⟩) rfl rfl (by show fillR [a, b] [65, 66] 0 (insOp op) = _; rw [fillR_num (t := a) (by decide) (by decide) rfl, ha]; dsimp only; rw [fillR_num (t := b) (by decide) (by decide) rfl, hb]; dsimp only; rfl)]
     refine ⟨3, fun k hk => ?_⟩
     obtain ⟨q, rfl⟩ : ∃ q, k = q + 3 := ⟨k - 3, by omega⟩
     have hm : [a, b].mapM numOf = some [x, y] := by simp [ha, hb]
     rw [hm]
     subst hop
     rfl
 ·exact insK_count w0 rest code op ⟨#[65, 66]⟩ 2 (-1) rfl rfl hl
theorem form_A (w0 : ByteArray) (rest : List ByteArray) (code : Bool) (op : Int) (hop : op = 10 ∨ op = 12 ∨ op = 14) : Ev (fun k => insK code op k (readW (w0 :: rest) 1 (-1))) (insFlat (insF rest op ⟨#[65]⟩)) := by
 by_cases hl : rest.length = 1
 ·match rest, hl with
  | [a], _ =>
   have e0 : readW [w0, a] 1 (-1) = (match [a].mapM numOf with | some l => (l, ⟨#[]⟩, 0) | none => ([], ⟨#[]⟩, 81)) := by
    simp only [readW, List.drop_one, List.tail_cons, List.length_cons, List.length_nil, if_true]
    rw [readL_nums _ _ _ _ _ (by decide)]
    rfl
   rw [e0]
   cases ha : numOf a with
   | none =>
    have hm : [a].mapM numOf = none := by simp [ha]
    rw [hm, insF_right (e := 81) rfl rfl (by show fillR [a] [65] 0 (insOp op) = _; rw [fillR_num (t := a) (by decide) (by decide) rfl, ha])]
    exact ⟨0, fun k _ => rfl⟩
   | some x =>
    rw [insF_right (e := 0) (y := ⟨op, 0, x, 0, ⟨#[]⟩, []⟩) rfl rfl (by show fillR [a] [65] 0 (insOp op) = _; rw [fillR_num (t := a) (by decide) (by decide) rfl, ha]; dsimp only; rfl)]
    refine ⟨3, fun k hk => ?_⟩
    obtain ⟨q, rfl⟩ : ∃ q, k = q + 3 := ⟨k - 3, by omega⟩
    have hm : [a].mapM numOf = some [x] := by simp [ha]
    rw [hm]
    rcases hop with rfl | rfl | rfl <;> rfl
 ·exact insK_count w0 rest code op ⟨#[65]⟩ 1 (-1) rfl rfl hl
theorem form_ABD (w0 : ByteArray) (rest : List ByteArray) (code : Bool) (op : Int) (hop : op = 13) : Ev (fun k => insK code op k (readW (w0 :: rest) 3 (-1))) (insFlat (insF rest op ⟨#[65, 66, 68]⟩)) := by
 by_cases hl : rest.length = 3
 ·match rest, hl with
  | [a, b, c], _ =>
   have e0 : readW [w0, a, b, c] 3 (-1) = (match [a, b, c].mapM numOf with | some l => (l, ⟨#[]⟩, 0) | none => ([], ⟨#[]⟩, 81)) := by
    simp only [readW, List.drop_one, List.tail_cons, List.length_cons, List.length_nil, if_true]
    rw [readL_nums _ _ _ _ _ (by decide)]
    rfl
   rw [e0]
   cases ha : numOf a with
   | none =>
    have hm : [a, b, c].mapM numOf = none := by simp [ha]
    rw [hm, insF_right (e := 81) rfl rfl (by show fillR [a, b, c] [65, 66, 68] 0 (insOp op) = _; rw [fillR_num (t := a) (by decide) (by decide) rfl, ha])]
    exact ⟨0, fun k _ => rfl⟩
   | some x =>
    cases hb : numOf b with
    | none =>
     have hm : [a, b, c].mapM numOf = none := by simp [ha, hb]
     rw [hm, insF_right (e := 81) rfl rfl (by show fillR [a, b, c] [65, 66, 68] 0 (insOp op) = _; rw [fillR_num (t := a) (by decide) (by decide) rfl, ha]; dsimp only; rw [fillR_num (t := b) (by decide) (by decide) rfl, hb])]
     exact ⟨0, fun k _ => rfl⟩
    | some y =>
     cases hc : numOf c with
     | none =>
      have hm : [a, b, c].mapM numOf = none := by simp [ha, hb, hc]
      rw [hm, insF_right (e := 81) rfl rfl (by show fillR [a, b, c] [65, 66, 68] 0 (insOp op) = _; rw [fillR_num (t := a) (by decide) (by decide) rfl, ha]; dsimp only; rw [fillR_num (t := b) (by decide) (by decide) rfl, hb]; dsimp only; rw [fillR_num (t := c) (by decide) (by decide) rfl, hc])]
      exact ⟨0, fun k _ => rfl⟩
     | some z =>
      rw [insF_right (e := 0) (y := ⟨op, z, x, y, ⟨#[]⟩, []⟩) rfl rfl (by show fillR [a, b, c] [65, 66, 68] 0 (insOp op) = _; rw [fillR_num (t := a) (by decide) (by decide) rfl, ha]; dsimp only; rw [fillR_num (t := b) (by decide) (by decide) rfl, hb]; dsimp only; rw [fillR_num (t := c) (by decide) (by decide) rfl, hc]; dsimp only; rfl)]
      refine ⟨3, fun k hk => ?_⟩
      obtain ⟨q, rfl⟩ : ∃ q, k = q + 3 := ⟨k - 3, by omega⟩
      have hm : [a, b, c].mapM numOf = some [x, y, z] := by simp [ha, hb, hc]
      rw [hm]
      subst hop
      rfl
 ·exact insK_count w0 rest code op ⟨#[65, 66, 68]⟩ 3 (-1) rfl rfl hl
theorem mapM_len' {α β : Type} {g : α → Option β} : ∀ {l : List α} {r : List β}, l.mapM g = some r → r.length = l.length
 | [], r, h => by simp at h; subst h; rfl
 | a :: l, r, h => by
  rw [List.mapM_cons] at h
  simp only [Option.pure_def, Option.bind_eq_bind, Option.bind_eq_some_iff] at h
  obtain ⟨x, hx, y, hy, h⟩ := h
  injection h with h
  subst h
  simp [mapM_len' hy]
theorem readL_name (name : Int) (i : Nat) (t : ByteArray) (r : List ByteArray) (out : List Int) (s : ByteArray) (h : (i : Int) = name) : readL name i (t :: r) out s = if nameOk t = true then readL name (i + 1) r out t else ([], ⟨#[]⟩, 80) := by
 conv => lhs; unfold readL
 rw [zC h]
theorem readL_num (name : Int) (i : Nat) (t : ByteArray) (r : List ByteArray) (out : List Int) (s : ByteArray) (h : ¬ (i : Int) = name) : readL name i (t :: r) out s = match numOf t with | some v => readL name (i + 1) r (out ++ [v]) s | none => ([], ⟨#[]⟩, 81) := by
 conv => lhs; unfold readL
 rw [zD h]
 try rfl
theorem form_DNA (w0 : ByteArray) (rest : List ByteArray) : Ev (fun k => insK true 11 k (readW (w0 :: rest) 3 1)) (insFlat (insF rest 11 ⟨#[68, 78, 65]⟩)) := by
 by_cases hl : rest.length = 3
 ·match rest, hl with
  | [a, b, c], _ =>
   have e0 : readW [w0, a, b, c] 3 1 = (match numOf a with | none => ([], ⟨#[]⟩, 81) | some x => if nameOk b = true then (match numOf c with | none => ([], ⟨#[]⟩, 81) | some z => ([x, z], b, 0)) else ([], ⟨#[]⟩, 80)) := by
    simp only [readW, List.drop_one, List.tail_cons, List.length_cons, List.length_nil, if_true]
    rw [readL_num _ _ _ _ _ _ (by decide)]
    cases numOf a with
    | none => rfl
    | some x =>
     dsimp only
     rw [readL_name _ _ _ _ _ _ (by decide)]
     split
     ·rw [readL_num _ _ _ _ _ _ (by decide)]
      cases numOf c <;> rfl
     ·rfl
   rw [e0]
   cases ha : numOf a with
   | none =>
    rw [insF_right (e := 81) rfl rfl (by show fillR [a, b, c] [68, 78, 65] 0 (insOp 11) = _; rw [fillR_num (t := a) (by decide) (by decide) rfl, ha])]
    exact ⟨0, fun k _ => rfl⟩
   | some x =>
    by_cases hb : nameOk b = true
    ·cases hc : numOf c with
     | none =>
      rw [insF_right (e := 81) rfl rfl (by show fillR [a, b, c] [68, 78, 65] 0 (insOp 11) = _; rw [fillR_num (t := a) (by decide) (by decide) rfl, ha]; dsimp only; rw [fillR_name (t := b) rfl, zC hb, fillR_num (t := c) (by decide) (by decide) rfl, hc])]
      dsimp only
      rw [zC hb]
      exact ⟨0, fun k _ => rfl⟩
     | some z =>
      rw [insF_right (e := 0) (y := ⟨11, x, z, 0, b, []⟩) rfl rfl (by show fillR [a, b, c] [68, 78, 65] 0 (insOp 11) = _; rw [fillR_num (t := a) (by decide) (by decide) rfl, ha]; dsimp only; rw [fillR_name (t := b) rfl, zC hb, fillR_num (t := c) (by decide) (by decide) rfl, hc]; rfl)]
      dsimp only
      rw [zC hb]
      refine ⟨3, fun k hk => ?_⟩
      obtain ⟨q, rfl⟩ : ∃ q, k = q + 3 := ⟨k - 3, by omega⟩
      rfl
    ·rw [insF_right (e := 80) rfl rfl (by show fillR [a, b, c] [68, 78, 65] 0 (insOp 11) = _; rw [fillR_num (t := a) (by decide) (by decide) rfl, ha]; dsimp only; rw [fillR_name (t := b) rfl, zD hb])]
     dsimp only
     rw [zD hb]
     exact ⟨0, fun k _ => rfl⟩
 ·exact insK_count w0 rest true 11 ⟨#[68, 78, 65]⟩ 3 1 rfl rfl hl
theorem form_DNL (w0 : ByteArray) (rest : List ByteArray) (hr : rest.length ≤ 95000) : Ev (fun k => insK false 11 k (readW (w0 :: rest) (max 2 rest.length) 1)) (insFlat (insF rest 11 ⟨#[68, 78, 76]⟩)) := by
 by_cases hl : 2 ≤ rest.length
 ·match rest, hl with
  | a :: b :: r, _ =>
   have hmx : max 2 (a :: b :: r).length = (a :: b :: r).length := by simp
   rw [hmx]
   have e0 : readW (w0 :: a :: b :: r) (a :: b :: r).length 1 = (match numOf a with | none => ([], ⟨#[]⟩, 81) | some x => if nameOk b = true then (match r.mapM numOf with | none => ([], ⟨#[]⟩, 81) | some l => (x :: l, b, 0)) else ([], ⟨#[]⟩, 80)) := by
    simp only [readW, List.drop_one, List.tail_cons, List.length_cons, if_true]
    rw [readL_num _ _ _ _ _ _ (by decide)]
    cases numOf a with
    | none => rfl
    | some x =>
     dsimp only
     rw [readL_name _ _ _ _ _ _ (by decide)]
     split
     ·rw [readL_nums _ _ _ _ _ (by decide)]
      cases r.mapM numOf <;> rfl
     ·rfl
   rw [e0]
   have hw : ∀ {e : Int} {y : SIns}, fillR (a :: b :: r) [68, 78, 76] 0 (insOp 11) = (e, y) → insF (a :: b :: r) 11 ⟨#[68, 78, 76]⟩ = if e = 0 then (0, y) else (e, zIns) := fun {e y} hf => by
    unfold insF
    rw [zD (by rintro (⟨h2, _⟩ | ⟨_, h2⟩); exact absurd h2 (by decide); have : (⟨#[68, 78, 76]⟩ : ByteArray).size = 3 := rfl; simp at h2; omega)]
    show (if (fillR (a :: b :: r) [68, 78, 76] 0 (insOp 11)).1 = 0 then (0, (fillR (a :: b :: r) [68, 78, 76] 0 (insOp 11)).2) else ((fillR (a :: b :: r) [68, 78, 76] 0 (insOp 11)).1, zIns)) = _
    rw [hf]
   cases ha : numOf a with
   | none =>
    rw [hw (e := 81) (by rw [fillR_num (t := a) (by decide) (by decide) rfl, ha])]
    exact ⟨0, fun k _ => rfl⟩
   | some x =>
    by_cases hb : nameOk b = true
    ·cases hc : r.mapM numOf with
     | none =>
      rw [hw (e := 81) (y := ⟨11, x, 0, 0, b, []⟩) (by rw [fillR_num (t := a) (by decide) (by decide) rfl, ha]; dsimp only; rw [fillR_name (t := b) rfl, zC hb, fillR_list]; simp only [Nat.reduceAdd, List.drop_succ_cons, List.drop_zero, hc]; rfl)]
      dsimp only
      rw [zC hb]
      exact ⟨0, fun k _ => rfl⟩
     | some l =>
      rw [hw (e := 0) (y := ⟨11, x, 0, 0, b, l⟩) (by rw [fillR_num (t := a) (by decide) (by decide) rfl, ha]; dsimp only; rw [fillR_name (t := b) rfl, zC hb, fillR_list]; simp only [Nat.reduceAdd, List.drop_succ_cons, List.drop_zero, hc]; rfl)]
      dsimp only
      rw [zC hb]
      have hll := mapM_len' hc
      simp only [List.length_cons] at hr
      refine ⟨3, fun k hk => ?_⟩
      obtain ⟨q, rfl⟩ : ∃ q, k = q + 3 := ⟨k - 3, by omega⟩
      cases l with
      | nil => rfl
      | cons y l =>
       have e1 : insK false 11 (q + 3) (x :: y :: l, b, 0) = if 0 < (((x :: y :: l).length : Nat) : Int) then (if (((x :: y :: l).length : Nat) : Int) > 1 then (if 1 ≤ (((x :: y :: l).length : Nat) : Int) then (if ([] : List Int).length + ((x :: y :: l).drop 1).length < 17592186044416 then some (11, x, 0, 0, b, [] ++ (x :: y :: l).drop 1, 0) else none) else none) else some (11, x, 0, 0, b, [], 0)) else none := rfl
       show insK false 11 (q + 3) (x :: y :: l, b, 0) = _
       rw [e1, zC (by simp; omega), zC (by simp; omega), zC (by simp; omega), zC (by simp at hll ⊢; omega)]
       rfl
    ·rw [hw (e := 80) (by rw [fillR_num (t := a) (by decide) (by decide) rfl, ha]; dsimp only; rw [fillR_name (t := b) rfl, zD hb])]
     dsimp only
     rw [zD hb]
     exact ⟨0, fun k _ => rfl⟩
 ·have e1 : readW (w0 :: rest) (max 2 rest.length) 1 = ([], ⟨#[]⟩, 80) := by unfold readW; rw [zD (by simp; omega)]
  have e2 : insF rest 11 ⟨#[68, 78, 76]⟩ = (80, zIns) := by unfold insF; rw [zC (.inr ⟨by decide, by show rest.length + 1 < 3; omega⟩)]
  rw [e1, e2]
  exact ⟨0, fun k _ => rfl⟩
def opWord (l : List UInt8) : Int := if l = [99, 111, 110, 115, 116] then 1 else if l = [99, 111, 112, 121] then 2 else if l = [97, 100, 100] then 3 else if l = [115, 117, 98] then 4 else if l = [109, 117, 108] then 5 else if l = [108, 101, 115, 115] then 6 else if l = [100, 105, 118] then 7 else if l = [108, 111, 97, 100] then 8 else if l = [115, 116, 111, 114, 101] then 9 else if l = [111, 117, 116] then 10 else if l = [99, 97, 108, 108] then 11 else if l = [106, 117, 109, 112] then 12 else if l = [98, 114, 97, 110, 99, 104] then 13 else if l = [114, 101, 116] then 14 else if l = [102, 101, 116, 99, 104] then 21 else if l = [115, 97, 118, 101] then 22 else 0
theorem of_word {i o : Int} {code : Bool} {wd fs : ByteArray} (h : text_of.f i code = some (o, wd, fs, true)) : o = i ∧ opWord wd.data.toList = i ∧ wd.data.toList ≠ [] := by
 rcases op_cases i with rfl | rfl | rfl | rfl | rfl | rfl | rfl | rfl | rfl | rfl | rfl | rfl | rfl | rfl | rfl | rfl | rfl | ho
 case inr.inr.inr.inr.inr.inr.inr.inr.inr.inr.inr.inr.inr.inr.inr.inr.inr =>
  rw [text_of_none (.inr ho)] at h
  cases h
 all_goals
  cases code
  all_goals
   first
    | (cases h; done)
    | (injection h with h
       simp only [Prod.mk.injEq] at h
       obtain ⟨rfl, rfl, rfl, -⟩ := h
       exact ⟨rfl, by decide, by decide⟩)
theorem isBy_some {wd : ByteArray} {code : Bool} {i : Int} {r : Int × ByteArray × ByteArray} (h : isBy wd code i = some r) : r.1 = i ∧ i = opWord wd.data.toList ∧ wd.toList ≠ [] ∧ text_of.f i code = some (r.1, r.2.1, r.2.2, true) ∧ (wordR i code).toList = wd.toList := by
 obtain ⟨⟨o, w1, fs, is⟩, hof⟩ := text_of_total i code
 cases is with
 | false => rw [isBy_false hof] at h; cases h
 | true =>
  rw [isBy_true hof] at h
  split at h
  ·next hw =>
   injection h with h
   subst h
   obtain ⟨h1, h2, h3⟩ := of_word hof
   rw [toList_data, toList_data] at hw
   refine ⟨h1, by rw [← hw]; exact h2.symm, by rw [toList_data, ← hw]; exact h3, hof, ?_⟩
   unfold wordR
   rw [hof]
   simp only
   rw [toList_data, toList_data, hw]
  ·cases h
theorem isBy_none {wd : ByteArray} {code : Bool} {i : Int} (h : isBy wd code i = none) : ¬ ((wordR i code).toList = wd.toList ∧ wd.toList ≠ []) := by
 obtain ⟨⟨o, w1, fs, is⟩, hof⟩ := text_of_total i code
 unfold wordR
 rw [hof]
 cases is with
 | false => rintro ⟨h1, h2⟩; exact h2 (h1.symm.trans (by rw [toList_data]; rfl))
 | true =>
  rw [isBy_true hof] at h
  split at h
  ·cases h
  ·next hw => exact fun h1 => hw h1.1
theorem byFrom_some {wd : ByteArray} {code : Bool} : ∀ {k : Nat} {i : Int} {r : Int × ByteArray × ByteArray}, byFrom wd code k i = some r → ∃ j, i ≤ j ∧ j < i + k ∧ isBy wd code j = some r
 | 0, i, r, h => by cases h
 | k + 1, i, r, h => by
  unfold byFrom at h
  split at h
  ·next r' hr =>
   injection h with h
   subst h
   exact ⟨i, by omega, by omega, hr⟩
  ·obtain ⟨j, h1, h2, h3⟩ := byFrom_some h
   exact ⟨j, by omega, by omega, h3⟩
theorem ins_ev (w0 : ByteArray) (rest : List ByteArray) (code : Bool) (hr : rest.length ≤ 95000) : Ev (fun k => cubbyref08_ins.f k (w0 :: rest) code) (insFlat (insR (w0 :: rest) code)) := by
 have tail : ∀ (x6 : Int) (r : Option (Int × ByteArray × ByteArray)), (∀ op wd fs, r = some (op, wd, fs) → x6 = op ∧ text_of.f op code = some (op, wd, fs, true)) → (r = none → x6 = -1) →
  Ev (fun k => if x6 < 0 then (some (0, 0, 0, 0, (⟨#[]⟩ : ByteArray), ([] : List Int), 80)) else ((cubbyref08_numbers.f k x6 0 0 0 (⟨#[]⟩ : ByteArray) ([] : List Int) code).bind fun t231 => (if x6 = 11 then (if code = true then (cubbyref08_ins.j1 k (w0 :: rest) code x6 (wrap64 ((t231.length : Int) + 1)) 1 x6 0 0 0 (⟨#[]⟩ : ByteArray)) else (cubbyref08_ins.j1 k (w0 :: rest) code x6 (mx 2 (wrap64 (((w0 :: rest).length : Int) - 1))) 1 x6 0 0 0 (⟨#[]⟩ : ByteArray))) else (cubbyref08_ins.j1 k (w0 :: rest) code x6 (t231.length : Int) (-1) x6 0 0 0 (⟨#[]⟩ : ByteArray)))))
   (insFlat (match r with | none => (80, zIns) | some (op, wd, fs) => insF rest op fs)) := by
  intro x6 r hs hn
  cases r with
  | none => rw [hn rfl]; exact ⟨0, fun k _ => rfl⟩
  | some r =>
   obtain ⟨op, wd, fs⟩ := r
   obtain ⟨rfl, hof⟩ := hs op wd fs rfl
   have done : ¬ x6 < 0 → Ev (fun k => (if x6 = 11 then (if code = true then (cubbyref08_ins.j1 k (w0 :: rest) code x6 (wrap64 (((numsR (insOp x6) code).length : Int) + 1)) 1 x6 0 0 0 (⟨#[]⟩ : ByteArray)) else (cubbyref08_ins.j1 k (w0 :: rest) code x6 (mx 2 (wrap64 (((w0 :: rest).length : Int) - 1))) 1 x6 0 0 0 (⟨#[]⟩ : ByteArray))) else (cubbyref08_ins.j1 k (w0 :: rest) code x6 ((numsR (insOp x6) code).length : Int) (-1) x6 0 0 0 (⟨#[]⟩ : ByteArray)))) (insFlat (insF rest x6 fs)) →
    Ev (fun k => if x6 < 0 then (some (0, 0, 0, 0, (⟨#[]⟩ : ByteArray), ([] : List Int), 80)) else ((cubbyref08_numbers.f k x6 0 0 0 (⟨#[]⟩ : ByteArray) ([] : List Int) code).bind fun t231 => (if x6 = 11 then (if code = true then (cubbyref08_ins.j1 k (w0 :: rest) code x6 (wrap64 ((t231.length : Int) + 1)) 1 x6 0 0 0 (⟨#[]⟩ : ByteArray)) else (cubbyref08_ins.j1 k (w0 :: rest) code x6 (mx 2 (wrap64 (((w0 :: rest).length : Int) - 1))) 1 x6 0 0 0 (⟨#[]⟩ : ByteArray))) else (cubbyref08_ins.j1 k (w0 :: rest) code x6 (t231.length : Int) (-1) x6 0 0 0 (⟨#[]⟩ : ByteArray)))))
     (insFlat (insF rest x6 fs)) := fun h0 he =>
    Ev.congr (fun k => zD h0) (Ev.bind (f := fun k (t231 : List Int) => (if x6 = 11 then (if code = true then (cubbyref08_ins.j1 k (w0 :: rest) code x6 (wrap64 ((t231.length : Int) + 1)) 1 x6 0 0 0 (⟨#[]⟩ : ByteArray)) else (cubbyref08_ins.j1 k (w0 :: rest) code x6 (mx 2 (wrap64 (((w0 :: rest).length : Int) - 1))) 1 x6 0 0 0 (⟨#[]⟩ : ByteArray))) else (cubbyref08_ins.j1 k (w0 :: rest) code x6 (t231.length : Int) (-1) x6 0 0 0 (⟨#[]⟩ : ByteArray)))) (numbers_ev (insOp x6) code (by simp [insOp])) he)
   have fsq : ∀ {o' : Int} {wd' fs' : ByteArray} {is' : Bool}, text_of.f x6 code = some (o', wd', fs', is') → fs = fs' := fun {o' wd' fs' is'} h => by
    rw [hof] at h
    injection h with h
    simp only [Prod.mk.injEq] at h
    exact h.2.2.1
   rcases op_cases x6 with rfl | rfl | rfl | rfl | rfl | rfl | rfl | rfl | rfl | rfl | rfl | rfl | rfl | rfl | rfl | rfl | rfl | ho
   ·rw [show fs = ⟨#[68, 65]⟩ from fsq rfl] at done ⊢
    exact done (by decide) (Ev.congr (fun k => zD (by decide)) (insK_fin w0 rest code 1 2 (-1) (by decide) (form_DA w0 rest code 1 (by decide))))
   ·rw [show fs = ⟨#[68, 65]⟩ from fsq rfl] at done ⊢
    exact done (by decide) (Ev.congr (fun k => zD (by decide)) (insK_fin w0 rest code 2 2 (-1) (by decide) (form_DA w0 rest code 2 (by decide))))
   ·rw [show fs = ⟨#[68, 65, 66]⟩ from fsq rfl] at done ⊢
    exact done (by decide) (Ev.congr (fun k => zD (by decide)) (insK_fin w0 rest code 3 3 (-1) (by decide) (form_DAB w0 rest code 3 (by decide))))
   ·rw [show fs = ⟨#[68, 65, 66]⟩ from fsq rfl] at done ⊢
    exact done (by decide) (Ev.congr (fun k => zD (by decide)) (insK_fin w0 rest code 4 3 (-1) (by decide) (form_DAB w0 rest code 4 (by decide))))
   ·rw [show fs = ⟨#[68, 65, 66]⟩ from fsq rfl] at done ⊢
    exact done (by decide) (Ev.congr (fun k => zD (by decide)) (insK_fin w0 rest code 5 3 (-1) (by decide) (form_DAB w0 rest code 5 (by decide))))
   ·rw [show fs = ⟨#[68, 65, 66]⟩ from fsq rfl] at done ⊢
    exact done (by decide) (Ev.congr (fun k => zD (by decide)) (insK_fin w0 rest code 6 3 (-1) (by decide) (form_DAB w0 rest code 6 (by decide))))
   ·rw [show fs = ⟨#[68, 65, 66]⟩ from fsq rfl] at done ⊢
    exact done (by decide) (Ev.congr (fun k => zD (by decide)) (insK_fin w0 rest code 7 3 (-1) (by decide) (form_DAB w0 rest code 7 (by decide))))
   ·rw [show fs = ⟨#[68, 65]⟩ from fsq rfl] at done ⊢
    exact done (by decide) (Ev.congr (fun k => zD (by decide)) (insK_fin w0 rest code 8 2 (-1) (by decide) (form_DA w0 rest code 8 (by decide))))
   ·rw [show fs = ⟨#[65, 66]⟩ from fsq rfl] at done ⊢
    exact done (by decide) (Ev.congr (fun k => zD (by decide)) (insK_fin w0 rest code 9 2 (-1) (by decide) (form_AB w0 rest code 9 (by decide))))
   ·rw [show fs = ⟨#[65]⟩ from fsq rfl] at done ⊢
    exact done (by decide) (Ev.congr (fun k => zD (by decide)) (insK_fin w0 rest code 10 1 (-1) (by decide) (form_A w0 rest code 10 (by decide))))
   ·cases code with
    | true =>
     rw [show fs = ⟨#[68, 78, 65]⟩ from fsq rfl] at done ⊢
     exact done (by decide) (Ev.congr (fun k => by rw [zC rfl, zC rfl, show ((numsR (insOp 11) true).length : Int) = ((2 : Nat) : Int) from rfl, wrap_nat (by omega)]) (insK_fin w0 rest true 11 3 1 (by decide) (form_DNA w0 rest)))
    | false =>
     rw [show fs = ⟨#[68, 78, 76]⟩ from fsq rfl] at done ⊢
     have hmx : mx 2 (wrap64 (((w0 :: rest).length : Int) - 1)) = ((max 2 rest.length : Nat) : Int) := by
      rw [wrap_pred (by simp) (by simp; omega)]
      unfold mx
      simp only [List.length_cons]
      omega
     exact done (by decide) (Ev.congr (fun k => by rw [zC rfl, zD (by decide), hmx]) (insK_fin w0 rest false 11 (max 2 rest.length) 1 (by omega) (form_DNL w0 rest hr)))
   ·rw [show fs = ⟨#[65]⟩ from fsq rfl] at done ⊢
    exact done (by decide) (Ev.congr (fun k => zD (by decide)) (insK_fin w0 rest code 12 1 (-1) (by decide) (form_A w0 rest code 12 (by decide))))
   ·rw [show fs = ⟨#[65, 66, 68]⟩ from fsq rfl] at done ⊢
    exact done (by decide) (Ev.congr (fun k => zD (by decide)) (insK_fin w0 rest code 13 3 (-1) (by decide) (form_ABD w0 rest code 13 (by decide))))
   ·rw [show fs = ⟨#[65]⟩ from fsq rfl] at done ⊢
    exact done (by decide) (Ev.congr (fun k => zD (by decide)) (insK_fin w0 rest code 14 1 (-1) (by decide) (form_A w0 rest code 14 (by decide))))
   ·rw [show fs = ⟨#[68, 65]⟩ from fsq rfl] at done ⊢
    exact done (by decide) (Ev.congr (fun k => zD (by decide)) (insK_fin w0 rest code 21 2 (-1) (by decide) (form_DA w0 rest code 21 (by decide))))
   ·rw [show fs = ⟨#[68, 65]⟩ from fsq rfl] at done ⊢
    exact done (by decide) (Ev.congr (fun k => zD (by decide)) (insK_fin w0 rest code 22 2 (-1) (by decide) (form_DA w0 rest code 22 (by decide))))
   ·rw [text_of_none (.inl rfl)] at hof; cases hof
   ·rw [text_of_none (.inr ho)] at hof; cases hof
 have loop : ∀ (d i : Nat) (prev : Option (Int × ByteArray × ByteArray)) (x6 : Int), i + d = 23 → 1 ≤ i → (∀ r, prev = some r → isBy w0 code r.1 = some r ∧ x6 = r.1 ∧ r.1 < (i : Int)) → (prev = none → x6 = -1) →
  Ev (fun k => cubbyref08_ins.l0 k (w0 :: rest) code x6 (i : Int)) (insFlat (match prev.or (byFrom w0 code d (i : Int)) with | none => (80, zIns) | some (op, wd, fs) => insF rest op fs)) := by
  intro d
  induction d with
  | zero =>
   intro i prev x6 hd hi hp hn
   have e : prev.or (byFrom w0 code 0 (i : Int)) = prev := by cases prev <;> rfl
   rw [e]
   refine Ev.step (fun k => ?_) (tail x6 prev (fun op wd fs h => ?_) hn)
   ·simp only [cubbyref08_ins.l0]
    rw [zD (by omega)]
   ·obtain ⟨h1, h2, h3⟩ := hp _ h
    obtain ⟨q1, q2, q3, q4, q5⟩ := isBy_some h1
    exact ⟨h2, q4⟩
  | succ d ih =>
   intro i prev x6 hd hi hp hn
   have hx : rdOf ByteArray.empty (w0 :: rest) 0 = w0 := rfl
   have hw := wrap_nat (j := i) (by omega)
   have step : ∀ (x : Int) (r : Int × Int × Int × Int × ByteArray × List Int × Int), (if (wordR (i : Int) code).toList = w0.toList ∧ w0.toList ≠ [] then x = (i : Int) else x = x6) → Ev (fun k => cubbyref08_ins.l0 k (w0 :: rest) code x ((i + 1 : Nat) : Int)) r → Ev (fun k => cubbyref08_ins.l0 k (w0 :: rest) code x6 (i : Int)) r := fun x r hx2 he => by
    refine Ev.step (f := fun k => (cubbyref08_word.f k (i : Int) code).bind fun t227 => (if 0 < ((w0 :: rest).length : Int) then (if t227.toList = (rdOf ByteArray.empty (w0 :: rest) 0).toList then (if (rdOf ByteArray.empty (w0 :: rest) 0).toList = ([] : List UInt8) then (cubbyref08_ins.l0 k (w0 :: rest) code x6 (wrap64 ((i : Int) + 1))) else (cubbyref08_ins.l0 k (w0 :: rest) code (i : Int) (wrap64 ((i : Int) + 1)))) else (cubbyref08_ins.l0 k (w0 :: rest) code x6 (wrap64 ((i : Int) + 1)))) else (none))) (fun k => ?_) ?_
    ·simp only [cubbyref08_ins.l0]
     rw [zC (by omega)]
    ·refine Ev.bind (f := fun k t227 => (if 0 < ((w0 :: rest).length : Int) then (if t227.toList = (rdOf ByteArray.empty (w0 :: rest) 0).toList then (if (rdOf ByteArray.empty (w0 :: rest) 0).toList = ([] : List UInt8) then (cubbyref08_ins.l0 k (w0 :: rest) code x6 (wrap64 ((i : Int) + 1))) else (cubbyref08_ins.l0 k (w0 :: rest) code (i : Int) (wrap64 ((i : Int) + 1)))) else (cubbyref08_ins.l0 k (w0 :: rest) code x6 (wrap64 ((i : Int) + 1)))) else (none))) (word_ev (i : Int) code) ?_
     refine Ev.congr (fun k => ?_) he
     rw [zC (by first | (simp; done) | (simp; omega)), hx, hw]
     by_cases c1 : (wordR (i : Int) code).toList = w0.toList
     ·rw [zC c1]
      by_cases c2 : w0.toList = []
      ·rw [zC c2]
       rw [zD (fun h => h.2 c2)] at hx2
       rw [hx2]
      ·rw [zD c2]
       rw [zC ⟨c1, c2⟩] at hx2
       rw [hx2]
     ·rw [zD c1]
      rw [zD (fun h => c1 h.1)] at hx2
      rw [hx2]
   cases hby : isBy w0 code (i : Int) with
   | some r =>
    obtain ⟨q1, q2, q3, q4, q5⟩ := isBy_some hby
    have hpn : prev = none := by
     cases hprev : prev with
     | none => rfl
     | some r' =>
      obtain ⟨h1, h2, h3⟩ := hp _ hprev
      have := (isBy_some h1).2.1
      omega
    subst hpn
    have hb : byFrom w0 code (d + 1) (i : Int) = some r := by unfold byFrom; rw [hby]
    rw [Option.none_or, hb]
    refine step (i : Int) _ (by rw [zC ⟨q5, q3⟩]) ?_
    exact ih (i + 1) (some r) (i : Int) (by omega) (by omega) (fun r' h => by cases h; exact ⟨by rw [q1]; exact hby, q1.symm, by omega⟩) (fun h => by cases h)
   | none =>
    have hb : byFrom w0 code (d + 1) (i : Int) = byFrom w0 code d ((i + 1 : Nat) : Int) := by
     show (match isBy w0 code (i : Int) with | some r => some r | none => byFrom w0 code d ((i : Int) + 1)) = _
     rw [hby]
     rfl
    rw [hb]
    refine step x6 _ (by rw [zD (isBy_none hby)]) ?_
    exact ih (i + 1) prev x6 (by omega) (by omega) (fun r h => by obtain ⟨h1, h2, h3⟩ := hp r h; exact ⟨h1, h2, by omega⟩) hn
 have h := loop 22 1 none (-1) rfl (by decide) (fun r h => by cases h) (fun _ => rfl)
 have e : byOf w0 code = byFrom w0 code 22 ((1 : Nat) : Int) := by
  have h0 : isBy w0 code 0 = none := isBy_false (o := 0) (w1 := emp) (fs := emp) (text_of_none (.inl rfl))
  show (match isBy w0 code 0 with | some r => some r | none => byFrom w0 code 22 (0 + 1)) = _
  rw [h0]
  rfl
 have e2 : insR (w0 :: rest) code = (match (none : Option (Int × ByteArray × ByteArray)).or (byFrom w0 code 22 ((1 : Nat) : Int)) with | none => (80, zIns) | some (op, wd, fs) => insF rest op fs) := by
  show (match byOf w0 code with | none => (80, zIns) | some (op, wd, fs) => insF rest op fs) = _
  rw [e]
  rfl
 rw [e2]
 exact h
theorem top_first {s : PS} {w0 : ByteArray} {rest : List ByteArray} (h : ¬ w0.toList = s.first.toList) : topP s (w0 :: rest) = (80, s) := by
 unfold topP
 split
 ·next a b r he =>
  cases he
  rw [zD (fun hc => h hc.1)]
 ·rfl
theorem top_read {s : PS} {w0 : ByteArray} {rest : List ByteArray} (h : w0.toList = s.first.toList) (hh : 1 ≤ s.heads) :
 readW (w0 :: rest) (s.heads.toNat + 1) 0 = if (topP s (w0 :: rest)).1 = 0 then ((topP s (w0 :: rest)).2.head, (topP s (w0 :: rest)).2.name, 0) else ([], ⟨#[]⟩, (topP s (w0 :: rest)).1) := by
 cases rest with
 | nil =>
  unfold readW topP
  rw [zD (by simp)]
  rfl
 | cons w1 r =>
  by_cases hl : ((r.length + 2 : Nat) : Int) = s.heads + 2
  ·unfold readW
   rw [zC (by simp only [List.length_cons]; omega), List.drop_one, List.tail_cons, readL_name 0 0 w1 r [] ⟨#[]⟩ rfl]
   by_cases hn : nameOk w1 = true
   ·rw [zC hn, readL_nums _ _ _ _ _ (by decide)]
    cases hm : r.mapM numOf with
    | none =>
     have e : topP s (w0 :: w1 :: r) = (81, s) := (zC ⟨h, hl, hn⟩).trans (by rw [hm])
     rw [e]
     rfl
    | some l =>
     have e : topP s (w0 :: w1 :: r) = (0, { s with name := w1, head := l }) := (zC ⟨h, hl, hn⟩).trans (by rw [hm])
     rw [e]
     simp
   ·rw [zD hn]
    have e : topP s (w0 :: w1 :: r) = (80, s) := zD (fun hc => hn hc.2.2)
    rw [e]
    rfl
  ·unfold readW
   rw [zD (by simp only [List.length_cons]; omega)]
   have e : topP s (w0 :: w1 :: r) = (80, s) := zD (fun hc => hl hc.2.1)
   rw [e]
   rfl
end Go.Proofs.YtniknpjeknmpjaaGreatDoor.PlainText
namespace Go.Proofs.YtniknpjeknmpjaaGreatDoor.Q
open Go.RowKit Go.Shelf Go.Proofs.YtniknpjeknmpjaaGreatDoor.Plain Go.Proofs.YtniknpjeknmpjaaGreatDoor.PlainName Go.Proofs.YtniknpjeknmpjaaGreatDoor.PlainNum Go.Proofs.YtniknpjeknmpjaaGreatDoor.PlainText Go.Proofs.YtniknpjeknmpjaaGreatDoorW.PrintWords Go.Proofs.YtniknpjeknmpjaaGreatDoorW.PrintLast Go.Proofs.YtniknpjeknmpjaaGreatDoorW.PrintMore
set_option linter.unusedVariables false
set_option linter.unusedSimpArgs false
theorem indexByte_first : ∀ (l : List UInt8) (b : UInt8) (e : Nat), l[e]? = some b → (∀ j, j < e → l[j]? ≠ some b) → Lib.indexByte l b = (e : Int)
 | [], b, e, h, _ => by simp at h
 | c :: l, b, e, h, hn => by
  unfold Lib.indexByte
  by_cases hc : c = b
  ·rw [zC (by simpa using hc)]
   cases e with
   | zero => rfl
   | succ e => exact absurd (show (c :: l)[0]? = some b by simp [hc]) (hn 0 (by omega))
  ·rw [zD (by simpa using hc)]
   cases e with
   | zero => simp at h; exact absurd h hc
   | succ e =>
    have := indexByte_first l b e (by simpa using h) (fun j hj => by have := hn (j + 1) (by omega); simpa using this)
    rw [this, zD (by first | (simp; done) | (simp; omega))]
    omega
theorem indexByte_none : ∀ (l : List UInt8) (b : UInt8), (∀ j : Nat, l[j]? ≠ some b) → Lib.indexByte l b = -1
 | [], b, _ => rfl
 | c :: l, b, hn => by
  unfold Lib.indexByte
  have hc : ¬ c = b := fun h => hn 0 (by simp [h])
  rw [zD (by simpa using hc)]
  have := indexByte_none l b (fun j => by have := hn (j + 1); simpa using this)
  rw [this]
  rfl
theorem cut_found {s : ByteArray} {e : Nat} (h : s.data.toList[e]? = some 10) (hn : ∀ j, j < e → s.data.toList[j]? ≠ some 10) : wholeB (cutB s).1 = true ∧ trimB (cutB s).1 = s.extract 0 e ∧ (cutB s).2 = s.extract (e + 1) s.size := by
 have hi := indexByte_first _ _ _ h hn
 rw [cutB_pos hi]
 have hlt : e < s.data.toList.length := (List.getElem?_eq_some_iff.1 h).1
 have hg : s.data.toList[e] = 10 := (List.getElem?_eq_some_iff.1 h).2
 have hd : (s.extract 0 (e + 1)).data.toList = s.data.toList.take e ++ [10] := by
  rw [ByteArray.data_extract, Array.toList_extract, List.extract_eq_take_drop, List.drop_zero, Nat.sub_zero, List.take_succ_eq_append_getElem hlt, hg]
 refine ⟨?_, ?_, rfl⟩
 ·show Lib.hasSuffix (s.extract 0 (e + 1)).data.toList [10] = true
  rw [hd]
  unfold Lib.hasSuffix
  exact List.isSuffixOf_iff_suffix.2 ⟨_, rfl⟩
 ·apply ba_ext
  show (Lib.trimSuffix (s.extract 0 (e + 1)).data.toList [10]).toArray.toList = _
  rw [hd, List.toList_toArray, ByteArray.data_extract, Array.toList_extract, List.extract_eq_take_drop, List.drop_zero, Nat.sub_zero]
  unfold Lib.trimSuffix Lib.hasSuffix
  rw [zC (List.isSuffixOf_iff_suffix.2 ⟨_, rfl⟩)]
  simp
theorem cut_none {s : ByteArray} (hn : ∀ j : Nat, s.data.toList[j]? ≠ some 10) : wholeB (cutB s).1 = false := by
 have hi := indexByte_none _ _ hn
 rw [cutB_neg (by rw [hi]; decide)]
 show Lib.hasSuffix s.data.toList [10] = false
 unfold Lib.hasSuffix
 rw [← Bool.not_eq_true]
 intro h
 obtain ⟨t, ht⟩ := List.isSuffixOf_iff_suffix.1 h
 exact hn t.length (by rw [← ht]; simp)
theorem refwords_calls (s : ByteArray) (w : World) (hs : s.size ≤ 90000) : Calls Tryz.prog 52 #[.string s] w fun e w' => ∃ v0_ : Value, e = .returned (v0_) ∧ Kd.R Kd.string 9 w' w.heap.size (fun _ => True) v0_ (wordsOf s) ∧ Below w.heap.size w w' := by
 obtain ⟨k, hk⟩ := Ev.rounds (refwords_ev s (by omega))
 exact cubbyref08_words.calls k s _ w hk
theorem refread_calls (st : PS) (w0 : ByteArray) (rest : List ByteArray) (hf : w0.toList = st.first.toList) (hh : 1 ≤ st.heads ∧ st.heads ≤ 100) (A : Option Addr) (c : Nat) (w : World) (hr0 : Kd.C Kd.string w A (w0 :: rest).length (w0 :: rest)) (hc0 : (w0 :: rest).length ≤ c) (m : Int) (hm : m = st.heads + 1) :
 Calls Tryz.prog 53 #[.slice A (w0 :: rest).length c, .int .i64 m, .int .i64 0] w fun e w' => ∃ v0_ : Value, e = .returned (.tuple #[v0_, .string (if (topP st (w0 :: rest)).1 = 0 then (topP st (w0 :: rest)).2.name else ⟨#[]⟩), .int .i64 (topP st (w0 :: rest)).1]) ∧ Kd.R (Kd.int .i64) 3 w' w.heap.size (fun _ => True) v0_ (if (topP st (w0 :: rest)).1 = 0 then (topP st (w0 :: rest)).2.head else []) ∧ Below w.heap.size w w' := by
 have he := read_ev (w0 :: rest) (st.heads.toNat + 1) 0 (by omega)
 rw [top_read hf hh.1, show ((st.heads.toNat + 1 : Nat) : Int) = m by omega] at he
 obtain ⟨k, hk⟩ := Ev.rounds he
 by_cases h0 : (topP st (w0 :: rest)).1 = 0
 ·rw [zC h0] at hk
  rw [zC h0, zC h0, h0]
  exact cubbyref08_read.calls k A c (w0 :: rest) m 0 _ _ _ w hr0 hc0 hk
 ·rw [zD h0] at hk
  rw [zD h0, zD h0]
  exact cubbyref08_read.calls k A c (w0 :: rest) m 0 _ _ _ w hr0 hc0 hk
theorem refins_calls (w0 : ByteArray) (rest : List ByteArray) (code : Bool) (hr : rest.length ≤ 95000) (A : Option Addr) (c : Nat) (w : World) (hr0 : Kd.C Kd.string w A (w0 :: rest).length (w0 :: rest)) (hc0 : (w0 :: rest).length ≤ c) (r : Int × SIns) (hri : r = insR (w0 :: rest) code) :
 Calls Tryz.prog 54 #[.slice A (w0 :: rest).length c, .bool code] w fun e w' => ∃ v5_ : Value, e = .returned (.tuple #[.agg #[.int .i64 r.2.f0, .int .i64 r.2.f1, .int .i64 r.2.f2, .int .i64 r.2.f3, .string r.2.f4, v5_], .int .i64 r.1]) ∧ Kd.R (Kd.int .i64) 3 w' w.heap.size (fun _ => True) v5_ r.2.f5 ∧ Below w.heap.size w w' := by
 obtain ⟨k, hk⟩ := Ev.rounds (ins_ev w0 rest code hr)
 rw [← hri] at hk
 exact cubbyref08_ins.calls k A c (w0 :: rest) code _ _ _ _ _ _ _ w hr0 hc0 hk
end Go.Proofs.YtniknpjeknmpjaaGreatDoor.Q
