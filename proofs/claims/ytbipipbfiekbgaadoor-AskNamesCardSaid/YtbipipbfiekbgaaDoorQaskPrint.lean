/- Lean functions that answer as the Go functions named below do, and the proofs of that. Written by a program out of the translation. -/
import Derived.Test.YtbipipbfiekbgaaDoorQ0
import Derived.Test.YtbipipbfiekbgaaDoorSq
import Derived.Test.YtbipipbfiekbgaaDoorQaskword
import Derived.Test.YtbipipbfiekbgaaDoorQirName
namespace Go.Proofs.YtbipipbfiekbgaaDoor.Q
open Go.RowKit Go.Proofs.YtbipipbfiekbgaaDoorW.PrintWords Go.Proofs.YtbipipbfiekbgaaDoorW.PrintLast Go.Proofs.YtbipipbfiekbgaaDoorW.PrintMore
attribute [local go_sem] max2_int min2_int max_two min_two max_three min_three max_four min_four   -- for this text's walks alone
set_option linter.unusedVariables false
set_option linter.unusedSimpArgs false

/-! ### ask_Print: function 17 -/
def ask_Print.j0 : Nat → ByteArray → Bool → Int → ByteArray → ByteArray → Option (ByteArray × Int)
 | 0, _, _, _, _, _ => none
 | k + 1, x4, x8, x365000, x365001, x365002 => if x8 = true then (some ((⟨#[]⟩ : ByteArray), 210)) else (if x365000 = 1 then (if x4.size + 1 ≤ 9223372036854775807 then (if (x4 ++ (⟨#[10]⟩ : ByteArray)).size + x365002.size ≤ 9223372036854775807 then (some ((x4 ++ (⟨#[10]⟩ : ByteArray)) ++ x365002, 0)) else (none)) else (none)) else (if x365000 < 7 then (if x4.size + 1 ≤ 9223372036854775807 then (if (x4 ++ (⟨#[32]⟩ : ByteArray)).size + x365001.size ≤ 9223372036854775807 then (some ((x4 ++ (⟨#[32]⟩ : ByteArray)) ++ x365001, 0)) else (none)) else (none)) else (some (x4, 0))))
def ask_Print.f (k : Nat) (a0_0 : Int) (a0_1 : ByteArray) (a0_2 : ByteArray) : Option (ByteArray × Int) := (ask_word.f a0_0).bind fun t365 => (if t365.toList = ([] : List UInt8) then (ask_Print.j0 k t365 true a0_0 a0_1 a0_2) else (if a0_0 > 1 then (if a0_0 < 7 then ((ir_Name.f a0_1).bind fun t366 => (ask_Print.j0 k t365 (!t366) a0_0 a0_1 a0_2)) else (ask_Print.j0 k t365 false a0_0 a0_1 a0_2)) else (ask_Print.j0 k t365 false a0_0 a0_1 a0_2)))
theorem ask_Print.mono_l : ∀ k, (∀ y0 y1 y2 y3 y4, LeO (ask_Print.j0 k y0 y1 y2 y3 y4) (ask_Print.j0 (k + 1) y0 y1 y2 y3 y4))
 | 0 => fun _ _ _ _ _ r h => by simp [ask_Print.j0] at h
 | k + 1 => by
  have ih0 := ask_Print.mono_l k
  ·intro y0 y1 y2 y3 y4
   unfold ask_Print.j0
   repeat' first | (with_reducible exact ih0 _ _ _ _ _) | (with_reducible exact LeO.refl _) | (with_reducible exact LeO.none _) | (with_reducible refine LeO.ite ?_ ?_) | (with_reducible refine LeO.bind ?_ (fun _ => ?_)) | exact LeO.none _ | refine LeO.ite ?_ ?_ | refine LeO.bind ?_ (fun _ => ?_)
theorem ask_Print.mono : ∀ a0 a1 a2 k, LeO (ask_Print.f k a0 a1 a2) (ask_Print.f (k + 1) a0 a1 a2) := by
 intro a0 a1 a2 k
 have ih0 := ask_Print.mono_l k
 unfold ask_Print.f
 repeat' first | (with_reducible exact ih0 _ _ _ _ _) | (with_reducible exact LeO.refl _) | (with_reducible exact LeO.none _) | (with_reducible refine LeO.ite ?_ ?_) | (with_reducible refine LeO.bind ?_ (fun _ => ?_)) | exact LeO.none _ | refine LeO.ite ?_ ?_ | refine LeO.bind ?_ (fun _ => ?_)
set_option maxHeartbeats 8000000 in
set_option maxRecDepth 100000 in
theorem ask_Print.calls (k : Nat) (a0_0 : Int) (a0_1 : ByteArray) (a0_2 : ByteArray) (r1 : ByteArray) (r2 : Int) (w : World) (h : ask_Print.f k a0_0 a0_1 a0_2 = some (r1, r2)) :
  Calls Tryd.prog 17 #[.agg #[.int .i64 a0_0, .string a0_1, .string a0_2]] w fun e w' => e = .returned (.tuple #[.string r1, .int .i64 r2]) ∧ Below w.heap.size w w' := by
 have hu40 := Tryd.underlying40
 have HB := Aside0.mk (Below.refl w.heap.size w)
 have H := h; clear h; unfold ask_Print.f at H
 replace H := qb H; obtain ⟨t365, A2, H⟩ := H
 have HC3 := Aside0.mk H
 clear H
 go_enter Tryd.func17, Tryd.ntmps17
 go_upto_region 2 with (first | ((with_reducible refine gate_dst (N := 1) rfl ?_); refine box_event (by rfl) (N := 1) (by rfl) (cs := #[.int .i64 a0_0, .string a0_1, .string a0_2]) (t := 40) ?hr ?_; (case hr => first | (go_simp; done) | (go_simp; rfl)); intro gb364 hg w4 hbox hb; have BK364 := Aside0.mk (hbox); have GW364 := qG hg; have GE364 := GW364; replace HB := qH hb; clear hb hbox hg; have z5_0 := bk3 BK364.out) | ((with_reducible refine gate_callee (f := 31) rfl ?_); refine goesL_ (some 7) rfl rfl Tryd.func31 (by kernel_rfl) rfl #[.int .i64 a0_0] rfl qL ?_; (with_reducible refine (ask_word.calls a0_0 t365 _ A2.out).mono ?_); rintro e w' ⟨rfl, ⟨nd, rfl⟩⟩; refine ⟨_, rfl, ?_⟩))
 (try simp only [Act.put, List.setIfInBounds_toArray, List.set_cons_zero, List.set_cons_succ])
 go_cut [8] (fun v8 wc => ∃ (kq : Nat) (x8_2 : Bool), v8 = .bool x8_2 ∧ Aside0 (ask_Print.j0 kq t365 x8_2 a0_0 a0_1 a0_2 = some (r1, r2)) ∧ Aside0 (kq ≤ k) ∧ Aside0 (wc.heap[gb364]? = some (.cells #[.int .i64 a0_0, .string a0_1, .string a0_2] 40 (0, 0))) ∧ Aside0 (Below w.heap.size w wc))
 case first =>
  have H := HC3.out
  clear HC3
  by_cases c6 : t365.toList = ([] : List UInt8)
  ·rw [if_pos c6] at H
   obtain ⟨c6b0, c6b1⟩ := qe c6; clear c6
   (first | rw [c6b0] | (simp only [i64_w, i32_w]; rw [c6b0]) | skip)
   have H' := Aside0.mk H
   clear H
   go_wp2
   go_meet
   case rel => exact ⟨_, (true), qT, H', ⟨qO⟩, ⟨qK BK364.out⟩, ⟨qB⟩⟩
  ·rw [if_neg c6] at H
   obtain ⟨c6b0, c6b1⟩ := qn c6
   (first | rw [c6b0] | (simp only [i64_w, i32_w]; rw [c6b0]) | skip)
   by_cases c7 : a0_0 > 1
   ·rw [if_pos c7] at H
    have c7b0 : decide (1 < a0_0) = true := decide_eq_true c7
    clear c7
    by_cases c8 : a0_0 < 7
    ·rw [if_pos c8] at H
     have c8b0 := decide_eq_true c8
     clear c8
     replace H := qb H; obtain ⟨t366, A9, H⟩ := H
     have H' := Aside0.mk H
     clear H
     have z10_0 := bk3 BK364.out
     go_wp2_with (first | (go_at_call 21; (with_reducible refine (ir_Name.calls a0_1 t366 _ A9.out).mono ?_); (try clear A9); rintro e w11 ⟨rfl, hb⟩; replace BK364 := qW BK364 hb; replace HB := qH hb; (try clear hb)))
     go_meet
     case rel => exact ⟨_, (!t366), qT, H', ⟨qO⟩, ⟨qK BK364.out⟩, ⟨qB⟩⟩
    ·rw [if_neg c8] at H
     have c8b0 := decide_eq_false c8
     clear c8
     have H' := Aside0.mk H
     clear H
     have z12_0 := bk3 BK364.out
     go_wp2
     go_meet
     case rel => exact ⟨_, (false), qT, H', ⟨qO⟩, ⟨qK BK364.out⟩, ⟨qB⟩⟩
   ·rw [if_neg c7] at H
    have c7b0 : decide (1 < a0_0) = false := decide_eq_false c7
    clear c7
    have H' := Aside0.mk H
    clear H
    have z13_0 := bk3 BK364.out
    go_wp2
    go_meet
    case rel => exact ⟨_, (false), qT, H', ⟨qO⟩, ⟨qK BK364.out⟩, ⟨qB⟩⟩
 case rest =>
  clear HC3
  try clear c1; try clear p2; try clear c3; try clear c6; try clear c6b0 c6b1; try clear c7; try clear c7b0; try clear c8; try clear c8b0; try clear z10_0; try clear z12_0; try clear z13_0; try clear z5_0
  obtain ⟨kq, x8_2, rfl, HA, HJ2, BK364, HB⟩ := hcut
  cases kq with
  | zero => exact absurd HA.out (by simp [ask_Print.j0])
  | succ kj2 =>
   have H := HA.out
   clear HA
   simp only [ask_Print.j0] at H
   by_cases c14 : x8_2 = true
   ·subst c14
    have H1 : (some ((⟨#[]⟩ : ByteArray), 210)) = some (r1, r2) := by rw [if_pos rfl] at H; exact H
    clear H
    have H := H1
    clear H1
    simp only [Option.some.injEq, Prod.mk.injEq] at H
    obtain ⟨rfl, rfl⟩ := H
    go_wp2
    go_ret2
    exact ⟨qE, qB⟩
   ·replace c14 := Bool.eq_false_iff.mpr c14
    subst c14
    have H1 : (if a0_0 = 1 then (if t365.size + 1 ≤ 9223372036854775807 then (if (t365 ++ (⟨#[10]⟩ : ByteArray)).size + a0_2.size ≤ 9223372036854775807 then (some ((t365 ++ (⟨#[10]⟩ : ByteArray)) ++ a0_2, 0)) else (none)) else (none)) else (if a0_0 < 7 then (if t365.size + 1 ≤ 9223372036854775807 then (if (t365 ++ (⟨#[32]⟩ : ByteArray)).size + a0_1.size ≤ 9223372036854775807 then (some ((t365 ++ (⟨#[32]⟩ : ByteArray)) ++ a0_1, 0)) else (none)) else (none)) else (some (t365, 0)))) = some (r1, r2) := by rw [if_neg (show ¬ (false = true) by decide)] at H; exact H
    clear H
    have H := H1
    clear H1
    by_cases c15 : a0_0 = 1
    ·rw [if_pos c15] at H
     obtain ⟨c15b0, c15b1⟩ := qe c15; clear c15
     by_cases c16 : t365.size + 1 ≤ 9223372036854775807
     ·rw [if_pos c16] at H
      have c16b0 := eq_true c16
      have c16b1 := decide_eq_true c16
      try have c16b2 : (9223372036854775807 < t365.size + 1) = False := eq_false (Nat.not_lt.2 c16)
      by_cases c17 : (t365 ++ (⟨#[10]⟩ : ByteArray)).size + a0_2.size ≤ 9223372036854775807
      ·rw [if_pos c17] at H
       have c17b0 := eq_true c17
       have c17b1 := decide_eq_true c17
       try have c17b2 : (9223372036854775807 < (t365 ++ (⟨#[10]⟩ : ByteArray)).size + a0_2.size) = False := eq_false (Nat.not_lt.2 c17)
       simp only [Option.some.injEq, Prod.mk.injEq] at H
       obtain ⟨rfl, rfl⟩ := H
       have z18_0 := bk3 BK364.out
       go_wp2
       go_ret2
       exact ⟨qE, qB⟩
      ·rw [if_neg c17] at H
       exact absurd H (by simp)
     ·rw [if_neg c16] at H
      exact absurd H (by simp)
    ·rw [if_neg c15] at H
     obtain ⟨c15b0, c15b1⟩ := qn c15
     by_cases c19 : a0_0 < 7
     ·rw [if_pos c19] at H
      have c19b0 := decide_eq_true c19
      clear c19
      by_cases c20 : t365.size + 1 ≤ 9223372036854775807
      ·rw [if_pos c20] at H
       have c20b0 := eq_true c20
       have c20b1 := decide_eq_true c20
       try have c20b2 : (9223372036854775807 < t365.size + 1) = False := eq_false (Nat.not_lt.2 c20)
       by_cases c21 : (t365 ++ (⟨#[32]⟩ : ByteArray)).size + a0_1.size ≤ 9223372036854775807
       ·rw [if_pos c21] at H
        have c21b0 := eq_true c21
        have c21b1 := decide_eq_true c21
        try have c21b2 : (9223372036854775807 < (t365 ++ (⟨#[32]⟩ : ByteArray)).size + a0_1.size) = False := eq_false (Nat.not_lt.2 c21)
        simp only [Option.some.injEq, Prod.mk.injEq] at H
        obtain ⟨rfl, rfl⟩ := H
        have z22_0 := bk3 BK364.out
        go_wp2
        go_ret2
        exact ⟨qE, qB⟩
       ·rw [if_neg c21] at H
        exact absurd H (by simp)
      ·rw [if_neg c20] at H
       exact absurd H (by simp)
     ·rw [if_neg c19] at H
      have c19b0 := decide_eq_false c19
      clear c19
      simp only [Option.some.injEq, Prod.mk.injEq] at H
      obtain ⟨rfl, rfl⟩ := H
      have z23_0 := bk3 BK364.out
      go_wp2
      go_ret2
      exact ⟨qE, qB⟩

end Go.Proofs.YtbipipbfiekbgaaDoor.Q
