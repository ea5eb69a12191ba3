/- Lean functions that answer as the Go functions named below do, and the proofs of that. Written by a program out of the translation. -/
import Derived.Test.YtbipipbfiekbgaaDoorQ0
import Derived.Test.YtbipipbfiekbgaaDoorSq
import Derived.Test.YtbipipbfiekbgaaDoorQcubbyref07Name
import Derived.Test.YtbipipbfiekbgaaDoorQcubbyref21word
namespace Go.Proofs.YtbipipbfiekbgaaDoor.Q
open Go.RowKit Go.Proofs.YtbipipbfiekbgaaDoorW.PrintWords Go.Proofs.YtbipipbfiekbgaaDoorW.PrintLast Go.Proofs.YtbipipbfiekbgaaDoorW.PrintMore
attribute [local go_sem] max2_int min2_int max_two min_two max_three min_three max_four min_four   -- for this text's walks alone
set_option linter.unusedVariables false
set_option linter.unusedSimpArgs false

/-! ### cubbyref21_Print: function 18 -/
def cubbyref21_Print.f (k : Nat) (a0_0 : Int) (a0_1 : ByteArray) (a0_2 : ByteArray) : Option (ByteArray × Int) := (cubbyref21_word.f a0_0).bind fun t339 => (if t339.toList = ([] : List UInt8) then (some ((⟨#[]⟩ : ByteArray), 210)) else (if a0_0 = 1 then (if t339.size + 1 ≤ 9223372036854775807 then (if (t339 ++ (⟨#[10]⟩ : ByteArray)).size + a0_2.size ≤ 9223372036854775807 then (some ((t339 ++ (⟨#[10]⟩ : ByteArray)) ++ a0_2, 0)) else (none)) else (none)) else (if a0_0 ≤ 6 then ((cubbyref07_Name.f k a0_1).bind fun t340 => (if t340 = true then (if t339.size + 1 ≤ 9223372036854775807 then (if (t339 ++ (⟨#[32]⟩ : ByteArray)).size + a0_1.size ≤ 9223372036854775807 then (some ((t339 ++ (⟨#[32]⟩ : ByteArray)) ++ a0_1, 0)) else (none)) else (none)) else (some ((⟨#[]⟩ : ByteArray), 210)))) else (some (t339, 0)))))
theorem cubbyref21_Print.mono : ∀ a0 a1 a2 k, LeO (cubbyref21_Print.f k a0 a1 a2) (cubbyref21_Print.f (k + 1) a0 a1 a2) := by
 intro a0 a1 a2 k
 unfold cubbyref21_Print.f
 repeat' first | (with_reducible exact cubbyref07_Name.mono _ _) | (with_reducible exact LeO.refl _) | (with_reducible exact LeO.none _) | (with_reducible refine LeO.ite ?_ ?_) | (with_reducible refine LeO.bind ?_ (fun _ => ?_)) | exact LeO.none _ | refine LeO.ite ?_ ?_ | refine LeO.bind ?_ (fun _ => ?_)
set_option maxHeartbeats 8000000 in
set_option maxRecDepth 100000 in
theorem cubbyref21_Print.calls (k : Nat) (a0_0 : Int) (a0_1 : ByteArray) (a0_2 : ByteArray) (r1 : ByteArray) (r2 : Int) (w : World) (h : cubbyref21_Print.f k a0_0 a0_1 a0_2 = some (r1, r2)) :
  Calls Tryd.prog 18 #[.agg #[.int .i64 a0_0, .string a0_1, .string a0_2]] w fun e w' => e = .returned (.tuple #[.string r1, .int .i64 r2]) ∧ Below w.heap.size w w' := by
 have hu43 := Tryd.underlying43
 have HB := Aside0.mk (Below.refl w.heap.size w)
 have H := h; clear h; unfold cubbyref21_Print.f at H
 replace H := qb H; obtain ⟨t339, A2, H⟩ := H
 by_cases c3 : t339.toList = ([] : List UInt8)
 ·rw [if_pos c3] at H
  obtain ⟨c3b0, c3b1⟩ := qe c3; clear c3
  simp only [Option.some.injEq, Prod.mk.injEq] at H
  obtain ⟨rfl, rfl⟩ := H
  go_enter Tryd.func18, Tryd.ntmps18
  go_wp2_with (first | ((with_reducible refine gate_dst (N := 1) rfl ?_); refine box_event (by rfl) (N := 1) (by rfl) (cs := #[.int .i64 a0_0, .string a0_1, .string a0_2]) (t := 43) ?hr ?_; (case hr => first | (go_simp; done) | (go_simp; rfl)); intro gb338 hg w4 hbox hb; have BK338 := Aside0.mk (hbox); have GW338 := qG hg; have GE338 := GW338; replace HB := qH hb; clear hb hbox hg; have z5_0 := bk3 BK338.out) | ((with_reducible refine gate_callee (f := 32) rfl ?_); refine goesL_ (some 7) rfl rfl Tryd.func32 (by kernel_rfl) rfl #[.int .i64 a0_0] rfl qL ?_; (with_reducible refine (cubbyref21_word.calls a0_0 t339 _ A2.out).mono ?_); rintro e w6 ⟨rfl, hb⟩; refine ⟨_, rfl, ?_⟩; replace BK338 := qW BK338 hb; replace HB := qH hb; (try clear hb)))
  go_ret2
  exact ⟨qE, qB⟩
 ·rw [if_neg c3] at H
  obtain ⟨c3b0, c3b1⟩ := qn c3
  by_cases c7 : a0_0 = 1
  ·rw [if_pos c7] at H
   obtain ⟨c7b0, c7b1⟩ := qe c7; clear c7
   by_cases c8 : t339.size + 1 ≤ 9223372036854775807
   ·rw [if_pos c8] at H
    have c8b0 := eq_true c8
    have c8b1 := decide_eq_true c8
    try have c8b2 : (9223372036854775807 < t339.size + 1) = False := eq_false (Nat.not_lt.2 c8)
    by_cases c9 : (t339 ++ (⟨#[10]⟩ : ByteArray)).size + a0_2.size ≤ 9223372036854775807
    ·rw [if_pos c9] at H
     have c9b0 := eq_true c9
     have c9b1 := decide_eq_true c9
     try have c9b2 : (9223372036854775807 < (t339 ++ (⟨#[10]⟩ : ByteArray)).size + a0_2.size) = False := eq_false (Nat.not_lt.2 c9)
     simp only [Option.some.injEq, Prod.mk.injEq] at H
     obtain ⟨rfl, rfl⟩ := H
     go_enter Tryd.func18, Tryd.ntmps18
     go_wp2_with (first | ((with_reducible refine gate_dst (N := 1) rfl ?_); refine box_event (by rfl) (N := 1) (by rfl) (cs := #[.int .i64 a0_0, .string a0_1, .string a0_2]) (t := 43) ?hr ?_; (case hr => first | (go_simp; done) | (go_simp; rfl)); intro gb338 hg w10 hbox hb; have BK338 := Aside0.mk (hbox); have GW338 := qG hg; have GE338 := GW338; replace HB := qH hb; clear hb hbox hg; have z11_0 := bk3 BK338.out) | ((with_reducible refine gate_callee (f := 32) rfl ?_); refine goesL_ (some 7) rfl rfl Tryd.func32 (by kernel_rfl) rfl #[.int .i64 a0_0] rfl qL ?_; (with_reducible refine (cubbyref21_word.calls a0_0 t339 _ A2.out).mono ?_); rintro e w12 ⟨rfl, hb⟩; refine ⟨_, rfl, ?_⟩; replace BK338 := qW BK338 hb; replace HB := qH hb; (try clear hb); have z13_0 := bk3 BK338.out))
     go_ret2
     exact ⟨qE, qB⟩
    ·rw [if_neg c9] at H
     exact absurd H (by simp)
   ·rw [if_neg c8] at H
    exact absurd H (by simp)
  ·rw [if_neg c7] at H
   obtain ⟨c7b0, c7b1⟩ := qn c7
   by_cases c14 : a0_0 ≤ 6
   ·rw [if_pos c14] at H
    have c14b0 := decide_eq_true c14
    clear c14
    replace H := qb H; obtain ⟨t340, A15, H⟩ := H
    by_cases c16 : t340 = true
    ·subst c16
     have H1 : (if t339.size + 1 ≤ 9223372036854775807 then (if (t339 ++ (⟨#[32]⟩ : ByteArray)).size + a0_1.size ≤ 9223372036854775807 then (some ((t339 ++ (⟨#[32]⟩ : ByteArray)) ++ a0_1, 0)) else (none)) else (none)) = some (r1, r2) := by rw [if_pos rfl] at H; exact H
     clear H
     have H := H1
     clear H1
     by_cases c17 : t339.size + 1 ≤ 9223372036854775807
     ·rw [if_pos c17] at H
      have c17b0 := eq_true c17
      have c17b1 := decide_eq_true c17
      try have c17b2 : (9223372036854775807 < t339.size + 1) = False := eq_false (Nat.not_lt.2 c17)
      by_cases c18 : (t339 ++ (⟨#[32]⟩ : ByteArray)).size + a0_1.size ≤ 9223372036854775807
      ·rw [if_pos c18] at H
       have c18b0 := eq_true c18
       have c18b1 := decide_eq_true c18
       try have c18b2 : (9223372036854775807 < (t339 ++ (⟨#[32]⟩ : ByteArray)).size + a0_1.size) = False := eq_false (Nat.not_lt.2 c18)
       simp only [Option.some.injEq, Prod.mk.injEq] at H
       obtain ⟨rfl, rfl⟩ := H
       go_enter Tryd.func18, Tryd.ntmps18
       go_wp2_with (first | ((with_reducible refine gate_dst (N := 1) rfl ?_); refine box_event (by rfl) (N := 1) (by rfl) (cs := #[.int .i64 a0_0, .string a0_1, .string a0_2]) (t := 43) ?hr ?_; (case hr => first | (go_simp; done) | (go_simp; rfl)); intro gb338 hg w19 hbox hb; have BK338 := Aside0.mk (hbox); have GW338 := qG hg; have GE338 := GW338; replace HB := qH hb; clear hb hbox hg; have z20_0 := bk3 BK338.out) | ((with_reducible refine gate_callee (f := 32) rfl ?_); refine goesL_ (some 7) rfl rfl Tryd.func32 (by kernel_rfl) rfl #[.int .i64 a0_0] rfl qL ?_; (with_reducible refine (cubbyref21_word.calls a0_0 t339 _ A2.out).mono ?_); rintro e w21 ⟨rfl, hb⟩; refine ⟨_, rfl, ?_⟩; replace BK338 := qW BK338 hb; replace HB := qH hb; (try clear hb); have z22_0 := bk3 BK338.out) | ((with_reducible refine gate_callee (f := 16) rfl ?_); refine goesL_ (some 26) rfl rfl Tryd.func16 (by kernel_rfl) rfl #[.string a0_1] rfl qL ?_; (with_reducible refine (cubbyref07_Name.calls k a0_1 true _ A15.out).mono ?_); rintro e w' ⟨rfl, ⟨nd, rfl⟩⟩; refine ⟨_, rfl, ?_⟩))
       go_ret2
       exact ⟨qE, qB⟩
      ·rw [if_neg c18] at H
       exact absurd H (by simp)
     ·rw [if_neg c17] at H
      exact absurd H (by simp)
    ·replace c16 := Bool.eq_false_iff.mpr c16
     subst c16
     have H1 : (some ((⟨#[]⟩ : ByteArray), 210)) = some (r1, r2) := by rw [if_neg (show ¬ (false = true) by decide)] at H; exact H
     clear H
     have H := H1
     clear H1
     simp only [Option.some.injEq, Prod.mk.injEq] at H
     obtain ⟨rfl, rfl⟩ := H
     go_enter Tryd.func18, Tryd.ntmps18
     go_wp2_with (first | ((with_reducible refine gate_dst (N := 1) rfl ?_); refine box_event (by rfl) (N := 1) (by rfl) (cs := #[.int .i64 a0_0, .string a0_1, .string a0_2]) (t := 43) ?hr ?_; (case hr => first | (go_simp; done) | (go_simp; rfl)); intro gb338 hg w23 hbox hb; have BK338 := Aside0.mk (hbox); have GW338 := qG hg; have GE338 := GW338; replace HB := qH hb; clear hb hbox hg; have z24_0 := bk3 BK338.out) | ((with_reducible refine gate_callee (f := 32) rfl ?_); refine goesL_ (some 7) rfl rfl Tryd.func32 (by kernel_rfl) rfl #[.int .i64 a0_0] rfl qL ?_; (with_reducible refine (cubbyref21_word.calls a0_0 t339 _ A2.out).mono ?_); rintro e w25 ⟨rfl, hb⟩; refine ⟨_, rfl, ?_⟩; replace BK338 := qW BK338 hb; replace HB := qH hb; (try clear hb); have z26_0 := bk3 BK338.out) | ((with_reducible refine gate_callee (f := 16) rfl ?_); refine goesL_ (some 26) rfl rfl Tryd.func16 (by kernel_rfl) rfl #[.string a0_1] rfl qL ?_; (with_reducible refine (cubbyref07_Name.calls k a0_1 false _ A15.out).mono ?_); rintro e w' ⟨rfl, ⟨nd, rfl⟩⟩; refine ⟨_, rfl, ?_⟩))
     go_ret2
     exact ⟨qE, qB⟩
   ·rw [if_neg c14] at H
    have c14b0 := decide_eq_false c14
    clear c14
    simp only [Option.some.injEq, Prod.mk.injEq] at H
    obtain ⟨rfl, rfl⟩ := H
    go_enter Tryd.func18, Tryd.ntmps18
    go_wp2_with (first | ((with_reducible refine gate_dst (N := 1) rfl ?_); refine box_event (by rfl) (N := 1) (by rfl) (cs := #[.int .i64 a0_0, .string a0_1, .string a0_2]) (t := 43) ?hr ?_; (case hr => first | (go_simp; done) | (go_simp; rfl)); intro gb338 hg w27 hbox hb; have BK338 := Aside0.mk (hbox); have GW338 := qG hg; have GE338 := GW338; replace HB := qH hb; clear hb hbox hg; have z28_0 := bk3 BK338.out) | ((with_reducible refine gate_callee (f := 32) rfl ?_); refine goesL_ (some 7) rfl rfl Tryd.func32 (by kernel_rfl) rfl #[.int .i64 a0_0] rfl qL ?_; (with_reducible refine (cubbyref21_word.calls a0_0 t339 _ A2.out).mono ?_); rintro e w29 ⟨rfl, hb⟩; refine ⟨_, rfl, ?_⟩; replace BK338 := qW BK338 hb; replace HB := qH hb; (try clear hb); have z30_0 := bk3 BK338.out))
    go_ret2
    exact ⟨qE, qB⟩

end Go.Proofs.YtbipipbfiekbgaaDoor.Q
