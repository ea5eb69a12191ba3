/- Lean functions that answer as the Go functions named below do, and the proofs of that. Written by a program out of the translation. -/
import Derived.Test.YtbipipbfiekbgaaDoorQ0
import Derived.Test.YtbipipbfiekbgaaDoorSq
namespace Go.Proofs.YtbipipbfiekbgaaDoor.Q
open Go.RowKit Go.Proofs.YtbipipbfiekbgaaDoorW.PrintWords Go.Proofs.YtbipipbfiekbgaaDoorW.PrintLast Go.Proofs.YtbipipbfiekbgaaDoorW.PrintMore
attribute [local go_sem] max2_int min2_int max_two min_two max_three min_three max_four min_four   -- for this text's walks alone
set_option linter.unusedVariables false
set_option linter.unusedSimpArgs false

/-! ### ask_word: function 31 -/
def ask_word.f (a0 : Int) : Option (ByteArray) := if a0 = 1 then (some (⟨#[115, 117, 98, 109, 105, 116]⟩ : ByteArray)) else (if a0 = 2 then (some (⟨#[98, 117, 105, 108, 100]⟩ : ByteArray)) else (if a0 = 3 then (some (⟨#[102, 101, 116, 99, 104]⟩ : ByteArray)) else (if a0 = 4 then (some (⟨#[100, 114, 111, 112]⟩ : ByteArray)) else (if a0 = 5 then (some (⟨#[112, 105, 110]⟩ : ByteArray)) else (if a0 = 6 then (some (⟨#[117, 110, 112, 105, 110]⟩ : ByteArray)) else (if a0 = 7 then (some (⟨#[101, 118, 105, 99, 116]⟩ : ByteArray)) else (if a0 = 8 then (some (⟨#[114, 101, 99, 104, 101, 99, 107]⟩ : ByteArray)) else (if a0 = 9 then (some (⟨#[115, 116, 97, 116, 115]⟩ : ByteArray)) else (some (⟨#[]⟩ : ByteArray))))))))))
set_option maxHeartbeats 8000000 in
set_option maxRecDepth 100000 in
theorem ask_word.calls (a0 : Int) (r : ByteArray) (w : World) (h : ask_word.f a0 = some r) :
  Calls Tryd.prog 31 #[.int .i64 a0] w fun e w' => e = .returned (.string r) ∧ Drawn0 w w' := by
 have H := h; clear h; unfold ask_word.f at H
 by_cases c2 : a0 = 1
 ·rw [if_pos c2] at H
  obtain ⟨c2b0, c2b1⟩ := qe c2; clear c2
  obtain rfl := Option.some.inj H
  go_enter Tryd.func31, Tryd.ntmps31
  go_wp2
  go_ret
  exact ⟨by first | rfl | (simp; done) | (simp [*]; done), qD⟩
 ·rw [if_neg c2] at H
  obtain ⟨c2b0, c2b1⟩ := qn c2
  by_cases c3 : a0 = 2
  ·rw [if_pos c3] at H
   obtain ⟨c3b0, c3b1⟩ := qe c3; clear c3
   obtain rfl := Option.some.inj H
   go_enter Tryd.func31, Tryd.ntmps31
   go_wp2
   go_ret
   exact ⟨by first | rfl | (simp; done) | (simp [*]; done), qD⟩
  ·rw [if_neg c3] at H
   obtain ⟨c3b0, c3b1⟩ := qn c3
   by_cases c4 : a0 = 3
   ·rw [if_pos c4] at H
    obtain ⟨c4b0, c4b1⟩ := qe c4; clear c4
    obtain rfl := Option.some.inj H
    go_enter Tryd.func31, Tryd.ntmps31
    go_wp2
    go_ret
    exact ⟨by first | rfl | (simp; done) | (simp [*]; done), qD⟩
   ·rw [if_neg c4] at H
    obtain ⟨c4b0, c4b1⟩ := qn c4
    by_cases c5 : a0 = 4
    ·rw [if_pos c5] at H
     obtain ⟨c5b0, c5b1⟩ := qe c5; clear c5
     obtain rfl := Option.some.inj H
     go_enter Tryd.func31, Tryd.ntmps31
     go_wp2
     go_ret
     exact ⟨by first | rfl | (simp; done) | (simp [*]; done), qD⟩
    ·rw [if_neg c5] at H
     obtain ⟨c5b0, c5b1⟩ := qn c5
     by_cases c6 : a0 = 5
     ·rw [if_pos c6] at H
      obtain ⟨c6b0, c6b1⟩ := qe c6; clear c6
      obtain rfl := Option.some.inj H
      go_enter Tryd.func31, Tryd.ntmps31
      go_wp2
      go_ret
      exact ⟨by first | rfl | (simp; done) | (simp [*]; done), qD⟩
     ·rw [if_neg c6] at H
      obtain ⟨c6b0, c6b1⟩ := qn c6
      by_cases c7 : a0 = 6
      ·rw [if_pos c7] at H
       obtain ⟨c7b0, c7b1⟩ := qe c7; clear c7
       obtain rfl := Option.some.inj H
       go_enter Tryd.func31, Tryd.ntmps31
       go_wp2
       go_ret
       exact ⟨by first | rfl | (simp; done) | (simp [*]; done), qD⟩
      ·rw [if_neg c7] at H
       obtain ⟨c7b0, c7b1⟩ := qn c7
       by_cases c8 : a0 = 7
       ·rw [if_pos c8] at H
        obtain ⟨c8b0, c8b1⟩ := qe c8; clear c8
        obtain rfl := Option.some.inj H
        go_enter Tryd.func31, Tryd.ntmps31
        go_wp2
        go_ret
        exact ⟨by first | rfl | (simp; done) | (simp [*]; done), qD⟩
       ·rw [if_neg c8] at H
        obtain ⟨c8b0, c8b1⟩ := qn c8
        by_cases c9 : a0 = 8
        ·rw [if_pos c9] at H
         obtain ⟨c9b0, c9b1⟩ := qe c9; clear c9
         obtain rfl := Option.some.inj H
         go_enter Tryd.func31, Tryd.ntmps31
         go_wp2
         go_ret
         exact ⟨by first | rfl | (simp; done) | (simp [*]; done), qD⟩
        ·rw [if_neg c9] at H
         obtain ⟨c9b0, c9b1⟩ := qn c9
         by_cases c10 : a0 = 9
         ·rw [if_pos c10] at H
          obtain ⟨c10b0, c10b1⟩ := qe c10; clear c10
          obtain rfl := Option.some.inj H
          go_enter Tryd.func31, Tryd.ntmps31
          go_wp2
          go_ret
          exact ⟨by first | rfl | (simp; done) | (simp [*]; done), qD⟩
         ·rw [if_neg c10] at H
          obtain ⟨c10b0, c10b1⟩ := qn c10
          obtain rfl := Option.some.inj H
          go_enter Tryd.func31, Tryd.ntmps31
          go_wp2
          go_ret
          exact ⟨by first | rfl | (simp; done) | (simp [*]; done), qD⟩

end Go.Proofs.YtbipipbfiekbgaaDoor.Q
