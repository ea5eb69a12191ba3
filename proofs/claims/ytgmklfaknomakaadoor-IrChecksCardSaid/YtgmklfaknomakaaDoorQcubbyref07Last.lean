/- Lean functions that answer as the Go functions named below do, and the proofs of that. Written by a program out of the translation. -/
import Derived.Test.YtgmklfaknomakaaDoorQ0
namespace Go.Proofs.YtgmklfaknomakaaDoor.Q
open Go.RowKit Go.Proofs.YtgmklfaknomakaaDoorW.PrintWords Go.Proofs.YtgmklfaknomakaaDoorW.PrintLast Go.Proofs.YtgmklfaknomakaaDoorW.PrintMore
attribute [local go_sem] max2_int min2_int max_two min_two max_three min_three max_four min_four   -- for this text's walks alone
set_option linter.unusedVariables false
set_option linter.unusedSimpArgs false

/-! ### cubbyref07_Last: function 17 -/
def cubbyref07_Last.f (a0 : Int) : Option (Bool) := if a0 = 12 then (some true) else (if a0 = 13 then (some true) else (some (a0 == 14)))
set_option maxHeartbeats 8000000 in
set_option maxRecDepth 100000 in
theorem cubbyref07_Last.calls (a0 : Int) (r : Bool) (w : World) (h : cubbyref07_Last.f a0 = some r) :
  Calls Tryd.prog 17 #[.int .i64 a0] w fun e w' => e = .returned (.bool r) ∧ Drawn0 w w' := by
 have H : (if a0 = 12 then (some true) else (if a0 = 13 then (some true) else (some (a0 == 14)))) = some r := h
 clear h
 by_cases c2 : a0 = 12
 ·rw [if_pos c2] at H
  have c2b0 : (a0 == 12) = true := beq_iff_eq.mpr c2
  have c2b1 : (a0 != 12) = false := bne_eq_false_iff_eq.mpr c2
  clear c2
  obtain rfl := Option.some.inj H
  go_enter Tryd.func17, Tryd.ntmps17
  go_wp2
  go_ret
  exact ⟨by first | rfl | (simp; done) | (simp [*]; done), by repeat (first | exact Drawn0.refl _ | apply Drawn0.step)⟩
 ·rw [if_neg c2] at H
  have c2b0 : (a0 == 12) = false := beq_eq_false_iff_ne.mpr c2
  have c2b1 : (a0 != 12) = true := bne_iff_ne.mpr c2
  by_cases c3 : a0 = 13
  ·rw [if_pos c3] at H
   have c3b0 : (a0 == 13) = true := beq_iff_eq.mpr c3
   have c3b1 : (a0 != 13) = false := bne_eq_false_iff_eq.mpr c3
   clear c3
   obtain rfl := Option.some.inj H
   go_enter Tryd.func17, Tryd.ntmps17
   go_wp2
   go_ret
   exact ⟨by first | rfl | (simp; done) | (simp [*]; done), by repeat (first | exact Drawn0.refl _ | apply Drawn0.step)⟩
  ·rw [if_neg c3] at H
   have c3b0 : (a0 == 13) = false := beq_eq_false_iff_ne.mpr c3
   have c3b1 : (a0 != 13) = true := bne_iff_ne.mpr c3
   obtain rfl := Option.some.inj H
   go_enter Tryd.func17, Tryd.ntmps17
   go_wp2
   go_ret
   exact ⟨by first | rfl | (simp; done) | (simp [*]; done), by repeat (first | exact Drawn0.refl _ | apply Drawn0.step)⟩

end Go.Proofs.YtgmklfaknomakaaDoor.Q
