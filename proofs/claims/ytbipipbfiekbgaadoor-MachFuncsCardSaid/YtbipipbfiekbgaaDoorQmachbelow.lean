/- Lean functions that answer as the Go functions named below do, and the proofs of that. Written by a program out of the translation. -/
import Derived.Test.YtbipipbfiekbgaaDoorQ0
import Derived.Test.YtbipipbfiekbgaaDoorSq
namespace Go.Proofs.YtbipipbfiekbgaaDoor.Q
open Go.RowKit Go.Proofs.YtbipipbfiekbgaaDoorW.PrintWords Go.Proofs.YtbipipbfiekbgaaDoorW.PrintLast Go.Proofs.YtbipipbfiekbgaaDoorW.PrintMore
attribute [local go_sem] max2_int min2_int max_two min_two max_three min_three max_four min_four   -- for this text's walks alone
set_option linter.unusedVariables false
set_option linter.unusedSimpArgs false

/-! ### mach_below: function 22 -/
def mach_below.f (a0 : Int) (a1 : Int) : Option (Bool) := if a0 ≥ 0 then (some (decide (a0 < a1))) else (some false)
set_option maxHeartbeats 8000000 in
set_option maxRecDepth 100000 in
theorem mach_below.calls (a0 : Int) (a1 : Int) (r : Bool) (w : World) (h : mach_below.f a0 a1 = some r) :
  Calls Tryd.prog 22 #[.int .i64 a0, .int .i64 a1] w fun e w' => e = .returned (.bool r) ∧ Drawn0 w w' := by
 have H := h; clear h; unfold mach_below.f at H
 by_cases c3 : a0 ≥ 0
 ·rw [if_pos c3] at H
  have c3b0 : decide (0 ≤ a0) = true := decide_eq_true c3
  clear c3
  obtain rfl := Option.some.inj H
  go_enter Tryd.func22, Tryd.ntmps22
  go_wp2
  go_ret
  exact ⟨by first | rfl | (simp; done) | (simp [*]; done), qD⟩
 ·rw [if_neg c3] at H
  have c3b0 : decide (0 ≤ a0) = false := decide_eq_false c3
  clear c3
  obtain rfl := Option.some.inj H
  go_enter Tryd.func22, Tryd.ntmps22
  go_wp2
  go_ret
  exact ⟨by first | rfl | (simp; done) | (simp [*]; done), qD⟩

end Go.Proofs.YtbipipbfiekbgaaDoor.Q
