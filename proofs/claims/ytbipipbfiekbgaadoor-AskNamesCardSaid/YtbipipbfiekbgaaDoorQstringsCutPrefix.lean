/- Lean functions that answer as the Go functions named below do, and the proofs of that. Written by a program out of the translation. -/
import Derived.Test.YtbipipbfiekbgaaDoorQ0
import Derived.Test.YtbipipbfiekbgaaDoorSq
import Derived.Test.YtbipipbfiekbgaaDoorQstringsliteCutPrefix
namespace Go.Proofs.YtbipipbfiekbgaaDoor.Q
open Go.RowKit Go.Proofs.YtbipipbfiekbgaaDoorW.PrintWords Go.Proofs.YtbipipbfiekbgaaDoorW.PrintLast Go.Proofs.YtbipipbfiekbgaaDoorW.PrintMore
attribute [local go_sem] max2_int min2_int max_two min_two max_three min_three max_four min_four   -- for this text's walks alone
set_option linter.unusedVariables false
set_option linter.unusedSimpArgs false

/-! ### strings_CutPrefix: function 29 -/
def strings_CutPrefix.f (a0 : ByteArray) (a1 : ByteArray) : Option (ByteArray × Bool) := (stringslite_CutPrefix.f a0 a1).bind fun bt322 => (some (bt322.1, bt322.2))
set_option maxHeartbeats 8000000 in
set_option maxRecDepth 100000 in
theorem strings_CutPrefix.calls (a0 : ByteArray) (a1 : ByteArray) (r1 : ByteArray) (r2 : Bool) (w : World) (h : strings_CutPrefix.f a0 a1 = some (r1, r2)) :
  Calls Tryd.prog 29 #[.string a0, .string a1] w fun e w' => e = .returned (.tuple #[.string r1, .bool r2]) ∧ Drawn0 w w' := by
 have H := h; clear h; unfold strings_CutPrefix.f at H
 replace H := Option.bind_eq_some_iff.mp H
 obtain ⟨⟨t322, t323⟩, A30, H⟩ := H
 replace H : (some (t322, t323)) = some (r1, r2) := H
 have A3 := Aside0.mk A30
 clear A30
 simp only [Option.some.injEq, Prod.mk.injEq] at H
 obtain ⟨rfl, rfl⟩ := H
 go_enter Tryd.func29, Tryd.ntmps29
 go_wp2_with (first | ((with_reducible refine gate_callee (f := 43) rfl ?_); refine goesL_ (some 8) rfl rfl Tryd.func43 (by kernel_rfl) rfl #[.string a0, .string a1] rfl qL ?_; (with_reducible refine (stringslite_CutPrefix.calls a0 a1 t322 t323 _ A3.out).mono ?_); rintro e w' ⟨rfl, ⟨nd, rfl⟩⟩; refine ⟨_, rfl, ?_⟩))
 go_ret2
 exact ⟨by first | rfl | (simp; done) | (simp [*]; done), qD⟩

end Go.Proofs.YtbipipbfiekbgaaDoor.Q
