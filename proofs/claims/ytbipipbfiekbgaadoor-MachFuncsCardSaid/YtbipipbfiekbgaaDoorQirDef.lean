/- Lean functions that answer as the Go functions named below do, and the proofs of that. Written by a program out of the translation. -/
import Derived.Test.YtbipipbfiekbgaaDoorQ0
import Derived.Test.YtbipipbfiekbgaaDoorSq
import Derived.Test.YtbipipbfiekbgaaDoorLaid
namespace Go.Proofs.YtbipipbfiekbgaaDoor.Q
open Go.RowKit Go.Proofs.YtbipipbfiekbgaaDoorW.PrintWords Go.Proofs.YtbipipbfiekbgaaDoorW.PrintLast Go.Proofs.YtbipipbfiekbgaaDoorW.PrintMore
attribute [local go_sem] max2_int min2_int max_two min_two max_three min_three max_four min_four   -- for this text's walks alone
set_option linter.unusedVariables false
set_option linter.unusedSimpArgs false

/-! ### ir_Def: function 28 -/
def ir_Def.f (a0_0 : Int) (a0_1 : Int) (a0_2 : Int) (a0_3 : Int) (a0_4 : ByteArray) (l0_5 : List Int) : Option (Int) := (ir_shape.f a0_0).bind fun t307 => (if t307.toList = ([] : List UInt8) then (some (-1)) else (if 0 < (t307.size : Int) then (if (bt t307 0) = 114 then (some a0_1) else (some (-1))) else (none)))
set_option maxHeartbeats 8000000 in
set_option maxRecDepth 100000 in
theorem ir_Def.calls (a0_0 : Int) (a0_1 : Int) (a0_2 : Int) (a0_3 : Int) (a0_4 : ByteArray) (A0_5 : Option Addr) (c0_5 : Nat) (l0_5 : List Int) (r : Int) (w : World) (hL : LaidW w) (hr0_5 : Kd.C (Kd.int .i64) w A0_5 l0_5.length l0_5) (hc0_5 : l0_5.length ≤ c0_5) (h : ir_Def.f a0_0 a0_1 a0_2 a0_3 a0_4 l0_5 = some r) :
  Calls Tryd.prog 28 #[.agg #[.int .i64 a0_0, .int .i64 a0_1, .int .i64 a0_2, .int .i64 a0_3, .string a0_4, .slice A0_5 l0_5.length c0_5]] w fun e w' => e = .returned (.int .i64 r) ∧ Below w.heap.size w w' := by
 have hu31 := Tryd.underlying31
 have HR0_5 := Aside0.mk hr0_5
 have HC0_5 := Aside0.mk hc0_5
 clear hr0_5 hc0_5
 have HB := Aside0.mk (Below.refl w.heap.size w)
 have HLd := Aside0.mk hL
 clear hL
 have H := h; clear h; unfold ir_Def.f at H
 replace H := qb H; obtain ⟨t307, A2, H⟩ := H
 by_cases c3 : t307.toList = ([] : List UInt8)
 ·rw [if_pos c3] at H
  obtain ⟨c3b0, c3b1⟩ := qe c3; clear c3
  obtain rfl := Option.some.inj H
  go_enter Tryd.func28, Tryd.ntmps28
  go_wp2_with (first | ((with_reducible refine gate_dst (N := 1) rfl ?_); refine box_event (by rfl) (N := 1) (by rfl) (cs := #[.int .i64 a0_0, .int .i64 a0_1, .int .i64 a0_2, .int .i64 a0_3, .string a0_4, .slice A0_5 l0_5.length c0_5]) (t := 31) ?hr ?_; (case hr => first | (go_simp; done) | (go_simp; rfl)); intro gb306 hg w4 hbox hb; have BK306 := Aside0.mk (hbox); have GW306 := qG hg; have GE306 := GW306; replace HB := qH hb; clear hb hbox hg; have z5_0 := bk6 BK306.out) | ((with_reducible refine gate_callee (f := 42) rfl ?_); refine goesL_ (some 6) rfl rfl Tryd.func42 (by kernel_rfl) rfl #[.int .i64 a0_0] rfl qL ?_; (with_reducible refine (ir_shape.calls a0_0 t307 _ A2.out (hL := ?side99)).mono ?_); (case side99 => exact LaidW.below HLd.out qB); rintro e w' ⟨rfl, ⟨nd, rfl⟩⟩; refine ⟨_, rfl, ?_⟩))
  go_ret
  exact ⟨qE, qB⟩
 ·rw [if_neg c3] at H
  obtain ⟨c3b0, c3b1⟩ := qn c3
  by_cases c6 : 0 < (t307.size : Int)
  ·rw [if_pos c6] at H
   have c6b0 := decide_eq_true c6
   have c6b1 : decide (0 < t307.size) = true := decide_eq_true (by omega)
   clear c6
   by_cases c8 : (bt t307 0) = 114
   ·rw [if_pos c8] at H
    obtain ⟨c8b0, c8b1⟩ := qe c8; clear c8
    obtain rfl := Option.some.inj H
    go_enter Tryd.func28, Tryd.ntmps28
    go_wp2_with (first | ((with_reducible refine gate_dst (N := 1) rfl ?_); refine box_event (by rfl) (N := 1) (by rfl) (cs := #[.int .i64 a0_0, .int .i64 a0_1, .int .i64 a0_2, .int .i64 a0_3, .string a0_4, .slice A0_5 l0_5.length c0_5]) (t := 31) ?hr ?_; (case hr => first | (go_simp; done) | (go_simp; rfl)); intro gb306 hg w9 hbox hb; have BK306 := Aside0.mk (hbox); have GW306 := qG hg; have GE306 := GW306; replace HB := qH hb; clear hb hbox hg; have z10_0 := bk6 BK306.out) | ((with_reducible refine gate_callee (f := 42) rfl ?_); refine goesL_ (some 6) rfl rfl Tryd.func42 (by kernel_rfl) rfl #[.int .i64 a0_0] rfl qL ?_; (with_reducible refine (ir_shape.calls a0_0 t307 _ A2.out (hL := ?side99)).mono ?_); (case side99 => exact LaidW.below HLd.out qB); rintro e w' ⟨rfl, ⟨nd, rfl⟩⟩; refine ⟨_, rfl, ?_⟩; have p7 : 0 ≤ (0 : Int) := (by omega); have q7 : 0 < t307.size := (by have : (0 : Int) < (t307.size : Int) := of_decide_eq_true qA; omega); have hx7 : ∀ h : 0 < t307.size, ((t307[0]'h).toNat : Int) = bt t307 0 := bt_at t307 0; clear p7; have qi7 : (0 < (t307.size : Int)) = True := eq_true (of_decide_eq_true qA); replace q7 := eq_true q7))
    go_ret
    exact ⟨qE, qB⟩
   ·rw [if_neg c8] at H
    obtain ⟨c8b0, c8b1⟩ := qn c8
    obtain rfl := Option.some.inj H
    go_enter Tryd.func28, Tryd.ntmps28
    go_wp2_with (first | ((with_reducible refine gate_dst (N := 1) rfl ?_); refine box_event (by rfl) (N := 1) (by rfl) (cs := #[.int .i64 a0_0, .int .i64 a0_1, .int .i64 a0_2, .int .i64 a0_3, .string a0_4, .slice A0_5 l0_5.length c0_5]) (t := 31) ?hr ?_; (case hr => first | (go_simp; done) | (go_simp; rfl)); intro gb306 hg w11 hbox hb; have BK306 := Aside0.mk (hbox); have GW306 := qG hg; have GE306 := GW306; replace HB := qH hb; clear hb hbox hg; have z12_0 := bk6 BK306.out) | ((with_reducible refine gate_callee (f := 42) rfl ?_); refine goesL_ (some 6) rfl rfl Tryd.func42 (by kernel_rfl) rfl #[.int .i64 a0_0] rfl qL ?_; (with_reducible refine (ir_shape.calls a0_0 t307 _ A2.out (hL := ?side99)).mono ?_); (case side99 => exact LaidW.below HLd.out qB); rintro e w' ⟨rfl, ⟨nd, rfl⟩⟩; refine ⟨_, rfl, ?_⟩; have p7 : 0 ≤ (0 : Int) := (by omega); have q7 : 0 < t307.size := (by have : (0 : Int) < (t307.size : Int) := of_decide_eq_true qA; omega); have hx7 : ∀ h : 0 < t307.size, ((t307[0]'h).toNat : Int) = bt t307 0 := bt_at t307 0; clear p7; have qi7 : (0 < (t307.size : Int)) = True := eq_true (of_decide_eq_true qA); replace q7 := eq_true q7))
    go_ret
    exact ⟨qE, qB⟩
  ·rw [if_neg c6] at H
   exact absurd H (by simp)

end Go.Proofs.YtbipipbfiekbgaaDoor.Q
