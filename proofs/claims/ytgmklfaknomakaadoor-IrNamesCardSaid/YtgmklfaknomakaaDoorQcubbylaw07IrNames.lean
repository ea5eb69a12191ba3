/- Lean functions that answer as the Go functions named below do, and the proofs of that. Written by a program out of the translation. -/
import Derived.Test.YtgmklfaknomakaaDoorQ0
import Derived.Test.YtgmklfaknomakaaDoorQcubbyref07Name
import Derived.Test.YtgmklfaknomakaaDoorQirName
namespace Go.Proofs.YtgmklfaknomakaaDoor.Q
open Go.RowKit Go.Proofs.YtgmklfaknomakaaDoorW.PrintWords Go.Proofs.YtgmklfaknomakaaDoorW.PrintLast Go.Proofs.YtgmklfaknomakaaDoorW.PrintMore
attribute [local go_sem] max2_int min2_int max_two min_two max_three min_three max_four min_four   -- for this text's walks alone
set_option linter.unusedVariables false
set_option linter.unusedSimpArgs false

/-! ### cubbylaw07_IrNames: function 5 -/
def cubbylaw07_IrNames.f (k : Nat) (a0 : ByteArray) : Option (Bool) := if (a0.size : Int) > 1024 then (some true) else ((ir_Name.f a0).bind fun t229 => ((cubbyref07_Name.f k a0).bind fun t230 => (if (t229 == t230) = true then ((ir_Name.f (⟨#[97]⟩ : ByteArray)).bind fun t231 => (if t231 = true then ((ir_Name.f (⟨#[]⟩ : ByteArray)).bind fun t232 => (some (!t232))) else (some false))) else (some false))))
theorem cubbylaw07_IrNames.mono : ∀ a0 k, LeO (cubbylaw07_IrNames.f k a0) (cubbylaw07_IrNames.f (k + 1) a0) := by
  intro a0 k
  unfold cubbylaw07_IrNames.f
  repeat' first
      | (with_reducible exact cubbyref07_Name.mono _ _)
      | (with_reducible exact LeO.refl _)
      | (with_reducible exact LeO.none _)
      | (with_reducible refine LeO.ite ?_ ?_)
      | (with_reducible refine LeO.bind ?_ (fun _ => ?_))
      | exact cubbyref07_Name.mono _ _
      | exact LeO.none _
      | refine LeO.ite ?_ ?_
      | refine LeO.bind ?_ (fun _ => ?_)
set_option maxHeartbeats 8000000 in
set_option maxRecDepth 100000 in
theorem cubbylaw07_IrNames.calls (k : Nat) (a0 : ByteArray) (r : Bool) (w : World) (hr : r = true) (h : cubbylaw07_IrNames.f k a0 = some r) :
    Calls Tryd.prog 5 #[.string a0] w fun e w' => e = .returned (.bool r) ∧ Below w.heap.size w w' := by
  have HB := Aside0.mk (Below.refl w.heap.size w)
  have HRt := Aside0.mk hr
  clear hr
  have H : (if (a0.size : Int) > 1024 then (some true) else ((ir_Name.f a0).bind fun t229 => ((cubbyref07_Name.f k a0).bind fun t230 => (if (t229 == t230) = true then ((ir_Name.f (⟨#[97]⟩ : ByteArray)).bind fun t231 => (if t231 = true then ((ir_Name.f (⟨#[]⟩ : ByteArray)).bind fun t232 => (some (!t232))) else (some false))) else (some false))))) = some r := h
  clear h
  by_cases c2 : (a0.size : Int) > 1024
  · rw [if_pos c2] at H
    have c2b0 : decide (1024 < (a0.size : Int)) = true := decide_eq_true c2
    have c2b1 : decide (1024 < a0.size) = true := decide_eq_true (by omega)
    clear c2
    obtain rfl := Option.some.inj H
    go_enter Tryd.func5, Tryd.ntmps5
    go_wp2
    go_ret
    exact ⟨by first | rfl | (simp [errW_none, errW_some] <;> rfl) | (simp [*, errW_none, errW_some] <;> rfl), by repeat (first | (with_reducible first | exact HB.out | apply below_alloc | apply pw_below_drewN | apply below_drew1) | exact HB.out)⟩
  · rw [if_neg c2] at H
    have c2b0 : decide (1024 < (a0.size : Int)) = false := decide_eq_false c2
    have c2b1 : decide (1024 < a0.size) = false := decide_eq_false (by omega)
    clear c2
    replace H := Option.bind_eq_some_iff.mp H
    obtain ⟨t229, A30, H⟩ := H
    replace H : ((cubbyref07_Name.f k a0).bind fun t230 => (if (t229 == t230) = true then ((ir_Name.f (⟨#[97]⟩ : ByteArray)).bind fun t231 => (if t231 = true then ((ir_Name.f (⟨#[]⟩ : ByteArray)).bind fun t232 => (some (!t232))) else (some false))) else (some false))) = some r := H
    have A3 := Aside0.mk A30
    clear A30
    replace H := Option.bind_eq_some_iff.mp H
    obtain ⟨t230, A40, H⟩ := H
    replace H : (if (t229 == t230) = true then ((ir_Name.f (⟨#[97]⟩ : ByteArray)).bind fun t231 => (if t231 = true then ((ir_Name.f (⟨#[]⟩ : ByteArray)).bind fun t232 => (some (!t232))) else (some false))) else (some false)) = some r := H
    have A4 := Aside0.mk A40
    clear A40
    by_cases c5 : (t229 == t230) = true
    · rw [if_pos c5] at H
      have c5b0 : (t229 == t230) = true := c5
      (try (have c5b1 : decide (t229 = t230) = true := by simpa using c5))
      (try (have c5b2 : (t229 == t230) = true := by simpa using c5))
      clear c5
      replace H := Option.bind_eq_some_iff.mp H
      obtain ⟨t231, A60, H⟩ := H
      replace H : (if t231 = true then ((ir_Name.f (⟨#[]⟩ : ByteArray)).bind fun t232 => (some (!t232))) else (some false)) = some r := H
      have A6 := Aside0.mk A60
      clear A60
      by_cases c7 : t231 = true
      · subst c7
        have H1 : ((ir_Name.f (⟨#[]⟩ : ByteArray)).bind fun t232 => (some (!t232))) = some r := by rw [if_pos rfl] at H; exact H
        clear H
        have H := H1
        clear H1
        replace H := Option.bind_eq_some_iff.mp H
        obtain ⟨t232, A80, H⟩ := H
        replace H : (some (!t232)) = some r := H
        have A8 := Aside0.mk A80
        clear A80
        obtain rfl := Option.some.inj H
        go_enter Tryd.func5, Tryd.ntmps5
        go_wp2_with (first | ((with_reducible refine gate_callee (f := 25) rfl ?_); refine goesL_ (some 7) rfl rfl Tryd.func25 (by kernel_rfl) rfl #[.string a0] rfl (by (try simp only [List.map_toArray, List.map_cons, List.map_nil]); first | done | rfl | (simp only [List.length_drop, List.length_take]; rfl)) ?_; (with_reducible refine (ir_Name.calls a0 t229 _ A3.out).mono ?_); rintro e w9 ⟨rfl, hb⟩; refine ⟨_, rfl, ?_⟩; have n0_ := Aside0.mk (below_step (by repeat (first | (with_reducible first | exact HB.out | apply below_alloc | apply pw_below_drewN | apply below_drew1) | exact HB.out)) hb); clear HB; have HB := n0_; clear n0_; (try clear hb); (try clear hb2); (try clear hk); (try clear hi)) | ((with_reducible refine gate_callee (f := 26) rfl ?_); refine goesL_ (some 9) rfl rfl Tryd.func26 (by kernel_rfl) rfl #[.string a0] rfl (by (try simp only [List.map_toArray, List.map_cons, List.map_nil]); first | done | rfl | (simp only [List.length_drop, List.length_take]; rfl)) ?_; (with_reducible refine (cubbyref07_Name.calls k a0 t230 _ A4.out).mono ?_); rintro e w' ⟨rfl, ⟨nd, rfl⟩⟩; refine ⟨_, rfl, ?_⟩) | (go_at_call 25; (with_reducible refine (ir_Name.calls (⟨#[97]⟩ : ByteArray) true _ A6.out).mono ?_); (try clear A6); rintro e w10 ⟨rfl, hb⟩; have n0_ := Aside0.mk (below_step (by repeat (first | (with_reducible first | exact HB.out | apply below_alloc | apply pw_below_drewN | apply below_drew1) | exact HB.out)) hb); clear HB; have HB := n0_; clear n0_; (try clear hb); (try clear hb2); (try clear hk); (try clear hi)) | (go_at_call 25; (with_reducible refine (ir_Name.calls (⟨#[]⟩ : ByteArray) t232 _ A8.out).mono ?_); (try clear A8); rintro e w11 ⟨rfl, hb⟩; have n0_ := Aside0.mk (below_step (by repeat (first | (with_reducible first | exact HB.out | apply below_alloc | apply pw_below_drewN | apply below_drew1) | exact HB.out)) hb); clear HB; have HB := n0_; clear n0_; (try clear hb); (try clear hb2); (try clear hk); (try clear hi)))
        go_ret
        exact ⟨by first | rfl | (simp [errW_none, errW_some] <;> rfl) | (simp [*, errW_none, errW_some] <;> rfl), by repeat (first | (with_reducible first | exact HB.out | apply below_alloc | apply pw_below_drewN | apply below_drew1) | exact HB.out)⟩
      · replace c7 := Bool.eq_false_iff.mpr c7
        subst c7
        have H1 : (some false) = some r := by rw [if_neg (show ¬ (false = true) by decide)] at H; exact H
        clear H
        have H := H1
        clear H1
        exact absurd ((Option.some.inj H).trans HRt.out) (by decide)
    · rw [if_neg c5] at H
      have c5b0 : (t229 == t230) = false := by simpa using c5
      (try (have c5b1 : decide (t229 = t230) = false := by simpa using c5))
      (try (have c5b2 : (t229 == t230) = false := by simpa using c5))
      (try (have c5b3 : ¬ (t229 = t230) := by simpa using c5))
      clear c5
      exact absurd ((Option.some.inj H).trans HRt.out) (by decide)

end Go.Proofs.YtgmklfaknomakaaDoor.Q
