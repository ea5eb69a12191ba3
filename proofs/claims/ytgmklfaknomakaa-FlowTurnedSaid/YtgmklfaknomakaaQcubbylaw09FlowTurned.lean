/- Lean functions that answer as the Go functions named below do, and the proofs of that. Written by a program out of the translation. -/
import Derived.Test.YtgmklfaknomakaaQ0
import Derived.Test.YtgmklfaknomakaaOrder
import Derived.Test.YtgmklfaknomakaaQcubbylaw09has
import Derived.Test.YtgmklfaknomakaaQcubbylaw09heavy
import Derived.Test.YtgmklfaknomakaaQcubbyref09Succs
import Derived.Test.YtgmklfaknomakaaQflowPreds
import Derived.Test.YtgmklfaknomakaaQflowSuccs
namespace Go.Proofs.Ytgmklfaknomakaa.Q
open Go.RowKit Go.Proofs.YtgmklfaknomakaaW.PrintWords Go.Proofs.YtgmklfaknomakaaW.PrintLast Go.Proofs.YtgmklfaknomakaaW.PrintMore
attribute [local go_sem] max2_int min2_int max_two min_two max_three min_three max_four min_four   -- for this text's walks alone
set_option linter.unusedVariables false
set_option linter.unusedSimpArgs false

/-! ### cubbylaw09_FlowTurned: function 8 -/
def cubbylaw09_FlowTurned.j0 : Nat → List (List (SIns)) → Int → Int → Bool → Option (Bool)
  | 0, _, _, _, _ => none
  | k + 1, x0, x1, x2, x15 => if x15 = true then ((flow_Order.f k ([] : List (List (SIns)))).bind fun t281 => (some ((t281.length : Int) == 0))) else (if (x0.length : Int) = 0 then (none) else ((flow_Succs.f k x0 (Int.tmod (wrap64 (x1)) (x0.length : Int))).bind fun t284 => ((cubbylaw09_has.f k t284 (Int.tmod (wrap64 (x2)) (x0.length : Int))).bind fun t287 => ((flow_Preds.f k x0 (Int.tmod (wrap64 (x2)) (x0.length : Int))).bind fun t288 => ((cubbylaw09_has.f k t288 (Int.tmod (wrap64 (x1)) (x0.length : Int))).bind fun t291 => (if (t287 == t291) = true then ((flow_Succs.f k x0 (Int.tmod (wrap64 (x1)) (x0.length : Int))).bind fun t292 => ((cubbylaw09_has.f k t292 (Int.tmod (wrap64 (x2)) (x0.length : Int))).bind fun t295 => ((cubbyref09_Succs.f k x0 (Int.tmod (wrap64 (x1)) (x0.length : Int))).bind fun t296 => ((cubbylaw09_has.f k t296 (Int.tmod (wrap64 (x2)) (x0.length : Int))).bind fun t299 => (some (t295 == t299)))))) else (some false)))))))
def cubbylaw09_FlowTurned.f (k : Nat) (l0 : List (List (SIns))) (a1 : Int) (a2 : Int) : Option (Bool) := (cubbylaw09_heavy.f k l0).bind fun t280 => (if t280 = true then (cubbylaw09_FlowTurned.j0 k l0 a1 a2 true) else (cubbylaw09_FlowTurned.j0 k l0 a1 a2 ((l0.length : Int) == 0)))
theorem cubbylaw09_FlowTurned.mono_l : ∀ k, (∀ y0 y1 y2 y3, LeO (cubbylaw09_FlowTurned.j0 k y0 y1 y2 y3) (cubbylaw09_FlowTurned.j0 (k + 1) y0 y1 y2 y3))
  | 0 => fun _ _ _ _ r h => by simp [cubbylaw09_FlowTurned.j0] at h
  | k + 1 => by
    have ih0 := cubbylaw09_FlowTurned.mono_l k
    · intro y0 y1 y2 y3
      unfold cubbylaw09_FlowTurned.j0
      repeat' first
      | (with_reducible exact ih0 _ _ _ _)
      | (with_reducible exact cubbylaw09_has.mono _ _ _)
      | (with_reducible exact cubbylaw09_heavy.mono _ _)
      | (with_reducible exact cubbyref09_Succs.mono _ _ _)
      | (with_reducible exact flow_Order.mono _ _)
      | (with_reducible exact flow_Preds.mono _ _ _)
      | (with_reducible exact flow_Succs.mono _ _ _)
      | (with_reducible exact LeO.refl _)
      | (with_reducible exact LeO.none _)
      | (with_reducible refine LeO.ite ?_ ?_)
      | (with_reducible refine LeO.bind ?_ (fun _ => ?_))
      | exact ih0 _ _ _ _
      | exact cubbylaw09_has.mono _ _ _
      | exact cubbylaw09_heavy.mono _ _
      | exact cubbyref09_Succs.mono _ _ _
      | exact flow_Order.mono _ _
      | exact flow_Preds.mono _ _ _
      | exact flow_Succs.mono _ _ _
      | exact LeO.none _
      | refine LeO.ite ?_ ?_
      | refine LeO.bind ?_ (fun _ => ?_)
theorem cubbylaw09_FlowTurned.mono : ∀ a0 a1 a2 k, LeO (cubbylaw09_FlowTurned.f k a0 a1 a2) (cubbylaw09_FlowTurned.f (k + 1) a0 a1 a2) := by
  intro a0 a1 a2 k
  have ih0 := cubbylaw09_FlowTurned.mono_l k
  unfold cubbylaw09_FlowTurned.f
  repeat' first
      | (with_reducible exact ih0 _ _ _ _)
      | (with_reducible exact cubbylaw09_has.mono _ _ _)
      | (with_reducible exact cubbylaw09_heavy.mono _ _)
      | (with_reducible exact cubbyref09_Succs.mono _ _ _)
      | (with_reducible exact flow_Order.mono _ _)
      | (with_reducible exact flow_Preds.mono _ _ _)
      | (with_reducible exact flow_Succs.mono _ _ _)
      | (with_reducible exact LeO.refl _)
      | (with_reducible exact LeO.none _)
      | (with_reducible refine LeO.ite ?_ ?_)
      | (with_reducible refine LeO.bind ?_ (fun _ => ?_))
      | exact ih0 _ _ _ _
      | exact cubbylaw09_has.mono _ _ _
      | exact cubbylaw09_heavy.mono _ _
      | exact cubbyref09_Succs.mono _ _ _
      | exact flow_Order.mono _ _
      | exact flow_Preds.mono _ _ _
      | exact flow_Succs.mono _ _ _
      | exact LeO.none _
      | refine LeO.ite ?_ ?_
      | refine LeO.bind ?_ (fun _ => ?_)
set_option maxHeartbeats 8000000 in
set_option maxRecDepth 100000 in
theorem cubbylaw09_FlowTurned.calls (k : Nat) (A0 : Option Addr) (c0 : Nat) (l0 : List (List (SIns))) (a1 : Int) (a2 : Int) (r : Bool) (w : World) (hr0 : Kd.C (Kd.slice 37 kIns) w A0 l0.length l0) (hc0 : l0.length ≤ c0) (h : cubbylaw09_FlowTurned.f k l0 a1 a2 = some r) :
    Calls Try.prog 8 #[.slice A0 l0.length c0, .int .u8 a1, .int .u8 a2] w fun e w' => e = .returned (.bool r) ∧ Below w.heap.size w w' := by
  have HR0 := Aside0.mk hr0
  have HC0 := Aside0.mk hc0
  clear hr0 hc0
  have HB := Aside0.mk (Below.refl w.heap.size w)
  have H : ((cubbylaw09_heavy.f k l0).bind fun t280 => (if t280 = true then (cubbylaw09_FlowTurned.j0 k l0 a1 a2 true) else (cubbylaw09_FlowTurned.j0 k l0 a1 a2 ((l0.length : Int) == 0)))) = some r := h
  clear h
  have HC4 := Aside0.mk H
  clear H
  go_enter Try.func8, Try.ntmps8
  go_upto_region 1 with (fail)
  go_cut [15] (fun v15 wc => ∃ (kq : Nat) (x15_3 : Bool), v15 = .bool x15_3 ∧ Aside0 (cubbylaw09_FlowTurned.j0 kq l0 a1 a2 x15_3 = some r) ∧ Aside0 (kq ≤ k) ∧ Aside0 (Below w.heap.size w wc))
  case first =>
    have H := HC4.out
    clear HC4
    replace H := Option.bind_eq_some_iff.mp H
    obtain ⟨t280, A50, H⟩ := H
    replace H : (if t280 = true then (cubbylaw09_FlowTurned.j0 k l0 a1 a2 true) else (cubbylaw09_FlowTurned.j0 k l0 a1 a2 ((l0.length : Int) == 0))) = some r := H
    have A5 := Aside0.mk A50
    clear A50
    by_cases c6 : t280 = true
    · subst c6
      have H1 : (cubbylaw09_FlowTurned.j0 k l0 a1 a2 true) = some r := by rw [if_pos rfl] at H; exact H
      clear H
      have H := H1
      clear H1
      have H' := Aside0.mk H
      clear H
      go_wp2_with (first | ((with_reducible refine gate_callee (f := 12) rfl ?_); refine goesL_ (some 10) rfl rfl Try.func12 (by kernel_rfl) rfl #[.slice A0 l0.length c0] rfl (by (try simp only [List.map_toArray, List.map_cons, List.map_nil]); first | done | rfl | (simp only [List.length_drop, List.length_take]; rfl)) ?_; (with_reducible refine (cubbylaw09_heavy.calls k _ _ l0 true _ ?side1 ?side2 A5.out).mono ?_); (case side1 => repeat (first | exact (Kd.C_below HR0.out HB.out) | (with_reducible refine Kd.C_alloc ?_ _) | (with_reducible refine Kd.C_drewN ?_ _) | (with_reducible refine Kd.C_drew ?_))); (case side2 => exact HC0.out); rintro e w' ⟨rfl, ⟨nd, rfl⟩⟩; refine ⟨_, rfl, ?_⟩))
      go_meet
      case rel => exact ⟨_, (true), (by first | rfl | (simp; done) | (simp [*]; done)), H', ⟨by first | omega | exact Nat.le_refl _⟩, ⟨by repeat (first | (with_reducible first | exact HB.out | apply below_alloc | apply pw_below_drewN | apply below_drew1) | exact HB.out)⟩⟩
    · replace c6 := Bool.eq_false_iff.mpr c6
      subst c6
      have H1 : (cubbylaw09_FlowTurned.j0 k l0 a1 a2 ((l0.length : Int) == 0)) = some r := by rw [if_neg (show ¬ (false = true) by decide)] at H; exact H
      clear H
      have H := H1
      clear H1
      have H' := Aside0.mk H
      clear H
      go_wp2_with (first | ((with_reducible refine gate_callee (f := 12) rfl ?_); refine goesL_ (some 10) rfl rfl Try.func12 (by kernel_rfl) rfl #[.slice A0 l0.length c0] rfl (by (try simp only [List.map_toArray, List.map_cons, List.map_nil]); first | done | rfl | (simp only [List.length_drop, List.length_take]; rfl)) ?_; (with_reducible refine (cubbylaw09_heavy.calls k _ _ l0 false _ ?side1 ?side2 A5.out).mono ?_); (case side1 => repeat (first | exact (Kd.C_below HR0.out HB.out) | (with_reducible refine Kd.C_alloc ?_ _) | (with_reducible refine Kd.C_drewN ?_ _) | (with_reducible refine Kd.C_drew ?_))); (case side2 => exact HC0.out); rintro e w' ⟨rfl, ⟨nd, rfl⟩⟩; refine ⟨_, rfl, ?_⟩))
      go_meet
      case rel => exact ⟨_, (((l0.length : Int) == 0)), (by first | rfl | (simp; done) | (simp [*]; done)), H', ⟨by first | omega | exact Nat.le_refl _⟩, ⟨by repeat (first | (with_reducible first | exact HB.out | apply below_alloc | apply pw_below_drewN | apply below_drew1) | exact HB.out)⟩⟩
  case rest =>
    clear HC4
    try clear c1
    try clear p2
    try clear c6
    obtain ⟨kq, x15_3, rfl, HA, HJ3, HB⟩ := hcut
    cases kq with
    | zero => exact absurd HA.out (by simp [cubbylaw09_FlowTurned.j0])
    | succ kj3 =>
      have H := HA.out
      clear HA
      simp only [cubbylaw09_FlowTurned.j0] at H
      by_cases c7 : x15_3 = true
      · subst c7
        have H1 : ((flow_Order.f kj3 ([] : List (List (SIns)))).bind fun t281 => (some ((t281.length : Int) == 0))) = some r := by rw [if_pos rfl] at H; exact H
        clear H
        have H := H1
        clear H1
        replace H := Option.bind_eq_some_iff.mp H
        obtain ⟨t281, A80, H⟩ := H
        replace H : (some ((t281.length : Int) == 0)) = some r := H
        have A8 := Aside0.mk A80
        clear A80
        obtain rfl := Option.some.inj H
        go_wp2_with (first | ((with_reducible refine gate_callee (f := 18) rfl ?_); refine goesL_ (some 16) rfl rfl Try.func18 (by kernel_rfl) rfl #[.slice none 0 0] rfl (by (try simp only [List.map_toArray, List.map_cons, List.map_nil]); first | done | rfl | (simp only [List.length_drop, List.length_take]; rfl)) ?_; (refine (flow_Order.calls kj3 _ _ ([] : List (List (SIns))) t281 _ ?side1 ?side2 A8.out).mono ?_); (case side1 => exact Kd.C_nil _ _); (case side2 => exact Nat.le_refl _); rintro e w9 ⟨v282, rfl, ho0, hb⟩; refine ⟨_, rfl, ?_⟩; have n0_ := Aside0.mk (Kd.R_lower ho0 (below_size (by repeat (first | (with_reducible first | exact HB.out | apply below_alloc | apply pw_below_drewN | apply below_drew1) | exact HB.out)))); have n1_ := Aside0.mk (below_step (by repeat (first | (with_reducible first | exact HB.out | apply below_alloc | apply pw_below_drewN | apply below_drew1) | exact HB.out)) hb); clear HB; have HO283 := n0_; have HB := n1_; clear n0_ n1_; (try clear hb); (try clear hb2); (try clear hk); (try clear hi); (try clear ho0); obtain ⟨Ao10, co10, eo10⟩ := Kd.R_slice HO283.out; subst eo10))
        go_ret
        exact ⟨by first | rfl | (simp [errW_none, errW_some] <;> rfl) | (simp [*, errW_none, errW_some] <;> rfl), by repeat (first | (with_reducible first | exact HB.out | apply below_alloc | apply pw_below_drewN | apply below_drew1) | exact HB.out)⟩
      · replace c7 := Bool.eq_false_iff.mpr c7
        subst c7
        have H1 : (if (l0.length : Int) = 0 then (none) else ((flow_Succs.f kj3 l0 (Int.tmod (wrap64 (a1)) (l0.length : Int))).bind fun t284 => ((cubbylaw09_has.f kj3 t284 (Int.tmod (wrap64 (a2)) (l0.length : Int))).bind fun t287 => ((flow_Preds.f kj3 l0 (Int.tmod (wrap64 (a2)) (l0.length : Int))).bind fun t288 => ((cubbylaw09_has.f kj3 t288 (Int.tmod (wrap64 (a1)) (l0.length : Int))).bind fun t291 => (if (t287 == t291) = true then ((flow_Succs.f kj3 l0 (Int.tmod (wrap64 (a1)) (l0.length : Int))).bind fun t292 => ((cubbylaw09_has.f kj3 t292 (Int.tmod (wrap64 (a2)) (l0.length : Int))).bind fun t295 => ((cubbyref09_Succs.f kj3 l0 (Int.tmod (wrap64 (a1)) (l0.length : Int))).bind fun t296 => ((cubbylaw09_has.f kj3 t296 (Int.tmod (wrap64 (a2)) (l0.length : Int))).bind fun t299 => (some (t295 == t299)))))) else (some false))))))) = some r := by rw [if_neg (show ¬ (false = true) by decide)] at H; exact H
        clear H
        have H := H1
        clear H1
        by_cases c11 : (l0.length : Int) = 0
        · rw [if_pos c11] at H
          exact absurd H (by simp)
        · rw [if_neg c11] at H
          have c11b0 : ((l0.length : Int) == 0) = false := beq_eq_false_iff_ne.mpr c11
          have c11b1 : ((l0.length : Int) != 0) = true := bne_iff_ne.mpr c11
          have c11b2 : ¬ (l0 = []) := fun h_ => c11 (by rw [h_]; rfl)
          replace H := Option.bind_eq_some_iff.mp H
          obtain ⟨t284, A120, H⟩ := H
          replace H : ((cubbylaw09_has.f kj3 t284 (Int.tmod (wrap64 (a2)) (l0.length : Int))).bind fun t287 => ((flow_Preds.f kj3 l0 (Int.tmod (wrap64 (a2)) (l0.length : Int))).bind fun t288 => ((cubbylaw09_has.f kj3 t288 (Int.tmod (wrap64 (a1)) (l0.length : Int))).bind fun t291 => (if (t287 == t291) = true then ((flow_Succs.f kj3 l0 (Int.tmod (wrap64 (a1)) (l0.length : Int))).bind fun t292 => ((cubbylaw09_has.f kj3 t292 (Int.tmod (wrap64 (a2)) (l0.length : Int))).bind fun t295 => ((cubbyref09_Succs.f kj3 l0 (Int.tmod (wrap64 (a1)) (l0.length : Int))).bind fun t296 => ((cubbylaw09_has.f kj3 t296 (Int.tmod (wrap64 (a2)) (l0.length : Int))).bind fun t299 => (some (t295 == t299)))))) else (some false))))) = some r := H
          have A12 := Aside0.mk A120
          clear A120
          replace H := Option.bind_eq_some_iff.mp H
          obtain ⟨t287, A130, H⟩ := H
          replace H : ((flow_Preds.f kj3 l0 (Int.tmod (wrap64 (a2)) (l0.length : Int))).bind fun t288 => ((cubbylaw09_has.f kj3 t288 (Int.tmod (wrap64 (a1)) (l0.length : Int))).bind fun t291 => (if (t287 == t291) = true then ((flow_Succs.f kj3 l0 (Int.tmod (wrap64 (a1)) (l0.length : Int))).bind fun t292 => ((cubbylaw09_has.f kj3 t292 (Int.tmod (wrap64 (a2)) (l0.length : Int))).bind fun t295 => ((cubbyref09_Succs.f kj3 l0 (Int.tmod (wrap64 (a1)) (l0.length : Int))).bind fun t296 => ((cubbylaw09_has.f kj3 t296 (Int.tmod (wrap64 (a2)) (l0.length : Int))).bind fun t299 => (some (t295 == t299)))))) else (some false)))) = some r := H
          have A13 := Aside0.mk A130
          clear A130
          replace H := Option.bind_eq_some_iff.mp H
          obtain ⟨t288, A140, H⟩ := H
          replace H : ((cubbylaw09_has.f kj3 t288 (Int.tmod (wrap64 (a1)) (l0.length : Int))).bind fun t291 => (if (t287 == t291) = true then ((flow_Succs.f kj3 l0 (Int.tmod (wrap64 (a1)) (l0.length : Int))).bind fun t292 => ((cubbylaw09_has.f kj3 t292 (Int.tmod (wrap64 (a2)) (l0.length : Int))).bind fun t295 => ((cubbyref09_Succs.f kj3 l0 (Int.tmod (wrap64 (a1)) (l0.length : Int))).bind fun t296 => ((cubbylaw09_has.f kj3 t296 (Int.tmod (wrap64 (a2)) (l0.length : Int))).bind fun t299 => (some (t295 == t299)))))) else (some false))) = some r := H
          have A14 := Aside0.mk A140
          clear A140
          replace H := Option.bind_eq_some_iff.mp H
          obtain ⟨t291, A150, H⟩ := H
          replace H : (if (t287 == t291) = true then ((flow_Succs.f kj3 l0 (Int.tmod (wrap64 (a1)) (l0.length : Int))).bind fun t292 => ((cubbylaw09_has.f kj3 t292 (Int.tmod (wrap64 (a2)) (l0.length : Int))).bind fun t295 => ((cubbyref09_Succs.f kj3 l0 (Int.tmod (wrap64 (a1)) (l0.length : Int))).bind fun t296 => ((cubbylaw09_has.f kj3 t296 (Int.tmod (wrap64 (a2)) (l0.length : Int))).bind fun t299 => (some (t295 == t299)))))) else (some false)) = some r := H
          have A15 := Aside0.mk A150
          clear A150
          by_cases c16 : (t287 == t291) = true
          · rw [if_pos c16] at H
            have c16b0 : (t287 == t291) = true := c16
            (try (have c16b1 : decide (t287 = t291) = true := by simpa using c16))
            (try (have c16b2 : (t287 == t291) = true := by simpa using c16))
            clear c16
            replace H := Option.bind_eq_some_iff.mp H
            obtain ⟨t292, A170, H⟩ := H
            replace H : ((cubbylaw09_has.f kj3 t292 (Int.tmod (wrap64 (a2)) (l0.length : Int))).bind fun t295 => ((cubbyref09_Succs.f kj3 l0 (Int.tmod (wrap64 (a1)) (l0.length : Int))).bind fun t296 => ((cubbylaw09_has.f kj3 t296 (Int.tmod (wrap64 (a2)) (l0.length : Int))).bind fun t299 => (some (t295 == t299))))) = some r := H
            have A17 := Aside0.mk A170
            clear A170
            replace H := Option.bind_eq_some_iff.mp H
            obtain ⟨t295, A180, H⟩ := H
            replace H : ((cubbyref09_Succs.f kj3 l0 (Int.tmod (wrap64 (a1)) (l0.length : Int))).bind fun t296 => ((cubbylaw09_has.f kj3 t296 (Int.tmod (wrap64 (a2)) (l0.length : Int))).bind fun t299 => (some (t295 == t299)))) = some r := H
            have A18 := Aside0.mk A180
            clear A180
            replace H := Option.bind_eq_some_iff.mp H
            obtain ⟨t296, A190, H⟩ := H
            replace H : ((cubbylaw09_has.f kj3 t296 (Int.tmod (wrap64 (a2)) (l0.length : Int))).bind fun t299 => (some (t295 == t299))) = some r := H
            have A19 := Aside0.mk A190
            clear A190
            replace H := Option.bind_eq_some_iff.mp H
            obtain ⟨t299, A200, H⟩ := H
            replace H : (some (t295 == t299)) = some r := H
            have A20 := Aside0.mk A200
            clear A200
            obtain rfl := Option.some.inj H
            go_wp2_with (first | ((with_reducible refine gate_callee (f := 14) rfl ?_); refine goesL_ (some 31) rfl rfl Try.func14 (by kernel_rfl) rfl #[.slice A0 l0.length c0, .int .i64 (Int.tmod (wrap64 (a1)) (l0.length : Int))] rfl (by (try simp only [List.map_toArray, List.map_cons, List.map_nil]); first | done | rfl | (simp only [List.length_drop, List.length_take]; rfl)) ?_; (with_reducible refine (flow_Succs.calls kj3 _ _ l0 (Int.tmod (wrap64 (a1)) (l0.length : Int)) t284 _ ?side1 ?side2 A12.out).mono ?_); (case side1 => repeat (first | exact (Kd.C_below HR0.out HB.out) | (with_reducible refine Kd.C_alloc ?_ _) | (with_reducible refine Kd.C_drewN ?_ _) | (with_reducible refine Kd.C_drew ?_))); (case side2 => exact HC0.out); rintro e w21 ⟨v285, rfl, ho0, hb⟩; refine ⟨_, rfl, ?_⟩; have n0_ := Aside0.mk (Kd.R_lower ho0 (below_size (by repeat (first | (with_reducible first | exact HB.out | apply below_alloc | apply pw_below_drewN | apply below_drew1) | exact HB.out)))); have n1_ := Aside0.mk (below_step (by repeat (first | (with_reducible first | exact HB.out | apply below_alloc | apply pw_below_drewN | apply below_drew1) | exact HB.out)) hb); clear HB; have HO286 := n0_; have HB := n1_; clear n0_ n1_; (try clear hb); (try clear hb2); (try clear hk); (try clear hi); (try clear ho0); obtain ⟨Ao22, co22, eo22⟩ := Kd.R_slice HO286.out; subst eo22) | ((with_reducible refine gate_callee (f := 22) rfl ?_); refine goesL_ (some 33) rfl rfl Try.func22 (by kernel_rfl) rfl #[.slice Ao22 t284.length co22, .int .i64 (Int.tmod (wrap64 (a2)) (l0.length : Int))] rfl (by (try simp only [List.map_toArray, List.map_cons, List.map_nil]); first | done | rfl | (simp only [List.length_drop, List.length_take]; rfl)) ?_; (with_reducible refine (cubbylaw09_has.calls kj3 _ _ t284 (Int.tmod (wrap64 (a2)) (l0.length : Int)) t287 _ ?side1 ?side2 A13.out).mono ?_); (case side1 => repeat (first | exact (Kd.R_reads' HO286.out).2.2 | (with_reducible refine Kd.C_alloc ?_ _) | (with_reducible refine Kd.C_drewN ?_ _) | (with_reducible refine Kd.C_drew ?_))); (case side2 => exact (Kd.R_reads' HO286.out).2.1); rintro e w' ⟨rfl, ⟨nd, rfl⟩⟩; refine ⟨_, rfl, ?_⟩) | ((with_reducible refine gate_callee (f := 16) rfl ?_); refine goesL_ (some 36) rfl rfl Try.func16 (by kernel_rfl) rfl #[.slice A0 l0.length c0, .int .i64 (Int.tmod (wrap64 (a2)) (l0.length : Int))] rfl (by (try simp only [List.map_toArray, List.map_cons, List.map_nil]); first | done | rfl | (simp only [List.length_drop, List.length_take]; rfl)) ?_; (with_reducible refine (flow_Preds.calls kj3 _ _ l0 (Int.tmod (wrap64 (a2)) (l0.length : Int)) t288 _ ?side1 ?side2 A14.out).mono ?_); (case side1 => repeat (first | exact (Kd.C_below HR0.out (by repeat (first | (with_reducible first | exact HB.out | apply below_alloc | apply pw_below_drewN | apply below_drew1) | exact HB.out))) | (with_reducible refine Kd.C_alloc ?_ _) | (with_reducible refine Kd.C_drewN ?_ _) | (with_reducible refine Kd.C_drew ?_))); (case side2 => exact HC0.out); rintro e w23 ⟨v289, rfl, ho0, hb⟩; refine ⟨_, rfl, ?_⟩; have n0_ := Aside0.mk (Kd.R_elder' (by (with_reducible repeat (first | apply Kd.R_alloc | apply Kd.R_drewN | apply Kd.R_drew)); exact HO286.out) (Kd.R_base ho0) hb); have n1_ := Aside0.mk (Kd.R_lower (Kd.R_new' ho0 (Kd.R_lt (by (with_reducible repeat (first | apply Kd.R_alloc | apply Kd.R_drewN | apply Kd.R_drew)); exact HO286.out))) (below_size (by repeat (first | (with_reducible first | exact HB.out | apply below_alloc | apply pw_below_drewN | apply below_drew1) | exact HB.out)))); have n2_ := Aside0.mk (below_step (by repeat (first | (with_reducible first | exact HB.out | apply below_alloc | apply pw_below_drewN | apply below_drew1) | exact HB.out)) hb); clear HO286; clear HB; have HO286 := n0_; have HO290 := n1_; have HB := n2_; clear n0_ n1_ n2_; (try clear hb); (try clear hb2); (try clear hk); (try clear hi); (try clear ho0); obtain ⟨Ao24, co24, eo24⟩ := Kd.R_slice HO290.out; subst eo24) | ((with_reducible refine gate_callee (f := 22) rfl ?_); refine goesL_ (some 38) rfl rfl Try.func22 (by kernel_rfl) rfl #[.slice Ao24 t288.length co24, .int .i64 (Int.tmod (wrap64 (a1)) (l0.length : Int))] rfl (by (try simp only [List.map_toArray, List.map_cons, List.map_nil]); first | done | rfl | (simp only [List.length_drop, List.length_take]; rfl)) ?_; (with_reducible refine (cubbylaw09_has.calls kj3 _ _ t288 (Int.tmod (wrap64 (a1)) (l0.length : Int)) t291 _ ?side1 ?side2 A15.out).mono ?_); (case side1 => repeat (first | exact (Kd.R_reads' HO290.out).2.2 | (with_reducible refine Kd.C_alloc ?_ _) | (with_reducible refine Kd.C_drewN ?_ _) | (with_reducible refine Kd.C_drew ?_))); (case side2 => exact (Kd.R_reads' HO290.out).2.1); rintro e w' ⟨rfl, ⟨nd, rfl⟩⟩; refine ⟨_, rfl, ?_⟩) | (go_at_call 14; (with_reducible refine (flow_Succs.calls kj3 _ _ l0 (Int.tmod (wrap64 (a1)) (l0.length : Int)) t292 _ ?side1 ?side2 A17.out).mono ?_); (case side1 => repeat (first | exact (Kd.C_below HR0.out (by repeat (first | (with_reducible first | exact HB.out | apply below_alloc | apply pw_below_drewN | apply below_drew1) | exact HB.out))) | (with_reducible refine Kd.C_alloc ?_ _) | (with_reducible refine Kd.C_drewN ?_ _) | (with_reducible refine Kd.C_drew ?_))); (case side2 => exact HC0.out); rintro e w25 ⟨v293, rfl, ho0, hb⟩; have n0_ := Aside0.mk (Kd.R_elder' (by (with_reducible repeat (first | apply Kd.R_alloc | apply Kd.R_drewN | apply Kd.R_drew)); exact HO286.out) (Kd.R_base ho0) hb); have n1_ := Aside0.mk (Kd.R_elder' (by (with_reducible repeat (first | apply Kd.R_alloc | apply Kd.R_drewN | apply Kd.R_drew)); exact HO290.out) (Kd.R_base ho0) hb); have n2_ := Aside0.mk (Kd.R_lower (Kd.R_new' (Kd.R_new' ho0 (Kd.R_lt (by (with_reducible repeat (first | apply Kd.R_alloc | apply Kd.R_drewN | apply Kd.R_drew)); exact HO286.out))) (Kd.R_lt (by (with_reducible repeat (first | apply Kd.R_alloc | apply Kd.R_drewN | apply Kd.R_drew)); exact HO290.out))) (below_size (by repeat (first | (with_reducible first | exact HB.out | apply below_alloc | apply pw_below_drewN | apply below_drew1) | exact HB.out)))); have n3_ := Aside0.mk (below_step (by repeat (first | (with_reducible first | exact HB.out | apply below_alloc | apply pw_below_drewN | apply below_drew1) | exact HB.out)) hb); clear HO286; clear HO290; clear HB; have HO286 := n0_; have HO290 := n1_; have HO294 := n2_; have HB := n3_; clear n0_ n1_ n2_ n3_; (try clear hb); (try clear hb2); (try clear hk); (try clear hi); (try clear ho0); obtain ⟨Ao26, co26, eo26⟩ := Kd.R_slice HO294.out; subst eo26) | (go_at_call 22; (with_reducible refine (cubbylaw09_has.calls kj3 _ _ t292 (Int.tmod (wrap64 (a2)) (l0.length : Int)) t295 _ ?side1 ?side2 A18.out).mono ?_); (case side1 => repeat (first | exact (Kd.R_reads' HO294.out).2.2 | (with_reducible refine Kd.C_alloc ?_ _) | (with_reducible refine Kd.C_drewN ?_ _) | (with_reducible refine Kd.C_drew ?_))); (case side2 => exact (Kd.R_reads' HO294.out).2.1); rintro e w' ⟨rfl, ⟨nd, rfl⟩⟩) | (go_at_call 15; (with_reducible refine (cubbyref09_Succs.calls kj3 _ _ l0 (Int.tmod (wrap64 (a1)) (l0.length : Int)) t296 _ ?side1 ?side2 A19.out).mono ?_); (case side1 => repeat (first | exact (Kd.C_below HR0.out (by repeat (first | (with_reducible first | exact HB.out | apply below_alloc | apply pw_below_drewN | apply below_drew1) | exact HB.out))) | (with_reducible refine Kd.C_alloc ?_ _) | (with_reducible refine Kd.C_drewN ?_ _) | (with_reducible refine Kd.C_drew ?_))); (case side2 => exact HC0.out); rintro e w27 ⟨v297, rfl, ho0, hb⟩; have n0_ := Aside0.mk (Kd.R_elder' (by (with_reducible repeat (first | apply Kd.R_alloc | apply Kd.R_drewN | apply Kd.R_drew)); exact HO286.out) (Kd.R_base ho0) hb); have n1_ := Aside0.mk (Kd.R_elder' (by (with_reducible repeat (first | apply Kd.R_alloc | apply Kd.R_drewN | apply Kd.R_drew)); exact HO290.out) (Kd.R_base ho0) hb); have n2_ := Aside0.mk (Kd.R_elder' (by (with_reducible repeat (first | apply Kd.R_alloc | apply Kd.R_drewN | apply Kd.R_drew)); exact HO294.out) (Kd.R_base ho0) hb); have n3_ := Aside0.mk (Kd.R_lower (Kd.R_new' (Kd.R_new' (Kd.R_new' ho0 (Kd.R_lt (by (with_reducible repeat (first | apply Kd.R_alloc | apply Kd.R_drewN | apply Kd.R_drew)); exact HO286.out))) (Kd.R_lt (by (with_reducible repeat (first | apply Kd.R_alloc | apply Kd.R_drewN | apply Kd.R_drew)); exact HO290.out))) (Kd.R_lt (by (with_reducible repeat (first | apply Kd.R_alloc | apply Kd.R_drewN | apply Kd.R_drew)); exact HO294.out))) (below_size (by repeat (first | (with_reducible first | exact HB.out | apply below_alloc | apply pw_below_drewN | apply below_drew1) | exact HB.out)))); have n4_ := Aside0.mk (below_step (by repeat (first | (with_reducible first | exact HB.out | apply below_alloc | apply pw_below_drewN | apply below_drew1) | exact HB.out)) hb); clear HO286; clear HO290; clear HO294; clear HB; have HO286 := n0_; have HO290 := n1_; have HO294 := n2_; have HO298 := n3_; have HB := n4_; clear n0_ n1_ n2_ n3_ n4_; (try clear hb); (try clear hb2); (try clear hk); (try clear hi); (try clear ho0); obtain ⟨Ao28, co28, eo28⟩ := Kd.R_slice HO298.out; subst eo28) | (go_at_call 22; (with_reducible refine (cubbylaw09_has.calls kj3 _ _ t296 (Int.tmod (wrap64 (a2)) (l0.length : Int)) t299 _ ?side1 ?side2 A20.out).mono ?_); (case side1 => repeat (first | exact (Kd.R_reads' HO298.out).2.2 | (with_reducible refine Kd.C_alloc ?_ _) | (with_reducible refine Kd.C_drewN ?_ _) | (with_reducible refine Kd.C_drew ?_))); (case side2 => exact (Kd.R_reads' HO298.out).2.1); rintro e w' ⟨rfl, ⟨nd, rfl⟩⟩))
            go_ret
            exact ⟨by first | rfl | (simp [errW_none, errW_some] <;> rfl) | (simp [*, errW_none, errW_some] <;> rfl), by repeat (first | (with_reducible first | exact HB.out | apply below_alloc | apply pw_below_drewN | apply below_drew1) | exact HB.out)⟩
          · rw [if_neg c16] at H
            have c16b0 : (t287 == t291) = false := by simpa using c16
            (try (have c16b1 : decide (t287 = t291) = false := by simpa using c16))
            (try (have c16b2 : (t287 == t291) = false := by simpa using c16))
            (try (have c16b3 : ¬ (t287 = t291) := by simpa using c16))
            clear c16
            obtain rfl := Option.some.inj H
            go_wp2_with (first | ((with_reducible refine gate_callee (f := 14) rfl ?_); refine goesL_ (some 31) rfl rfl Try.func14 (by kernel_rfl) rfl #[.slice A0 l0.length c0, .int .i64 (Int.tmod (wrap64 (a1)) (l0.length : Int))] rfl (by (try simp only [List.map_toArray, List.map_cons, List.map_nil]); first | done | rfl | (simp only [List.length_drop, List.length_take]; rfl)) ?_; (with_reducible refine (flow_Succs.calls kj3 _ _ l0 (Int.tmod (wrap64 (a1)) (l0.length : Int)) t284 _ ?side1 ?side2 A12.out).mono ?_); (case side1 => repeat (first | exact (Kd.C_below HR0.out HB.out) | (with_reducible refine Kd.C_alloc ?_ _) | (with_reducible refine Kd.C_drewN ?_ _) | (with_reducible refine Kd.C_drew ?_))); (case side2 => exact HC0.out); rintro e w29 ⟨v285, rfl, ho0, hb⟩; refine ⟨_, rfl, ?_⟩; have n0_ := Aside0.mk (Kd.R_lower ho0 (below_size (by repeat (first | (with_reducible first | exact HB.out | apply below_alloc | apply pw_below_drewN | apply below_drew1) | exact HB.out)))); have n1_ := Aside0.mk (below_step (by repeat (first | (with_reducible first | exact HB.out | apply below_alloc | apply pw_below_drewN | apply below_drew1) | exact HB.out)) hb); clear HB; have HO286 := n0_; have HB := n1_; clear n0_ n1_; (try clear hb); (try clear hb2); (try clear hk); (try clear hi); (try clear ho0); obtain ⟨Ao30, co30, eo30⟩ := Kd.R_slice HO286.out; subst eo30) | ((with_reducible refine gate_callee (f := 22) rfl ?_); refine goesL_ (some 33) rfl rfl Try.func22 (by kernel_rfl) rfl #[.slice Ao30 t284.length co30, .int .i64 (Int.tmod (wrap64 (a2)) (l0.length : Int))] rfl (by (try simp only [List.map_toArray, List.map_cons, List.map_nil]); first | done | rfl | (simp only [List.length_drop, List.length_take]; rfl)) ?_; (with_reducible refine (cubbylaw09_has.calls kj3 _ _ t284 (Int.tmod (wrap64 (a2)) (l0.length : Int)) t287 _ ?side1 ?side2 A13.out).mono ?_); (case side1 => repeat (first | exact (Kd.R_reads' HO286.out).2.2 | (with_reducible refine Kd.C_alloc ?_ _) | (with_reducible refine Kd.C_drewN ?_ _) | (with_reducible refine Kd.C_drew ?_))); (case side2 => exact (Kd.R_reads' HO286.out).2.1); rintro e w' ⟨rfl, ⟨nd, rfl⟩⟩; refine ⟨_, rfl, ?_⟩) | ((with_reducible refine gate_callee (f := 16) rfl ?_); refine goesL_ (some 36) rfl rfl Try.func16 (by kernel_rfl) rfl #[.slice A0 l0.length c0, .int .i64 (Int.tmod (wrap64 (a2)) (l0.length : Int))] rfl (by (try simp only [List.map_toArray, List.map_cons, List.map_nil]); first | done | rfl | (simp only [List.length_drop, List.length_take]; rfl)) ?_; (with_reducible refine (flow_Preds.calls kj3 _ _ l0 (Int.tmod (wrap64 (a2)) (l0.length : Int)) t288 _ ?side1 ?side2 A14.out).mono ?_); (case side1 => repeat (first | exact (Kd.C_below HR0.out (by repeat (first | (with_reducible first | exact HB.out | apply below_alloc | apply pw_below_drewN | apply below_drew1) | exact HB.out))) | (with_reducible refine Kd.C_alloc ?_ _) | (with_reducible refine Kd.C_drewN ?_ _) | (with_reducible refine Kd.C_drew ?_))); (case side2 => exact HC0.out); rintro e w31 ⟨v289, rfl, ho0, hb⟩; refine ⟨_, rfl, ?_⟩; have n0_ := Aside0.mk (Kd.R_elder' (by (with_reducible repeat (first | apply Kd.R_alloc | apply Kd.R_drewN | apply Kd.R_drew)); exact HO286.out) (Kd.R_base ho0) hb); have n1_ := Aside0.mk (Kd.R_lower (Kd.R_new' ho0 (Kd.R_lt (by (with_reducible repeat (first | apply Kd.R_alloc | apply Kd.R_drewN | apply Kd.R_drew)); exact HO286.out))) (below_size (by repeat (first | (with_reducible first | exact HB.out | apply below_alloc | apply pw_below_drewN | apply below_drew1) | exact HB.out)))); have n2_ := Aside0.mk (below_step (by repeat (first | (with_reducible first | exact HB.out | apply below_alloc | apply pw_below_drewN | apply below_drew1) | exact HB.out)) hb); clear HO286; clear HB; have HO286 := n0_; have HO290 := n1_; have HB := n2_; clear n0_ n1_ n2_; (try clear hb); (try clear hb2); (try clear hk); (try clear hi); (try clear ho0); obtain ⟨Ao32, co32, eo32⟩ := Kd.R_slice HO290.out; subst eo32) | ((with_reducible refine gate_callee (f := 22) rfl ?_); refine goesL_ (some 38) rfl rfl Try.func22 (by kernel_rfl) rfl #[.slice Ao32 t288.length co32, .int .i64 (Int.tmod (wrap64 (a1)) (l0.length : Int))] rfl (by (try simp only [List.map_toArray, List.map_cons, List.map_nil]); first | done | rfl | (simp only [List.length_drop, List.length_take]; rfl)) ?_; (with_reducible refine (cubbylaw09_has.calls kj3 _ _ t288 (Int.tmod (wrap64 (a1)) (l0.length : Int)) t291 _ ?side1 ?side2 A15.out).mono ?_); (case side1 => repeat (first | exact (Kd.R_reads' HO290.out).2.2 | (with_reducible refine Kd.C_alloc ?_ _) | (with_reducible refine Kd.C_drewN ?_ _) | (with_reducible refine Kd.C_drew ?_))); (case side2 => exact (Kd.R_reads' HO290.out).2.1); rintro e w' ⟨rfl, ⟨nd, rfl⟩⟩; refine ⟨_, rfl, ?_⟩))
            go_ret
            exact ⟨by first | rfl | (simp [errW_none, errW_some] <;> rfl) | (simp [*, errW_none, errW_some] <;> rfl), by repeat (first | (with_reducible first | exact HB.out | apply below_alloc | apply pw_below_drewN | apply below_drew1) | exact HB.out)⟩

end Go.Proofs.Ytgmklfaknomakaa.Q
