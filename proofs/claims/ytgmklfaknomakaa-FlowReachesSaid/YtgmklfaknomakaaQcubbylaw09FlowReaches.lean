/- Lean functions that answer as the Go functions named below do, and the proofs of that. Written by a program out of the translation. -/
import Derived.Test.YtgmklfaknomakaaQ0
import Derived.Test.YtgmklfaknomakaaOrder
import Derived.Test.YtgmklfaknomakaaQcubbylaw09heavy
import Derived.Test.YtgmklfaknomakaaQcubbylaw09same
import Derived.Test.YtgmklfaknomakaaQcubbyref09Order
import Derived.Test.YtgmklfaknomakaaQflowPreds
import Derived.Test.YtgmklfaknomakaaQflowReach
import Derived.Test.YtgmklfaknomakaaQflowSuccs
namespace Go.Proofs.Ytgmklfaknomakaa.Q
open Go.RowKit Go.Proofs.YtgmklfaknomakaaW.PrintWords Go.Proofs.YtgmklfaknomakaaW.PrintLast Go.Proofs.YtgmklfaknomakaaW.PrintMore
attribute [local go_sem] max2_int min2_int max_two min_two max_three min_three max_four min_four   -- for this text's walks alone
set_option linter.unusedVariables false
set_option linter.unusedSimpArgs false

/-! ### cubbylaw09_FlowReaches: function 9 -/
mutual
def cubbylaw09_FlowReaches.j0 : Nat → List (List (SIns)) → List Bool → Bool → Option (Bool)
  | 0, _, _, _ => none
  | k + 1, x0, x3, x29 => if x29 = true then (some false) else (cubbylaw09_FlowReaches.l0 k x0 x3 0)
def cubbylaw09_FlowReaches.l0 : Nat → List (List (SIns)) → List Bool → Int → Option (Bool)
  | 0, _, _, _ => none
  | k + 1, x0, x3, x4 => if x4 < (x0.length : Int) then ((flow_Succs.f k x0 x4).bind fun t312 => (cubbylaw09_FlowReaches.l1 k x0 x3 x4 t312 0)) else (if (x0.length : Int) = 0 then (some true) else ((flow_Order.f k x0).bind fun t305 => ((cubbyref09_Order.f k x0).bind fun t308 => ((cubbylaw09_same.f k t305 t308).bind fun t311 => (some t311)))))
def cubbylaw09_FlowReaches.l1 : Nat → List (List (SIns)) → List Bool → Int → List Int → Int → Option (Bool)
  | 0, _, _, _, _, _ => none
  | k + 1, x0, x3, x4, x5, x6 => if x6 < (x5.length : Int) then (if 0 ≤ x4 then (if x4 < (x3.length : Int) then (if rdOf false x3 x4 = true then (if 0 ≤ x6 then (if 0 ≤ (rd x5 x6) then (if (rd x5 x6) < (x3.length : Int) then (if (rdOf false x3 (rd x5 x6) = true) then (cubbylaw09_FlowReaches.l1 k x0 x3 x4 x5 (wrap64 (x6 + 1))) else (some false)) else (none)) else (none)) else (none)) else (cubbylaw09_FlowReaches.l1 k x0 x3 x4 x5 (wrap64 (x6 + 1)))) else (none)) else (none)) else ((flow_Preds.f k x0 x4).bind fun t318 => (cubbylaw09_FlowReaches.l2 k x0 x3 x4 t318 false 0))
def cubbylaw09_FlowReaches.l2 : Nat → List (List (SIns)) → List Bool → Int → List Int → Bool → Int → Option (Bool)
  | 0, _, _, _, _, _, _ => none
  | k + 1, x0, x3, x4, x7, x8, x9 => if x9 < (x7.length : Int) then (if x8 = true then (cubbylaw09_FlowReaches.l2 k x0 x3 x4 x7 true (wrap64 (x9 + 1))) else (if 0 ≤ x9 then (if 0 ≤ (rd x7 x9) then (if (rd x7 x9) < (x3.length : Int) then (cubbylaw09_FlowReaches.l2 k x0 x3 x4 x7 (rdOf false x3 (rd x7 x9)) (wrap64 (x9 + 1))) else (none)) else (none)) else (none))) else (if x4 > 0 then (if 0 ≤ x4 then (if x4 < (x3.length : Int) then (if rdOf false x3 x4 = true then (if x8 = true then (cubbylaw09_FlowReaches.l0 k x0 x3 (wrap64 (x4 + 1))) else (some false)) else (cubbylaw09_FlowReaches.l0 k x0 x3 (wrap64 (x4 + 1)))) else (none)) else (none)) else (cubbylaw09_FlowReaches.l0 k x0 x3 (wrap64 (x4 + 1))))
end
def cubbylaw09_FlowReaches.f (k : Nat) (l0 : List (List (SIns))) : Option (Bool) := (cubbylaw09_heavy.f k l0).bind fun t300 => (if t300 = true then (some true) else ((flow_Reach.f k l0).bind fun t301 => (if (t301.length : Int) = (l0.length : Int) then (if (t301.length : Int) > 0 then (if 0 < (t301.length : Int) then (cubbylaw09_FlowReaches.j0 k l0 t301 (!(rdOf false t301 0))) else (none)) else (cubbylaw09_FlowReaches.j0 k l0 t301 false)) else (cubbylaw09_FlowReaches.j0 k l0 t301 true))))
theorem cubbylaw09_FlowReaches.mono_l : ∀ k, (∀ y0 y1 y2, LeO (cubbylaw09_FlowReaches.j0 k y0 y1 y2) (cubbylaw09_FlowReaches.j0 (k + 1) y0 y1 y2)) ∧ (∀ y0 y1 y2, LeO (cubbylaw09_FlowReaches.l0 k y0 y1 y2) (cubbylaw09_FlowReaches.l0 (k + 1) y0 y1 y2)) ∧ (∀ y0 y1 y2 y3 y4, LeO (cubbylaw09_FlowReaches.l1 k y0 y1 y2 y3 y4) (cubbylaw09_FlowReaches.l1 (k + 1) y0 y1 y2 y3 y4)) ∧ (∀ y0 y1 y2 y3 y4 y5, LeO (cubbylaw09_FlowReaches.l2 k y0 y1 y2 y3 y4 y5) (cubbylaw09_FlowReaches.l2 (k + 1) y0 y1 y2 y3 y4 y5))
  | 0 => ⟨fun _ _ _ r h => by simp [cubbylaw09_FlowReaches.j0] at h, fun _ _ _ r h => by simp [cubbylaw09_FlowReaches.l0] at h, fun _ _ _ _ _ r h => by simp [cubbylaw09_FlowReaches.l1] at h, fun _ _ _ _ _ _ r h => by simp [cubbylaw09_FlowReaches.l2] at h⟩
  | k + 1 => by
    obtain ⟨ih0, ih1, ih2, ih3⟩ := cubbylaw09_FlowReaches.mono_l k
    refine ⟨?_, ?_, ?_, ?_⟩
    · intro y0 y1 y2
      unfold cubbylaw09_FlowReaches.j0
      repeat' first
      | (with_reducible exact ih0 _ _ _)
      | (with_reducible exact ih1 _ _ _)
      | (with_reducible exact ih2 _ _ _ _ _)
      | (with_reducible exact ih3 _ _ _ _ _ _)
      | (with_reducible exact cubbylaw09_heavy.mono _ _)
      | (with_reducible exact cubbylaw09_same.mono _ _ _)
      | (with_reducible exact cubbyref09_Order.mono _ _)
      | (with_reducible exact flow_Order.mono _ _)
      | (with_reducible exact flow_Preds.mono _ _ _)
      | (with_reducible exact flow_Reach.mono _ _)
      | (with_reducible exact flow_Succs.mono _ _ _)
      | (with_reducible exact LeO.refl _)
      | (with_reducible exact LeO.none _)
      | (with_reducible refine LeO.ite ?_ ?_)
      | (with_reducible refine LeO.bind ?_ (fun _ => ?_))
      | exact ih0 _ _ _
      | exact ih1 _ _ _
      | exact ih2 _ _ _ _ _
      | exact ih3 _ _ _ _ _ _
      | exact cubbylaw09_heavy.mono _ _
      | exact cubbylaw09_same.mono _ _ _
      | exact cubbyref09_Order.mono _ _
      | exact flow_Order.mono _ _
      | exact flow_Preds.mono _ _ _
      | exact flow_Reach.mono _ _
      | exact flow_Succs.mono _ _ _
      | exact LeO.none _
      | refine LeO.ite ?_ ?_
      | refine LeO.bind ?_ (fun _ => ?_)
    · intro y0 y1 y2
      unfold cubbylaw09_FlowReaches.l0
      repeat' first
      | (with_reducible exact ih0 _ _ _)
      | (with_reducible exact ih1 _ _ _)
      | (with_reducible exact ih2 _ _ _ _ _)
      | (with_reducible exact ih3 _ _ _ _ _ _)
      | (with_reducible exact cubbylaw09_heavy.mono _ _)
      | (with_reducible exact cubbylaw09_same.mono _ _ _)
      | (with_reducible exact cubbyref09_Order.mono _ _)
      | (with_reducible exact flow_Order.mono _ _)
      | (with_reducible exact flow_Preds.mono _ _ _)
      | (with_reducible exact flow_Reach.mono _ _)
      | (with_reducible exact flow_Succs.mono _ _ _)
      | (with_reducible exact LeO.refl _)
      | (with_reducible exact LeO.none _)
      | (with_reducible refine LeO.ite ?_ ?_)
      | (with_reducible refine LeO.bind ?_ (fun _ => ?_))
      | exact ih0 _ _ _
      | exact ih1 _ _ _
      | exact ih2 _ _ _ _ _
      | exact ih3 _ _ _ _ _ _
      | exact cubbylaw09_heavy.mono _ _
      | exact cubbylaw09_same.mono _ _ _
      | exact cubbyref09_Order.mono _ _
      | exact flow_Order.mono _ _
      | exact flow_Preds.mono _ _ _
      | exact flow_Reach.mono _ _
      | exact flow_Succs.mono _ _ _
      | exact LeO.none _
      | refine LeO.ite ?_ ?_
      | refine LeO.bind ?_ (fun _ => ?_)
    · intro y0 y1 y2 y3 y4
      unfold cubbylaw09_FlowReaches.l1
      repeat' first
      | (with_reducible exact ih0 _ _ _)
      | (with_reducible exact ih1 _ _ _)
      | (with_reducible exact ih2 _ _ _ _ _)
      | (with_reducible exact ih3 _ _ _ _ _ _)
      | (with_reducible exact cubbylaw09_heavy.mono _ _)
      | (with_reducible exact cubbylaw09_same.mono _ _ _)
      | (with_reducible exact cubbyref09_Order.mono _ _)
      | (with_reducible exact flow_Order.mono _ _)
      | (with_reducible exact flow_Preds.mono _ _ _)
      | (with_reducible exact flow_Reach.mono _ _)
      | (with_reducible exact flow_Succs.mono _ _ _)
      | (with_reducible exact LeO.refl _)
      | (with_reducible exact LeO.none _)
      | (with_reducible refine LeO.ite ?_ ?_)
      | (with_reducible refine LeO.bind ?_ (fun _ => ?_))
      | exact ih0 _ _ _
      | exact ih1 _ _ _
      | exact ih2 _ _ _ _ _
      | exact ih3 _ _ _ _ _ _
      | exact cubbylaw09_heavy.mono _ _
      | exact cubbylaw09_same.mono _ _ _
      | exact cubbyref09_Order.mono _ _
      | exact flow_Order.mono _ _
      | exact flow_Preds.mono _ _ _
      | exact flow_Reach.mono _ _
      | exact flow_Succs.mono _ _ _
      | exact LeO.none _
      | refine LeO.ite ?_ ?_
      | refine LeO.bind ?_ (fun _ => ?_)
    · intro y0 y1 y2 y3 y4 y5
      unfold cubbylaw09_FlowReaches.l2
      repeat' first
      | (with_reducible exact ih0 _ _ _)
      | (with_reducible exact ih1 _ _ _)
      | (with_reducible exact ih2 _ _ _ _ _)
      | (with_reducible exact ih3 _ _ _ _ _ _)
      | (with_reducible exact cubbylaw09_heavy.mono _ _)
      | (with_reducible exact cubbylaw09_same.mono _ _ _)
      | (with_reducible exact cubbyref09_Order.mono _ _)
      | (with_reducible exact flow_Order.mono _ _)
      | (with_reducible exact flow_Preds.mono _ _ _)
      | (with_reducible exact flow_Reach.mono _ _)
      | (with_reducible exact flow_Succs.mono _ _ _)
      | (with_reducible exact LeO.refl _)
      | (with_reducible exact LeO.none _)
      | (with_reducible refine LeO.ite ?_ ?_)
      | (with_reducible refine LeO.bind ?_ (fun _ => ?_))
      | exact ih0 _ _ _
      | exact ih1 _ _ _
      | exact ih2 _ _ _ _ _
      | exact ih3 _ _ _ _ _ _
      | exact cubbylaw09_heavy.mono _ _
      | exact cubbylaw09_same.mono _ _ _
      | exact cubbyref09_Order.mono _ _
      | exact flow_Order.mono _ _
      | exact flow_Preds.mono _ _ _
      | exact flow_Reach.mono _ _
      | exact flow_Succs.mono _ _ _
      | exact LeO.none _
      | refine LeO.ite ?_ ?_
      | refine LeO.bind ?_ (fun _ => ?_)
theorem cubbylaw09_FlowReaches.mono : ∀ a0 k, LeO (cubbylaw09_FlowReaches.f k a0) (cubbylaw09_FlowReaches.f (k + 1) a0) := by
  intro a0 k
  obtain ⟨ih0, ih1, ih2, ih3⟩ := cubbylaw09_FlowReaches.mono_l k
  unfold cubbylaw09_FlowReaches.f
  repeat' first
      | (with_reducible exact ih0 _ _ _)
      | (with_reducible exact ih1 _ _ _)
      | (with_reducible exact ih2 _ _ _ _ _)
      | (with_reducible exact ih3 _ _ _ _ _ _)
      | (with_reducible exact cubbylaw09_heavy.mono _ _)
      | (with_reducible exact cubbylaw09_same.mono _ _ _)
      | (with_reducible exact cubbyref09_Order.mono _ _)
      | (with_reducible exact flow_Order.mono _ _)
      | (with_reducible exact flow_Preds.mono _ _ _)
      | (with_reducible exact flow_Reach.mono _ _)
      | (with_reducible exact flow_Succs.mono _ _ _)
      | (with_reducible exact LeO.refl _)
      | (with_reducible exact LeO.none _)
      | (with_reducible refine LeO.ite ?_ ?_)
      | (with_reducible refine LeO.bind ?_ (fun _ => ?_))
      | exact ih0 _ _ _
      | exact ih1 _ _ _
      | exact ih2 _ _ _ _ _
      | exact ih3 _ _ _ _ _ _
      | exact cubbylaw09_heavy.mono _ _
      | exact cubbylaw09_same.mono _ _ _
      | exact cubbyref09_Order.mono _ _
      | exact flow_Order.mono _ _
      | exact flow_Preds.mono _ _ _
      | exact flow_Reach.mono _ _
      | exact flow_Succs.mono _ _ _
      | exact LeO.none _
      | refine LeO.ite ?_ ?_
      | refine LeO.bind ?_ (fun _ => ?_)
set_option maxHeartbeats 8000000 in
set_option maxRecDepth 100000 in
theorem cubbylaw09_FlowReaches.calls (k : Nat) (A0 : Option Addr) (c0 : Nat) (l0 : List (List (SIns))) (r : Bool) (w : World) (hr0 : Kd.C (Kd.slice 37 kIns) w A0 l0.length l0) (hc0 : l0.length ≤ c0) (h : cubbylaw09_FlowReaches.f k l0 = some r) :
    Calls Try.prog 9 #[.slice A0 l0.length c0] w fun e w' => e = .returned (.bool r) ∧ Below w.heap.size w w' := by
  have HR0 := Aside0.mk hr0
  have HC0 := Aside0.mk hc0
  clear hr0 hc0
  have HB := Aside0.mk (Below.refl w.heap.size w)
  have H : ((cubbylaw09_heavy.f k l0).bind fun t300 => (if t300 = true then (some true) else ((flow_Reach.f k l0).bind fun t301 => (if (t301.length : Int) = (l0.length : Int) then (if (t301.length : Int) > 0 then (if 0 < (t301.length : Int) then (cubbylaw09_FlowReaches.j0 k l0 t301 (!(rdOf false t301 0))) else (none)) else (cubbylaw09_FlowReaches.j0 k l0 t301 false)) else (cubbylaw09_FlowReaches.j0 k l0 t301 true))))) = some r := h
  clear h
  replace H := Option.bind_eq_some_iff.mp H
  obtain ⟨t300, A20, H⟩ := H
  replace H : (if t300 = true then (some true) else ((flow_Reach.f k l0).bind fun t301 => (if (t301.length : Int) = (l0.length : Int) then (if (t301.length : Int) > 0 then (if 0 < (t301.length : Int) then (cubbylaw09_FlowReaches.j0 k l0 t301 (!(rdOf false t301 0))) else (none)) else (cubbylaw09_FlowReaches.j0 k l0 t301 false)) else (cubbylaw09_FlowReaches.j0 k l0 t301 true)))) = some r := H
  have A2 := Aside0.mk A20
  clear A20
  by_cases c3 : t300 = true
  · subst c3
    have H1 : (some true) = some r := by rw [if_pos rfl] at H; exact H
    clear H
    have H := H1
    clear H1
    obtain rfl := Option.some.inj H
    go_enter Try.func9, Try.ntmps9
    go_wp2_with (first | ((with_reducible refine gate_callee (f := 12) rfl ?_); refine goesL_ (some 11) rfl rfl Try.func12 (by kernel_rfl) rfl #[.slice A0 l0.length c0] rfl (by (try simp only [List.map_toArray, List.map_cons, List.map_nil]); first | done | rfl | (simp only [List.length_drop, List.length_take]; rfl)) ?_; (with_reducible refine (cubbylaw09_heavy.calls k _ _ l0 true _ ?side1 ?side2 A2.out).mono ?_); (case side1 => repeat (first | exact HR0.out | (with_reducible refine Kd.C_alloc ?_ _) | (with_reducible refine Kd.C_drewN ?_ _) | (with_reducible refine Kd.C_drew ?_))); (case side2 => exact HC0.out); rintro e w' ⟨rfl, ⟨nd, rfl⟩⟩; refine ⟨_, rfl, ?_⟩))
    go_ret
    exact ⟨by first | rfl | (simp [errW_none, errW_some] <;> rfl) | (simp [*, errW_none, errW_some] <;> rfl), by repeat (first | (with_reducible first | exact HB.out | apply below_alloc | apply pw_below_drewN | apply below_drew1) | exact HB.out)⟩
  · replace c3 := Bool.eq_false_iff.mpr c3
    subst c3
    have H1 : ((flow_Reach.f k l0).bind fun t301 => (if (t301.length : Int) = (l0.length : Int) then (if (t301.length : Int) > 0 then (if 0 < (t301.length : Int) then (cubbylaw09_FlowReaches.j0 k l0 t301 (!(rdOf false t301 0))) else (none)) else (cubbylaw09_FlowReaches.j0 k l0 t301 false)) else (cubbylaw09_FlowReaches.j0 k l0 t301 true))) = some r := by rw [if_neg (show ¬ (false = true) by decide)] at H; exact H
    clear H
    have H := H1
    clear H1
    replace H := Option.bind_eq_some_iff.mp H
    obtain ⟨t301, A40, H⟩ := H
    replace H : (if (t301.length : Int) = (l0.length : Int) then (if (t301.length : Int) > 0 then (if 0 < (t301.length : Int) then (cubbylaw09_FlowReaches.j0 k l0 t301 (!(rdOf false t301 0))) else (none)) else (cubbylaw09_FlowReaches.j0 k l0 t301 false)) else (cubbylaw09_FlowReaches.j0 k l0 t301 true)) = some r := H
    have A4 := Aside0.mk A40
    clear A40
    have HC5 := Aside0.mk H
    clear H
    go_enter Try.func9, Try.ntmps9
    go_upto_region 4 with (first | ((with_reducible refine gate_callee (f := 12) rfl ?_); refine goesL_ (some 11) rfl rfl Try.func12 (by kernel_rfl) rfl #[.slice A0 l0.length c0] rfl (by (try simp only [List.map_toArray, List.map_cons, List.map_nil]); first | done | rfl | (simp only [List.length_drop, List.length_take]; rfl)) ?_; (with_reducible refine (cubbylaw09_heavy.calls k _ _ l0 false _ ?side1 ?side2 A2.out).mono ?_); (case side1 => repeat (first | exact HR0.out | (with_reducible refine Kd.C_alloc ?_ _) | (with_reducible refine Kd.C_drewN ?_ _) | (with_reducible refine Kd.C_drew ?_))); (case side2 => exact HC0.out); rintro e w' ⟨rfl, ⟨nd, rfl⟩⟩; refine ⟨_, rfl, ?_⟩) | ((with_reducible refine gate_callee (f := 21) rfl ?_); refine goesL_ (some 13) rfl rfl Try.func21 (by kernel_rfl) rfl #[.slice A0 l0.length c0] rfl (by (try simp only [List.map_toArray, List.map_cons, List.map_nil]); first | done | rfl | (simp only [List.length_drop, List.length_take]; rfl)) ?_; (with_reducible refine (flow_Reach.calls k _ _ l0 t301 _ ?side1 ?side2 A4.out).mono ?_); (case side1 => repeat (first | exact HR0.out | (with_reducible refine Kd.C_alloc ?_ _) | (with_reducible refine Kd.C_drewN ?_ _) | (with_reducible refine Kd.C_drew ?_))); (case side2 => exact HC0.out); rintro e w6 ⟨v302, rfl, ho0, hb⟩; refine ⟨_, rfl, ?_⟩; have n0_ := Aside0.mk (Kd.R_lower ho0 (below_size (by repeat (first | (with_reducible first | exact HB.out | apply below_alloc | apply pw_below_drewN | apply below_drew1) | exact HB.out)))); have n1_ := Aside0.mk (below_step (by repeat (first | (with_reducible first | exact HB.out | apply below_alloc | apply pw_below_drewN | apply below_drew1) | exact HB.out)) hb); clear HB; have HO303 := n0_; have HB := n1_; clear n0_ n1_; (try clear hb); (try clear hb2); (try clear hk); (try clear hi); (try clear ho0)))
    (try simp only [Act.put, List.setIfInBounds_toArray, List.set_cons_zero, List.set_cons_succ])
    go_cut [29] (fun v29 wc => ∃ (kq : Nat) (x29_4 : Bool), v29 = .bool x29_4 ∧ Aside0 (cubbylaw09_FlowReaches.j0 kq l0 t301 x29_4 = some r) ∧ Aside0 (kq ≤ k) ∧ Aside0 (Kd.R Kd.bool 4 wc w.heap.size (fun _ => True) v302 t301) ∧ Aside0 (Below w.heap.size w wc))
    case first =>
      have H := HC5.out
      clear HC5
      by_cases c7 : (t301.length : Int) = (l0.length : Int)
      · rw [if_pos c7] at H
        have c7b0 : ((t301.length : Int) == (l0.length : Int)) = true := beq_iff_eq.mpr c7
        have c7b1 : ((t301.length : Int) != (l0.length : Int)) = false := bne_eq_false_iff_eq.mpr c7
        have c7b2 : (t301.length == l0.length) = true := by first | simpa using c7 | (simp at c7 ⊢; omega)
        clear c7
        (first | rw [c7b0] | (simp only [i64_w, i32_w]; rw [c7b0]) | skip)
        by_cases c8 : (t301.length : Int) > 0
        · rw [if_pos c8] at H
          have c8b0 : decide (0 < (t301.length : Int)) = true := decide_eq_true c8
          have c8b1 : decide (0 < t301.length) = true := decide_eq_true (by omega)
          clear c8
          by_cases c9 : 0 < (t301.length : Int)
          · rw [if_pos c9] at H
            have c9b0 : decide (0 < (t301.length : Int)) = true := decide_eq_true c9
            have c9b1 : decide (0 < t301.length) = true := decide_eq_true (by omega)
            clear c9
            have H' := Aside0.mk H
            clear H
            obtain ⟨Ao10, co10, eo10⟩ := Kd.R_slice HO303.out
            subst eo10
            have p304 : 0 ≤ (0 : Int) := (by omega)
            have q304 : 0 < (t301.length : Int) := of_decide_eq_true (by first | (with_reducible assumption) | assumption)
            obtain ⟨ad304, e304, hx304_0⟩ := Kd.at_bool (Kd.R_reads' HO303.out).2.2 0 p304 q304
            cases e304
            have qi304 : (0 < t301.length) = True := eq_true (by omega)
            (try rw [show ((0 : Int)).toNat = 0 from rfl] at hx304_0)
            (try rw [Addr.add_zero'] at hx304_0)
            replace p304 := eq_true p304
            replace q304 := eq_true q304
            go_wp2
            go_meet
            case rel => exact ⟨_, (!(rdOf false t301 0)), (by first | rfl | (simp; done) | (simp [*]; done)), H', ⟨by first | omega | exact Nat.le_refl _⟩, ⟨by (with_reducible repeat (first | apply Kd.R_alloc | apply Kd.R_drewN | apply Kd.R_drew)); exact HO303.out⟩, ⟨by repeat (first | (with_reducible first | exact HB.out | apply below_alloc | apply pw_below_drewN | apply below_drew1) | exact HB.out)⟩⟩
          · rw [if_neg c9] at H
            exact absurd H (by simp)
        · rw [if_neg c8] at H
          have c8b0 : decide (0 < (t301.length : Int)) = false := decide_eq_false c8
          have c8b1 : decide (0 < t301.length) = false := decide_eq_false (by omega)
          clear c8
          have H' := Aside0.mk H
          clear H
          obtain ⟨Ao11, co11, eo11⟩ := Kd.R_slice HO303.out
          subst eo11
          go_wp2
          go_meet
          case rel => exact ⟨_, (false), (by first | rfl | (simp; done) | (simp [*]; done)), H', ⟨by first | omega | exact Nat.le_refl _⟩, ⟨by (with_reducible repeat (first | apply Kd.R_alloc | apply Kd.R_drewN | apply Kd.R_drew)); exact HO303.out⟩, ⟨by repeat (first | (with_reducible first | exact HB.out | apply below_alloc | apply pw_below_drewN | apply below_drew1) | exact HB.out)⟩⟩
      · rw [if_neg c7] at H
        have c7b0 : ((t301.length : Int) == (l0.length : Int)) = false := beq_eq_false_iff_ne.mpr c7
        have c7b1 : ((t301.length : Int) != (l0.length : Int)) = true := bne_iff_ne.mpr c7
        have c7b2 : (t301.length == l0.length) = false := by first | simpa using c7 | (simp at c7 ⊢; omega)
        (first | rw [c7b0] | (simp only [i64_w, i32_w]; rw [c7b0]) | skip)
        have H' := Aside0.mk H
        clear H
        obtain ⟨Ao12, co12, eo12⟩ := Kd.R_slice HO303.out
        subst eo12
        go_wp2
        go_meet
        case rel => exact ⟨_, (true), (by first | rfl | (simp; done) | (simp [*]; done)), H', ⟨by first | omega | exact Nat.le_refl _⟩, ⟨by (with_reducible repeat (first | apply Kd.R_alloc | apply Kd.R_drewN | apply Kd.R_drew)); exact HO303.out⟩, ⟨by repeat (first | (with_reducible first | exact HB.out | apply below_alloc | apply pw_below_drewN | apply below_drew1) | exact HB.out)⟩⟩
    case rest =>
      clear HC5
      try clear c1
      try clear c2
      try clear p2
      try clear c3
      try clear p3
      try clear q3
      try clear hx3
      try clear qi3
      try clear c7
      try clear c7b0
      try clear c7b1
      try clear c7b2
      try clear c8
      try clear c8b0
      try clear c8b1
      try clear c9
      try clear c9b0
      try clear c9b1
      try clear c12
      try clear hx304_0
      try clear p304
      try clear q304
      obtain ⟨kq, x29_4, rfl, HA, HJ4, HO_3, HB⟩ := hcut
      cases kq with
      | zero => exact absurd HA.out (by simp [cubbylaw09_FlowReaches.j0])
      | succ kj4 =>
        have H := HA.out
        clear HA
        simp only [cubbylaw09_FlowReaches.j0] at H
        by_cases c13 : x29_4 = true
        · subst c13
          have H1 : (some false) = some r := by rw [if_pos rfl] at H; exact H
          clear H
          have H := H1
          clear H1
          obtain rfl := Option.some.inj H
          go_wp2
          go_ret
          exact ⟨by first | rfl | (simp [errW_none, errW_some] <;> rfl) | (simp [*, errW_none, errW_some] <;> rfl), by repeat (first | (with_reducible first | exact HB.out | apply below_alloc | apply pw_below_drewN | apply below_drew1) | exact HB.out)⟩
        · replace c13 := Bool.eq_false_iff.mpr c13
          subst c13
          have H1 : (cubbylaw09_FlowReaches.l0 kj4 l0 t301 0) = some r := by rw [if_neg (show ¬ (false = true) by decide)] at H; exact H
          clear H
          have H := H1
          clear H1
          have H' := Aside0.mk H
          clear H
          go_wp2
          go_loopg [4] kj4 (fun kq v4 w' => ∃ (x4_2 : Int), v4 = .int .i64 x4_2 ∧ Aside0 (cubbylaw09_FlowReaches.l0 kq l0 t301 x4_2 = some r) ∧ Aside0 (kq ≤ kj4) ∧ Aside0 (Kd.R Kd.bool 4 w' w.heap.size (fun _ => True) v302 t301) ∧ Aside0 (Below w.heap.size w w'))
          case atStart => exact ⟨(0), (by first | rfl | (simp; done) | (simp [*]; done)), H', ⟨Nat.le_refl _⟩, ⟨by (with_reducible repeat (first | apply Kd.R_alloc | apply Kd.R_drewN | apply Kd.R_drew)); exact HO_3.out⟩, ⟨by repeat (first | (with_reducible first | exact HB.out | apply below_alloc | apply pw_below_drewN | apply below_drew1) | exact HB.out)⟩⟩
          case round =>
            clear H'
            try clear c1
            try clear c2
            try clear p2
            try clear c3
            try clear p3
            try clear q3
            try clear hx3
            try clear qi3
            try clear c7
            try clear c7b0
            try clear c7b1
            try clear c7b2
            try clear c8
            try clear c8b0
            try clear c8b1
            try clear c9
            try clear c9b0
            try clear c9b1
            try clear c12
            try clear c13
            try clear hx304_0
            try clear p2
            try clear p3
            try clear p304
            try clear q3
            try clear q304
            obtain ⟨x4_2, rfl, HA, HK2, HO_3, HB⟩ := hrel
            cases gk with
            | zero => exact absurd HA.out (by simp [cubbylaw09_FlowReaches.l0])
            | succ k2 =>
              have H := HA.out
              clear HA
              simp only [cubbylaw09_FlowReaches.l0] at H
              by_cases c14 : x4_2 < (l0.length : Int)
              · rw [if_pos c14] at H
                have c14b0 : decide (x4_2 < (l0.length : Int)) = true := decide_eq_true c14
                clear c14
                replace H := Option.bind_eq_some_iff.mp H
                obtain ⟨t312, A150, H⟩ := H
                replace H : (cubbylaw09_FlowReaches.l1 k2 l0 t301 x4_2 t312 0) = some r := H
                have A15 := Aside0.mk A150
                clear A150
                have H' := Aside0.mk H
                clear H
                go_wp2_with (first | ((with_reducible refine gate_callee (f := 14) rfl ?_); refine goesL_ (some 38) rfl rfl Try.func14 (by kernel_rfl) rfl #[.slice A0 l0.length c0, .int .i64 x4_2] rfl (by (try simp only [List.map_toArray, List.map_cons, List.map_nil]); first | done | rfl | (simp only [List.length_drop, List.length_take]; rfl)) ?_; (with_reducible refine (flow_Succs.calls k2 _ _ l0 x4_2 t312 _ ?side1 ?side2 A15.out).mono ?_); (case side1 => repeat (first | exact (Kd.C_below HR0.out HB.out) | (with_reducible refine Kd.C_alloc ?_ _) | (with_reducible refine Kd.C_drewN ?_ _) | (with_reducible refine Kd.C_drew ?_))); (case side2 => exact HC0.out); rintro e w16 ⟨v313, rfl, ho0, hb⟩; refine ⟨_, rfl, ?_⟩; have n0_ := Aside0.mk (Kd.R_below (by (with_reducible repeat (first | apply Kd.R_alloc | apply Kd.R_drewN | apply Kd.R_drew)); exact HO_3.out) hb); have n1_ := Aside0.mk (Kd.R_lower ho0 (below_size (by repeat (first | (with_reducible first | exact HB.out | apply below_alloc | apply pw_below_drewN | apply below_drew1) | exact HB.out)))); have n2_ := Aside0.mk (below_step (by repeat (first | (with_reducible first | exact HB.out | apply below_alloc | apply pw_below_drewN | apply below_drew1) | exact HB.out)) hb); clear HO_3; clear HB; have HO_3 := n0_; have HO314 := n1_; have HB := n2_; clear n0_ n1_ n2_; (try clear hb); (try clear hb2); (try clear hk); (try clear hi); (try clear ho0)))
                go_loopg [6] k2 (fun kq v6 w' => ∃ (x6_3 : Int), v6 = .int .i64 x6_3 ∧ Aside0 (cubbylaw09_FlowReaches.l1 kq l0 t301 x4_2 t312 x6_3 = some r) ∧ Aside0 (kq ≤ k2) ∧ Aside0 (Kd.R Kd.bool 4 w' w.heap.size (fun _ => True) v302 t301) ∧ Aside0 (Kd.R (Kd.int .i64) 3 w' w.heap.size (fun _ => True) v313 t312) ∧ Aside0 (Below w.heap.size w w'))
                case atStart => exact ⟨(0), (by first | rfl | (simp; done) | (simp [*]; done)), H', ⟨Nat.le_refl _⟩, ⟨by (with_reducible repeat (first | apply Kd.R_alloc | apply Kd.R_drewN | apply Kd.R_drew)); exact HO_3.out⟩, ⟨by (with_reducible repeat (first | apply Kd.R_alloc | apply Kd.R_drewN | apply Kd.R_drew)); exact HO314.out⟩, ⟨by repeat (first | (with_reducible first | exact HB.out | apply below_alloc | apply pw_below_drewN | apply below_drew1) | exact HB.out)⟩⟩
                case round =>
                  clear H'
                  try clear c1
                  try clear c2
                  try clear p2
                  try clear c3
                  try clear p3
                  try clear q3
                  try clear hx3
                  try clear qi3
                  try clear c7
                  try clear c7b0
                  try clear c7b1
                  try clear c7b2
                  try clear c8
                  try clear c8b0
                  try clear c8b1
                  try clear c9
                  try clear c9b0
                  try clear c9b1
                  try clear c12
                  try clear c13
                  try clear c14
                  try clear c14b0
                  try clear hx304_0
                  try clear p2
                  try clear p3
                  try clear p304
                  try clear q3
                  try clear q304
                  obtain ⟨x6_3, rfl, HA, HK3, HO_3, HO_5, HB⟩ := hrel
                  cases gk with
                  | zero => exact absurd HA.out (by simp [cubbylaw09_FlowReaches.l1])
                  | succ k3 =>
                    have H := HA.out
                    clear HA
                    simp only [cubbylaw09_FlowReaches.l1] at H
                    by_cases c17 : x6_3 < (t312.length : Int)
                    · rw [if_pos c17] at H
                      have c17b0 : decide (x6_3 < (t312.length : Int)) = true := decide_eq_true c17
                      clear c17
                      by_cases c18 : 0 ≤ x4_2
                      · rw [if_pos c18] at H
                        have c18b0 : decide (0 ≤ x4_2) = true := decide_eq_true c18
                        clear c18
                        by_cases c19 : x4_2 < (t301.length : Int)
                        · rw [if_pos c19] at H
                          have c19b0 : decide (x4_2 < (t301.length : Int)) = true := decide_eq_true c19
                          clear c19
                          obtain ⟨bq20, hbq20⟩ : ∃ b_ : Bool, b_ = (rdOf false t301 x4_2) := ⟨_, rfl⟩
                          replace H : (if bq20 = true then (if 0 ≤ x6_3 then (if 0 ≤ (rd t312 x6_3) then (if (rd t312 x6_3) < (t301.length : Int) then (if (rdOf false t301 (rd t312 x6_3) = true) then (cubbylaw09_FlowReaches.l1 k3 l0 t301 x4_2 t312 (wrap64 (x6_3 + 1))) else (some false)) else (none)) else (none)) else (none)) else (cubbylaw09_FlowReaches.l1 k3 l0 t301 x4_2 t312 (wrap64 (x6_3 + 1)))) = some r := by rw [← hbq20] at H; exact H
                          have Nbq20 := Aside0.mk hbq20
                          clear hbq20
                          by_cases c21 : bq20 = true
                          · subst c21
                            have H1 : (if 0 ≤ x6_3 then (if 0 ≤ (rd t312 x6_3) then (if (rd t312 x6_3) < (t301.length : Int) then (if (rdOf false t301 (rd t312 x6_3) = true) then (cubbylaw09_FlowReaches.l1 k3 l0 t301 x4_2 t312 (wrap64 (x6_3 + 1))) else (some false)) else (none)) else (none)) else (none)) = some r := by rw [if_pos rfl] at H; exact H
                            clear H
                            have H := H1
                            clear H1
                            by_cases c22 : 0 ≤ x6_3
                            · rw [if_pos c22] at H
                              have c22b0 : decide (0 ≤ x6_3) = true := decide_eq_true c22
                              clear c22
                              by_cases c23 : 0 ≤ (rd t312 x6_3)
                              · rw [if_pos c23] at H
                                have c23b0 : decide (0 ≤ (rd t312 x6_3)) = true := decide_eq_true c23
                                clear c23
                                by_cases c24 : (rd t312 x6_3) < (t301.length : Int)
                                · rw [if_pos c24] at H
                                  have c24b0 : decide ((rd t312 x6_3) < (t301.length : Int)) = true := decide_eq_true c24
                                  clear c24
                                  obtain ⟨bq25, hbq25⟩ : ∃ b_ : Bool, b_ = (rdOf false t301 (rd t312 x6_3)) := ⟨_, rfl⟩
                                  replace H : (if (bq25 = true) then (cubbylaw09_FlowReaches.l1 k3 l0 t301 x4_2 t312 (wrap64 (x6_3 + 1))) else (some false)) = some r := by rw [← hbq25] at H; exact H
                                  have Nbq25 := Aside0.mk hbq25
                                  clear hbq25
                                  by_cases c26 : (bq25 = true)
                                  · subst c26
                                    have H1 : (cubbylaw09_FlowReaches.l1 k3 l0 t301 x4_2 t312 (wrap64 (x6_3 + 1))) = some r := by rw [if_pos rfl] at H; exact H
                                    clear H
                                    have H := H1
                                    clear H1
                                    have H' := Aside0.mk H
                                    clear H
                                    obtain ⟨Ao27, co27, eo27⟩ := Kd.R_slice HO_5.out
                                    subst eo27
                                    obtain ⟨Ao28, co28, eo28⟩ := Kd.R_slice HO_3.out
                                    subst eo28
                                    have p315 : 0 ≤ (x4_2 : Int) := of_decide_eq_true (by first | (with_reducible assumption) | assumption)
                                    have q315 : x4_2 < (t301.length : Int) := of_decide_eq_true (by first | (with_reducible assumption) | assumption)
                                    obtain ⟨ad315, e315, hx315_0⟩ := Kd.at_bool (Kd.R_reads' HO_3.out).2.2 x4_2 p315 q315
                                    (try rw [← Nbq20.out] at hx315_0)
                                    (try rw [← Nbq25.out] at hx315_0)
                                    cases e315
                                    replace p315 := eq_true p315
                                    replace q315 := eq_true q315
                                    have p316 : 0 ≤ (x6_3 : Int) := of_decide_eq_true (by first | (with_reducible assumption) | assumption)
                                    have q316 : x6_3 < (t312.length : Int) := of_decide_eq_true (by first | (with_reducible assumption) | assumption)
                                    obtain ⟨ad316, e316, hx316_0⟩ := Kd.at_int (Kd.R_reads' HO_5.out).2.2 x6_3 p316 q316
                                    cases e316
                                    replace p316 := eq_true p316
                                    replace q316 := eq_true q316
                                    have p317 : 0 ≤ ((rd t312 x6_3) : Int) := of_decide_eq_true (by first | (with_reducible assumption) | assumption)
                                    have q317 : (rd t312 x6_3) < (t301.length : Int) := of_decide_eq_true (by first | (with_reducible assumption) | assumption)
                                    obtain ⟨ad317, e317, hx317_0⟩ := Kd.at_bool (Kd.R_reads' HO_3.out).2.2 (rd t312 x6_3) p317 q317
                                    (try rw [← Nbq20.out] at hx317_0)
                                    (try rw [← Nbq25.out] at hx317_0)
                                    obtain rfl : ad315 = ad317 := (by injection e317)
                                    replace p317 := eq_true p317
                                    replace q317 := eq_true q317
                                    go_wp2
                                    go_roundg k3
                                    case measure => have := HJ4.out; have := HK2.out; have := HK3.out; omega
                                    case rel => exact ⟨(wrap64 (x6_3 + 1)), (by first | rfl | (simp; done) | (simp [*]; done)), H', ⟨by have := HJ4.out; have := HK2.out; have := HK3.out; omega⟩, ⟨by (with_reducible repeat (first | apply Kd.R_alloc | apply Kd.R_drewN | apply Kd.R_drew)); exact HO_3.out⟩, ⟨by (with_reducible repeat (first | apply Kd.R_alloc | apply Kd.R_drewN | apply Kd.R_drew)); exact HO_5.out⟩, ⟨by repeat (first | (with_reducible first | exact HB.out | apply below_alloc | apply pw_below_drewN | apply below_drew1) | exact HB.out)⟩⟩
                                  · replace c26 := Bool.eq_false_iff.mpr c26
                                    subst c26
                                    have H1 : (some false) = some r := by rw [if_neg (show ¬ (false = true) by decide)] at H; exact H
                                    clear H
                                    have H := H1
                                    clear H1
                                    obtain rfl := Option.some.inj H
                                    obtain ⟨Ao29, co29, eo29⟩ := Kd.R_slice HO_5.out
                                    subst eo29
                                    obtain ⟨Ao30, co30, eo30⟩ := Kd.R_slice HO_3.out
                                    subst eo30
                                    have p315 : 0 ≤ (x4_2 : Int) := of_decide_eq_true (by first | (with_reducible assumption) | assumption)
                                    have q315 : x4_2 < (t301.length : Int) := of_decide_eq_true (by first | (with_reducible assumption) | assumption)
                                    obtain ⟨ad315, e315, hx315_0⟩ := Kd.at_bool (Kd.R_reads' HO_3.out).2.2 x4_2 p315 q315
                                    (try rw [← Nbq20.out] at hx315_0)
                                    (try rw [← Nbq25.out] at hx315_0)
                                    cases e315
                                    replace p315 := eq_true p315
                                    replace q315 := eq_true q315
                                    have p316 : 0 ≤ (x6_3 : Int) := of_decide_eq_true (by first | (with_reducible assumption) | assumption)
                                    have q316 : x6_3 < (t312.length : Int) := of_decide_eq_true (by first | (with_reducible assumption) | assumption)
                                    obtain ⟨ad316, e316, hx316_0⟩ := Kd.at_int (Kd.R_reads' HO_5.out).2.2 x6_3 p316 q316
                                    cases e316
                                    replace p316 := eq_true p316
                                    replace q316 := eq_true q316
                                    have p317 : 0 ≤ ((rd t312 x6_3) : Int) := of_decide_eq_true (by first | (with_reducible assumption) | assumption)
                                    have q317 : (rd t312 x6_3) < (t301.length : Int) := of_decide_eq_true (by first | (with_reducible assumption) | assumption)
                                    obtain ⟨ad317, e317, hx317_0⟩ := Kd.at_bool (Kd.R_reads' HO_3.out).2.2 (rd t312 x6_3) p317 q317
                                    (try rw [← Nbq20.out] at hx317_0)
                                    (try rw [← Nbq25.out] at hx317_0)
                                    obtain rfl : ad315 = ad317 := (by injection e317)
                                    replace p317 := eq_true p317
                                    replace q317 := eq_true q317
                                    go_wp2
                                    go_ret
                                    exact ⟨by first | rfl | (simp [errW_none, errW_some] <;> rfl) | (simp [*, errW_none, errW_some] <;> rfl), by repeat (first | (with_reducible first | exact HB.out | apply below_alloc | apply pw_below_drewN | apply below_drew1) | exact HB.out)⟩
                                · rw [if_neg c24] at H
                                  exact absurd H (by simp)
                              · rw [if_neg c23] at H
                                exact absurd H (by simp)
                            · rw [if_neg c22] at H
                              exact absurd H (by simp)
                          · replace c21 := Bool.eq_false_iff.mpr c21
                            subst c21
                            have H1 : (cubbylaw09_FlowReaches.l1 k3 l0 t301 x4_2 t312 (wrap64 (x6_3 + 1))) = some r := by rw [if_neg (show ¬ (false = true) by decide)] at H; exact H
                            clear H
                            have H := H1
                            clear H1
                            have H' := Aside0.mk H
                            clear H
                            obtain ⟨Ao31, co31, eo31⟩ := Kd.R_slice HO_5.out
                            subst eo31
                            obtain ⟨Ao32, co32, eo32⟩ := Kd.R_slice HO_3.out
                            subst eo32
                            have p315 : 0 ≤ (x4_2 : Int) := of_decide_eq_true (by first | (with_reducible assumption) | assumption)
                            have q315 : x4_2 < (t301.length : Int) := of_decide_eq_true (by first | (with_reducible assumption) | assumption)
                            obtain ⟨ad315, e315, hx315_0⟩ := Kd.at_bool (Kd.R_reads' HO_3.out).2.2 x4_2 p315 q315
                            (try rw [← Nbq20.out] at hx315_0)
                            cases e315
                            replace p315 := eq_true p315
                            replace q315 := eq_true q315
                            go_wp2
                            go_roundg k3
                            case measure => have := HJ4.out; have := HK2.out; have := HK3.out; omega
                            case rel => exact ⟨(wrap64 (x6_3 + 1)), (by first | rfl | (simp; done) | (simp [*]; done)), H', ⟨by have := HJ4.out; have := HK2.out; have := HK3.out; omega⟩, ⟨by (with_reducible repeat (first | apply Kd.R_alloc | apply Kd.R_drewN | apply Kd.R_drew)); exact HO_3.out⟩, ⟨by (with_reducible repeat (first | apply Kd.R_alloc | apply Kd.R_drewN | apply Kd.R_drew)); exact HO_5.out⟩, ⟨by repeat (first | (with_reducible first | exact HB.out | apply below_alloc | apply pw_below_drewN | apply below_drew1) | exact HB.out)⟩⟩
                        · rw [if_neg c19] at H
                          exact absurd H (by simp)
                      · rw [if_neg c18] at H
                        exact absurd H (by simp)
                    · rw [if_neg c17] at H
                      have c17b0 : decide (x6_3 < (t312.length : Int)) = false := decide_eq_false c17
                      clear c17
                      replace H := Option.bind_eq_some_iff.mp H
                      obtain ⟨t318, A330, H⟩ := H
                      replace H : (cubbylaw09_FlowReaches.l2 k3 l0 t301 x4_2 t318 false 0) = some r := H
                      have A33 := Aside0.mk A330
                      clear A330
                      have H' := Aside0.mk H
                      clear H
                      obtain ⟨Ao34, co34, eo34⟩ := Kd.R_slice HO_5.out
                      subst eo34
                      go_wp2_with (first | ((with_reducible refine gate_callee (f := 16) rfl ?_); refine goesL_ (some 61) rfl rfl Try.func16 (by kernel_rfl) rfl #[.slice A0 l0.length c0, .int .i64 x4_2] rfl (by (try simp only [List.map_toArray, List.map_cons, List.map_nil]); first | done | rfl | (simp only [List.length_drop, List.length_take]; rfl)) ?_; (with_reducible refine (flow_Preds.calls k3 _ _ l0 x4_2 t318 _ ?side1 ?side2 A33.out).mono ?_); (case side1 => repeat (first | exact (Kd.C_below HR0.out HB.out) | (with_reducible refine Kd.C_alloc ?_ _) | (with_reducible refine Kd.C_drewN ?_ _) | (with_reducible refine Kd.C_drew ?_))); (case side2 => exact HC0.out); rintro e w35 ⟨v319, rfl, ho0, hb⟩; refine ⟨_, rfl, ?_⟩; have n0_ := Aside0.mk (Kd.R_below (by (with_reducible repeat (first | apply Kd.R_alloc | apply Kd.R_drewN | apply Kd.R_drew)); exact HO_3.out) hb); have n1_ := Aside0.mk (Kd.R_elder' (by (with_reducible repeat (first | apply Kd.R_alloc | apply Kd.R_drewN | apply Kd.R_drew)); exact HO_5.out) (Kd.R_base ho0) hb); have n2_ := Aside0.mk (Kd.R_lower (Kd.R_new' ho0 (Kd.R_lt (by (with_reducible repeat (first | apply Kd.R_alloc | apply Kd.R_drewN | apply Kd.R_drew)); exact HO_5.out))) (below_size (by repeat (first | (with_reducible first | exact HB.out | apply below_alloc | apply pw_below_drewN | apply below_drew1) | exact HB.out)))); have n3_ := Aside0.mk (below_step (by repeat (first | (with_reducible first | exact HB.out | apply below_alloc | apply pw_below_drewN | apply below_drew1) | exact HB.out)) hb); clear HO_3; clear HO_5; clear HB; have HO_3 := n0_; have HO_5 := n1_; have HO320 := n2_; have HB := n3_; clear n0_ n1_ n2_ n3_; (try clear hb); (try clear hb2); (try clear hk); (try clear hi); (try clear ho0)))
                      go_loopg [8, 9] k3 (fun kq v8 v9 w' => ∃ (x8_4 : Bool) (x9_4 : Int), v8 = .bool x8_4 ∧ v9 = .int .i64 x9_4 ∧ Aside0 (cubbylaw09_FlowReaches.l2 kq l0 t301 x4_2 t318 x8_4 x9_4 = some r) ∧ Aside0 (kq ≤ k3) ∧ Aside0 (Kd.R Kd.bool 4 w' w.heap.size (fun _ => True) v302 t301) ∧ Aside0 (Kd.R (Kd.int .i64) 3 w' w.heap.size (fun _ => True) v319 t318) ∧ Aside0 (Below w.heap.size w w'))
                      case atStart => exact ⟨(false), (0), (by first | rfl | (simp; done) | (simp [*]; done)), (by first | rfl | (simp; done) | (simp [*]; done)), H', ⟨Nat.le_refl _⟩, ⟨by (with_reducible repeat (first | apply Kd.R_alloc | apply Kd.R_drewN | apply Kd.R_drew)); exact HO_3.out⟩, ⟨by (with_reducible repeat (first | apply Kd.R_alloc | apply Kd.R_drewN | apply Kd.R_drew)); exact Kd.R_mono HO320.out (fun _ hk => trivial)⟩, ⟨by repeat (first | (with_reducible first | exact HB.out | apply below_alloc | apply pw_below_drewN | apply below_drew1) | exact HB.out)⟩⟩
                      case round =>
                        clear H'
                        try clear c1
                        try clear c2
                        try clear p2
                        try clear q2
                        try clear c3
                        try clear p3
                        try clear q3
                        try clear hx3
                        try clear qi3
                        try clear p6
                        try clear c7
                        try clear c7b0
                        try clear c7b1
                        try clear c7b2
                        try clear c8
                        try clear c8b0
                        try clear c8b1
                        try clear c9
                        try clear c9b0
                        try clear c9b1
                        try clear c12
                        try clear c13
                        try clear c14
                        try clear c14b0
                        try clear c16
                        try clear c17
                        try clear c17b0
                        try clear c18
                        try clear c18b0
                        try clear c19
                        try clear c19b0
                        try clear q20
                        try clear c21
                        try clear c22
                        try clear c22b0
                        try clear c23
                        try clear c23b0
                        try clear c24
                        try clear c24b0
                        try clear q25
                        try clear c26
                        try clear p30
                        try clear q30
                        try clear hx30
                        try clear qi30
                        try clear p31
                        try clear q31
                        try clear hx31
                        try clear hx304_0
                        try clear hx315_0
                        try clear hx316_0
                        try clear hx317_0
                        try clear p2
                        try clear p3
                        try clear p304
                        try clear p315
                        try clear p316
                        try clear p317
                        try clear q3
                        try clear q304
                        try clear q315
                        try clear q316
                        try clear q317
                        obtain ⟨x8_4, x9_4, rfl, rfl, HA, HK4, HO_3, HO_7, HB⟩ := hrel
                        cases gk with
                        | zero => exact absurd HA.out (by simp [cubbylaw09_FlowReaches.l2])
                        | succ k4 =>
                          have H := HA.out
                          clear HA
                          simp only [cubbylaw09_FlowReaches.l2] at H
                          by_cases c36 : x9_4 < (t318.length : Int)
                          · rw [if_pos c36] at H
                            have c36b0 : decide (x9_4 < (t318.length : Int)) = true := decide_eq_true c36
                            clear c36
                            by_cases c37 : x8_4 = true
                            · subst c37
                              have H1 : (cubbylaw09_FlowReaches.l2 k4 l0 t301 x4_2 t318 true (wrap64 (x9_4 + 1))) = some r := by rw [if_pos rfl] at H; exact H
                              clear H
                              have H := H1
                              clear H1
                              have H' := Aside0.mk H
                              clear H
                              obtain ⟨Ao38, co38, eo38⟩ := Kd.R_slice HO_7.out
                              subst eo38
                              go_wp2
                              go_roundg k4
                              case measure => have := HJ4.out; have := HK2.out; have := HK3.out; have := HK4.out; omega
                              case rel => exact ⟨(true), (wrap64 (x9_4 + 1)), (by first | rfl | (simp; done) | (simp [*]; done)), (by first | rfl | (simp; done) | (simp [*]; done)), H', ⟨by have := HJ4.out; have := HK2.out; have := HK3.out; have := HK4.out; omega⟩, ⟨by (with_reducible repeat (first | apply Kd.R_alloc | apply Kd.R_drewN | apply Kd.R_drew)); exact HO_3.out⟩, ⟨by (with_reducible repeat (first | apply Kd.R_alloc | apply Kd.R_drewN | apply Kd.R_drew)); exact HO_7.out⟩, ⟨by repeat (first | (with_reducible first | exact HB.out | apply below_alloc | apply pw_below_drewN | apply below_drew1) | exact HB.out)⟩⟩
                            · replace c37 := Bool.eq_false_iff.mpr c37
                              subst c37
                              have H1 : (if 0 ≤ x9_4 then (if 0 ≤ (rd t318 x9_4) then (if (rd t318 x9_4) < (t301.length : Int) then (cubbylaw09_FlowReaches.l2 k4 l0 t301 x4_2 t318 (rdOf false t301 (rd t318 x9_4)) (wrap64 (x9_4 + 1))) else (none)) else (none)) else (none)) = some r := by rw [if_neg (show ¬ (false = true) by decide)] at H; exact H
                              clear H
                              have H := H1
                              clear H1
                              by_cases c39 : 0 ≤ x9_4
                              · rw [if_pos c39] at H
                                have c39b0 : decide (0 ≤ x9_4) = true := decide_eq_true c39
                                clear c39
                                by_cases c40 : 0 ≤ (rd t318 x9_4)
                                · rw [if_pos c40] at H
                                  have c40b0 : decide (0 ≤ (rd t318 x9_4)) = true := decide_eq_true c40
                                  clear c40
                                  by_cases c41 : (rd t318 x9_4) < (t301.length : Int)
                                  · rw [if_pos c41] at H
                                    have c41b0 : decide ((rd t318 x9_4) < (t301.length : Int)) = true := decide_eq_true c41
                                    clear c41
                                    have H' := Aside0.mk H
                                    clear H
                                    obtain ⟨Ao42, co42, eo42⟩ := Kd.R_slice HO_7.out
                                    subst eo42
                                    have p321 : 0 ≤ (x9_4 : Int) := of_decide_eq_true (by first | (with_reducible assumption) | assumption)
                                    have q321 : x9_4 < (t318.length : Int) := of_decide_eq_true (by first | (with_reducible assumption) | assumption)
                                    obtain ⟨ad321, e321, hx321_0⟩ := Kd.at_int (Kd.R_reads' HO_7.out).2.2 x9_4 p321 q321
                                    cases e321
                                    replace p321 := eq_true p321
                                    replace q321 := eq_true q321
                                    obtain ⟨Ao43, co43, eo43⟩ := Kd.R_slice HO_3.out
                                    subst eo43
                                    have p322 : 0 ≤ ((rd t318 x9_4) : Int) := of_decide_eq_true (by first | (with_reducible assumption) | assumption)
                                    have q322 : (rd t318 x9_4) < (t301.length : Int) := of_decide_eq_true (by first | (with_reducible assumption) | assumption)
                                    obtain ⟨ad322, e322, hx322_0⟩ := Kd.at_bool (Kd.R_reads' HO_3.out).2.2 (rd t318 x9_4) p322 q322
                                    cases e322
                                    replace p322 := eq_true p322
                                    replace q322 := eq_true q322
                                    go_wp2
                                    go_roundg k4
                                    case measure => have := HJ4.out; have := HK2.out; have := HK3.out; have := HK4.out; omega
                                    case rel => exact ⟨(rdOf false t301 (rd t318 x9_4)), (wrap64 (x9_4 + 1)), (by first | rfl | (simp; done) | (simp [*]; done)), (by first | rfl | (simp; done) | (simp [*]; done)), H', ⟨by have := HJ4.out; have := HK2.out; have := HK3.out; have := HK4.out; omega⟩, ⟨by (with_reducible repeat (first | apply Kd.R_alloc | apply Kd.R_drewN | apply Kd.R_drew)); exact HO_3.out⟩, ⟨by (with_reducible repeat (first | apply Kd.R_alloc | apply Kd.R_drewN | apply Kd.R_drew)); exact HO_7.out⟩, ⟨by repeat (first | (with_reducible first | exact HB.out | apply below_alloc | apply pw_below_drewN | apply below_drew1) | exact HB.out)⟩⟩
                                  · rw [if_neg c41] at H
                                    exact absurd H (by simp)
                                · rw [if_neg c40] at H
                                  exact absurd H (by simp)
                              · rw [if_neg c39] at H
                                exact absurd H (by simp)
                          · rw [if_neg c36] at H
                            have c36b0 : decide (x9_4 < (t318.length : Int)) = false := decide_eq_false c36
                            clear c36
                            by_cases c44 : x4_2 > 0
                            · rw [if_pos c44] at H
                              have c44b0 : decide (0 < x4_2) = true := decide_eq_true c44
                              clear c44
                              by_cases c45 : 0 ≤ x4_2
                              · rw [if_pos c45] at H
                                have c45b0 : decide (0 ≤ x4_2) = true := decide_eq_true c45
                                clear c45
                                by_cases c46 : x4_2 < (t301.length : Int)
                                · rw [if_pos c46] at H
                                  have c46b0 : decide (x4_2 < (t301.length : Int)) = true := decide_eq_true c46
                                  clear c46
                                  obtain ⟨bq47, hbq47⟩ : ∃ b_ : Bool, b_ = (rdOf false t301 x4_2) := ⟨_, rfl⟩
                                  replace H : (if bq47 = true then (if x8_4 = true then (cubbylaw09_FlowReaches.l0 k4 l0 t301 (wrap64 (x4_2 + 1))) else (some false)) else (cubbylaw09_FlowReaches.l0 k4 l0 t301 (wrap64 (x4_2 + 1)))) = some r := by rw [← hbq47] at H; exact H
                                  have Nbq47 := Aside0.mk hbq47
                                  clear hbq47
                                  by_cases c48 : bq47 = true
                                  · subst c48
                                    have H1 : (if x8_4 = true then (cubbylaw09_FlowReaches.l0 k4 l0 t301 (wrap64 (x4_2 + 1))) else (some false)) = some r := by rw [if_pos rfl] at H; exact H
                                    clear H
                                    have H := H1
                                    clear H1
                                    by_cases c49 : x8_4 = true
                                    · subst c49
                                      have H1 : (cubbylaw09_FlowReaches.l0 k4 l0 t301 (wrap64 (x4_2 + 1))) = some r := by rw [if_pos rfl] at H; exact H
                                      clear H
                                      have H := H1
                                      clear H1
                                      have H' := Aside0.mk H
                                      clear H
                                      obtain ⟨Ao50, co50, eo50⟩ := Kd.R_slice HO_7.out
                                      subst eo50
                                      obtain ⟨Ao51, co51, eo51⟩ := Kd.R_slice HO_3.out
                                      subst eo51
                                      have p323 : 0 ≤ (x4_2 : Int) := of_decide_eq_true (by first | (with_reducible assumption) | assumption)
                                      have q323 : x4_2 < (t301.length : Int) := of_decide_eq_true (by first | (with_reducible assumption) | assumption)
                                      obtain ⟨ad323, e323, hx323_0⟩ := Kd.at_bool (Kd.R_reads' HO_3.out).2.2 x4_2 p323 q323
                                      (try rw [← Nbq47.out] at hx323_0)
                                      cases e323
                                      replace p323 := eq_true p323
                                      replace q323 := eq_true q323
                                      go_wp2
                                      go_roundg k4
                                      case measure => have := HJ4.out; have := HK2.out; have := HK3.out; have := HK4.out; omega
                                      case rel => exact ⟨(wrap64 (x4_2 + 1)), (by first | rfl | (simp; done) | (simp [*]; done)), H', ⟨by have := HJ4.out; have := HK2.out; have := HK3.out; have := HK4.out; omega⟩, ⟨by (with_reducible repeat (first | apply Kd.R_alloc | apply Kd.R_drewN | apply Kd.R_drew)); exact HO_3.out⟩, ⟨by repeat (first | (with_reducible first | exact HB.out | apply below_alloc | apply pw_below_drewN | apply below_drew1) | exact HB.out)⟩⟩
                                    · replace c49 := Bool.eq_false_iff.mpr c49
                                      subst c49
                                      have H1 : (some false) = some r := by rw [if_neg (show ¬ (false = true) by decide)] at H; exact H
                                      clear H
                                      have H := H1
                                      clear H1
                                      obtain rfl := Option.some.inj H
                                      obtain ⟨Ao52, co52, eo52⟩ := Kd.R_slice HO_7.out
                                      subst eo52
                                      obtain ⟨Ao53, co53, eo53⟩ := Kd.R_slice HO_3.out
                                      subst eo53
                                      have p323 : 0 ≤ (x4_2 : Int) := of_decide_eq_true (by first | (with_reducible assumption) | assumption)
                                      have q323 : x4_2 < (t301.length : Int) := of_decide_eq_true (by first | (with_reducible assumption) | assumption)
                                      obtain ⟨ad323, e323, hx323_0⟩ := Kd.at_bool (Kd.R_reads' HO_3.out).2.2 x4_2 p323 q323
                                      (try rw [← Nbq47.out] at hx323_0)
                                      cases e323
                                      replace p323 := eq_true p323
                                      replace q323 := eq_true q323
                                      go_wp2
                                      go_ret
                                      exact ⟨by first | rfl | (simp [errW_none, errW_some] <;> rfl) | (simp [*, errW_none, errW_some] <;> rfl), by repeat (first | (with_reducible first | exact HB.out | apply below_alloc | apply pw_below_drewN | apply below_drew1) | exact HB.out)⟩
                                  · replace c48 := Bool.eq_false_iff.mpr c48
                                    subst c48
                                    have H1 : (cubbylaw09_FlowReaches.l0 k4 l0 t301 (wrap64 (x4_2 + 1))) = some r := by rw [if_neg (show ¬ (false = true) by decide)] at H; exact H
                                    clear H
                                    have H := H1
                                    clear H1
                                    have H' := Aside0.mk H
                                    clear H
                                    obtain ⟨Ao54, co54, eo54⟩ := Kd.R_slice HO_7.out
                                    subst eo54
                                    obtain ⟨Ao55, co55, eo55⟩ := Kd.R_slice HO_3.out
                                    subst eo55
                                    have p323 : 0 ≤ (x4_2 : Int) := of_decide_eq_true (by first | (with_reducible assumption) | assumption)
                                    have q323 : x4_2 < (t301.length : Int) := of_decide_eq_true (by first | (with_reducible assumption) | assumption)
                                    obtain ⟨ad323, e323, hx323_0⟩ := Kd.at_bool (Kd.R_reads' HO_3.out).2.2 x4_2 p323 q323
                                    (try rw [← Nbq47.out] at hx323_0)
                                    cases e323
                                    replace p323 := eq_true p323
                                    replace q323 := eq_true q323
                                    go_wp2
                                    go_roundg k4
                                    case measure => have := HJ4.out; have := HK2.out; have := HK3.out; have := HK4.out; omega
                                    case rel => exact ⟨(wrap64 (x4_2 + 1)), (by first | rfl | (simp; done) | (simp [*]; done)), H', ⟨by have := HJ4.out; have := HK2.out; have := HK3.out; have := HK4.out; omega⟩, ⟨by (with_reducible repeat (first | apply Kd.R_alloc | apply Kd.R_drewN | apply Kd.R_drew)); exact HO_3.out⟩, ⟨by repeat (first | (with_reducible first | exact HB.out | apply below_alloc | apply pw_below_drewN | apply below_drew1) | exact HB.out)⟩⟩
                                · rw [if_neg c46] at H
                                  exact absurd H (by simp)
                              · rw [if_neg c45] at H
                                exact absurd H (by simp)
                            · rw [if_neg c44] at H
                              have c44b0 : decide (0 < x4_2) = false := decide_eq_false c44
                              clear c44
                              have H' := Aside0.mk H
                              clear H
                              obtain ⟨Ao56, co56, eo56⟩ := Kd.R_slice HO_7.out
                              subst eo56
                              go_wp2
                              go_roundg k4
                              case measure => have := HJ4.out; have := HK2.out; have := HK3.out; have := HK4.out; omega
                              case rel => exact ⟨(wrap64 (x4_2 + 1)), (by first | rfl | (simp; done) | (simp [*]; done)), H', ⟨by have := HJ4.out; have := HK2.out; have := HK3.out; have := HK4.out; omega⟩, ⟨by (with_reducible repeat (first | apply Kd.R_alloc | apply Kd.R_drewN | apply Kd.R_drew)); exact HO_3.out⟩, ⟨by repeat (first | (with_reducible first | exact HB.out | apply below_alloc | apply pw_below_drewN | apply below_drew1) | exact HB.out)⟩⟩
              · rw [if_neg c14] at H
                have c14b0 : decide (x4_2 < (l0.length : Int)) = false := decide_eq_false c14
                clear c14
                by_cases c57 : (l0.length : Int) = 0
                · rw [if_pos c57] at H
                  have c57b0 : ((l0.length : Int) == 0) = true := beq_iff_eq.mpr c57
                  have c57b1 : ((l0.length : Int) != 0) = false := bne_eq_false_iff_eq.mpr c57
                  clear c57
                  obtain rfl := Option.some.inj H
                  go_wp2
                  go_ret
                  exact ⟨by first | rfl | (simp [errW_none, errW_some] <;> rfl) | (simp [*, errW_none, errW_some] <;> rfl), by repeat (first | (with_reducible first | exact HB.out | apply below_alloc | apply pw_below_drewN | apply below_drew1) | exact HB.out)⟩
                · rw [if_neg c57] at H
                  have c57b0 : ((l0.length : Int) == 0) = false := beq_eq_false_iff_ne.mpr c57
                  have c57b1 : ((l0.length : Int) != 0) = true := bne_iff_ne.mpr c57
                  have c57b2 : ¬ (l0 = []) := fun h_ => c57 (by rw [h_]; rfl)
                  replace H := Option.bind_eq_some_iff.mp H
                  obtain ⟨t305, A580, H⟩ := H
                  replace H : ((cubbyref09_Order.f k2 l0).bind fun t308 => ((cubbylaw09_same.f k2 t305 t308).bind fun t311 => (some t311))) = some r := H
                  have A58 := Aside0.mk A580
                  clear A580
                  replace H := Option.bind_eq_some_iff.mp H
                  obtain ⟨t308, A590, H⟩ := H
                  replace H : ((cubbylaw09_same.f k2 t305 t308).bind fun t311 => (some t311)) = some r := H
                  have A59 := Aside0.mk A590
                  clear A590
                  replace H := Option.bind_eq_some_iff.mp H
                  obtain ⟨t311, A600, H⟩ := H
                  replace H : (some t311) = some r := H
                  have A60 := Aside0.mk A600
                  clear A600
                  obtain rfl := Option.some.inj H
                  go_wp2_with (first | (go_at_call 18; (with_reducible refine (flow_Order.calls k2 _ _ l0 t305 _ ?side1 ?side2 A58.out).mono ?_); (case side1 => repeat (first | exact (Kd.C_below HR0.out HB.out) | (with_reducible refine Kd.C_alloc ?_ _) | (with_reducible refine Kd.C_drewN ?_ _) | (with_reducible refine Kd.C_drew ?_))); (case side2 => exact HC0.out); rintro e w61 ⟨v306, rfl, ho0, hb⟩; have n0_ := Aside0.mk (Kd.R_below (by (with_reducible repeat (first | apply Kd.R_alloc | apply Kd.R_drewN | apply Kd.R_drew)); exact HO_3.out) hb); have n1_ := Aside0.mk (Kd.R_lower ho0 (below_size (by repeat (first | (with_reducible first | exact HB.out | apply below_alloc | apply pw_below_drewN | apply below_drew1) | exact HB.out)))); have n2_ := Aside0.mk (below_step (by repeat (first | (with_reducible first | exact HB.out | apply below_alloc | apply pw_below_drewN | apply below_drew1) | exact HB.out)) hb); clear HO_3; clear HB; have HO_3 := n0_; have HO307 := n1_; have HB := n2_; clear n0_ n1_ n2_; (try clear hb); (try clear hb2); (try clear hk); (try clear hi); (try clear ho0)) | (go_at_call 20; (with_reducible refine (cubbyref09_Order.calls k2 _ _ l0 t308 _ ?side1 ?side2 A59.out).mono ?_); (case side1 => repeat (first | exact (Kd.C_below HR0.out HB.out) | (with_reducible refine Kd.C_alloc ?_ _) | (with_reducible refine Kd.C_drewN ?_ _) | (with_reducible refine Kd.C_drew ?_))); (case side2 => exact HC0.out); rintro e w62 ⟨v309, rfl, ho0, hb⟩; have n0_ := Aside0.mk (Kd.R_below (by (with_reducible repeat (first | apply Kd.R_alloc | apply Kd.R_drewN | apply Kd.R_drew)); exact HO_3.out) hb); have n1_ := Aside0.mk (Kd.R_elder' (by (with_reducible repeat (first | apply Kd.R_alloc | apply Kd.R_drewN | apply Kd.R_drew)); exact HO307.out) (Kd.R_base ho0) hb); have n2_ := Aside0.mk (Kd.R_lower (Kd.R_new' ho0 (Kd.R_lt (by (with_reducible repeat (first | apply Kd.R_alloc | apply Kd.R_drewN | apply Kd.R_drew)); exact HO307.out))) (below_size (by repeat (first | (with_reducible first | exact HB.out | apply below_alloc | apply pw_below_drewN | apply below_drew1) | exact HB.out)))); have n3_ := Aside0.mk (below_step (by repeat (first | (with_reducible first | exact HB.out | apply below_alloc | apply pw_below_drewN | apply below_drew1) | exact HB.out)) hb); clear HO_3; clear HO307; clear HB; have HO_3 := n0_; have HO307 := n1_; have HO310 := n2_; have HB := n3_; clear n0_ n1_ n2_ n3_; (try clear hb); (try clear hb2); (try clear hk); (try clear hi); (try clear ho0); obtain ⟨Ao63, co63, eo63⟩ := Kd.R_slice HO307.out; subst eo63; obtain ⟨Ao64, co64, eo64⟩ := Kd.R_slice HO310.out; subst eo64) | (go_at_call 13; (with_reducible refine (cubbylaw09_same.calls k2 _ _ t305 _ _ t308 t311 _ ?side1 ?side2 ?side3 ?side4 A60.out).mono ?_); (case side1 => repeat (first | exact (Kd.R_reads' HO307.out).2.2 | (with_reducible refine Kd.C_alloc ?_ _) | (with_reducible refine Kd.C_drewN ?_ _) | (with_reducible refine Kd.C_drew ?_))); (case side2 => exact (Kd.R_reads' HO307.out).2.1); (case side3 => repeat (first | exact (Kd.R_reads' HO310.out).2.2 | (with_reducible refine Kd.C_alloc ?_ _) | (with_reducible refine Kd.C_drewN ?_ _) | (with_reducible refine Kd.C_drew ?_))); (case side4 => exact (Kd.R_reads' HO310.out).2.1); rintro e w' ⟨rfl, ⟨nd, rfl⟩⟩))
                  go_ret
                  exact ⟨by first | rfl | (simp [errW_none, errW_some] <;> rfl) | (simp [*, errW_none, errW_some] <;> rfl), by repeat (first | (with_reducible first | exact HB.out | apply below_alloc | apply pw_below_drewN | apply below_drew1) | exact HB.out)⟩

end Go.Proofs.Ytgmklfaknomakaa.Q
