/- Lean functions that answer as the Go functions named below do, and the proofs of that. Written by a program out of the translation. -/
import Derived.Test.YtgmklfaknomakaaQ0
import Derived.Test.YtgmklfaknomakaaQirTargets
import Derived.Test.YtgmklfaknomakaaQslicesContainsintint
namespace Go.Proofs.Ytgmklfaknomakaa.Q
open Go.RowKit Go.Proofs.YtgmklfaknomakaaW.PrintWords Go.Proofs.YtgmklfaknomakaaW.PrintLast Go.Proofs.YtgmklfaknomakaaW.PrintMore
attribute [local go_sem] max2_int min2_int max_two min_two max_three min_three max_four min_four   -- for this text's walks alone
set_option linter.unusedVariables false
set_option linter.unusedSimpArgs false

/-! ### flow_Succs: function 14 -/
mutual
def flow_Succs.j0 : Nat → List (List (SIns)) → Int → Bool → Option (List Int)
  | 0, _, _, _ => none
  | k + 1, x0, x1, x24 => if x24 = true then (some ([] : List Int)) else (if 0 ≤ x1 then (if x1 < (x0.length : Int) then (if 0 ≤ (wrap64 (((rd_LIns x0 x1).length : Int) - 1)) then (if (wrap64 (((rd_LIns x0 x1).length : Int) - 1)) < ((rd_LIns x0 x1).length : Int) then ((ir_Targets.f ((rd_TIns (rd_LIns x0 x1) (wrap64 (((rd_LIns x0 x1).length : Int) - 1))).f0) ((rd_TIns (rd_LIns x0 x1) (wrap64 (((rd_LIns x0 x1).length : Int) - 1))).f1) ((rd_TIns (rd_LIns x0 x1) (wrap64 (((rd_LIns x0 x1).length : Int) - 1))).f2) ((rd_TIns (rd_LIns x0 x1) (wrap64 (((rd_LIns x0 x1).length : Int) - 1))).f3) ((rd_TIns (rd_LIns x0 x1) (wrap64 (((rd_LIns x0 x1).length : Int) - 1))).f4) ((rd_TIns (rd_LIns x0 x1) (wrap64 (((rd_LIns x0 x1).length : Int) - 1))).f5)).bind fun t126 => (flow_Succs.l0 k x0 ([] : List Int) t126 (t126.length : Int) 0)) else (none)) else (none)) else (none)) else (none))
def flow_Succs.l0 : Nat → List (List (SIns)) → List Int → List Int → Int → Int → Option (List Int)
  | 0, _, _, _, _, _ => none
  | k + 1, x0, x6, x35, x36, x37 => if x37 < x36 then (if 0 ≤ x37 then (if x37 < (x35.length : Int) then (if (rd x35 x37) ≥ 0 then (if (rd x35 x37) < (x0.length : Int) then ((slices_Contains_int_int.f k x6 (rd x35 x37)).bind fun t130 => (if t130 = true then (flow_Succs.l0 k x0 x6 x35 x36 (wrap64 (x37 + 1))) else (if x6.length < 17592186044416 then (flow_Succs.l0 k x0 (x6 ++ [rd x35 x37]) x35 x36 (wrap64 (x37 + 1))) else (none)))) else (flow_Succs.l0 k x0 x6 x35 x36 (wrap64 (x37 + 1)))) else (flow_Succs.l0 k x0 x6 x35 x36 (wrap64 (x37 + 1)))) else (none)) else (none)) else (some x6)
end
def flow_Succs.f (k : Nat) (l0 : List (List (SIns))) (a1 : Int) : Option (List Int) := if a1 < 0 then (flow_Succs.j0 k l0 a1 true) else (if a1 ≥ (l0.length : Int) then (flow_Succs.j0 k l0 a1 true) else (if 0 ≤ a1 then (if a1 < (l0.length : Int) then (flow_Succs.j0 k l0 a1 (((rd_LIns l0 a1).length : Int) == 0)) else (none)) else (none)))
theorem flow_Succs.mono_l : ∀ k, (∀ y0 y1 y2, LeO (flow_Succs.j0 k y0 y1 y2) (flow_Succs.j0 (k + 1) y0 y1 y2)) ∧ (∀ y0 y1 y2 y3 y4, LeO (flow_Succs.l0 k y0 y1 y2 y3 y4) (flow_Succs.l0 (k + 1) y0 y1 y2 y3 y4))
  | 0 => ⟨fun _ _ _ r h => by simp [flow_Succs.j0] at h, fun _ _ _ _ _ r h => by simp [flow_Succs.l0] at h⟩
  | k + 1 => by
    obtain ⟨ih0, ih1⟩ := flow_Succs.mono_l k
    refine ⟨?_, ?_⟩
    · intro y0 y1 y2
      unfold flow_Succs.j0
      repeat' first
      | (with_reducible exact ih0 _ _ _)
      | (with_reducible exact ih1 _ _ _ _ _)
      | (with_reducible exact slices_Contains_int_int.mono _ _ _)
      | (with_reducible exact LeO.refl _)
      | (with_reducible exact LeO.none _)
      | (with_reducible refine LeO.ite ?_ ?_)
      | (with_reducible refine LeO.bind ?_ (fun _ => ?_))
      | exact ih0 _ _ _
      | exact ih1 _ _ _ _ _
      | exact slices_Contains_int_int.mono _ _ _
      | exact LeO.none _
      | refine LeO.ite ?_ ?_
      | refine LeO.bind ?_ (fun _ => ?_)
    · intro y0 y1 y2 y3 y4
      unfold flow_Succs.l0
      repeat' first
      | (with_reducible exact ih0 _ _ _)
      | (with_reducible exact ih1 _ _ _ _ _)
      | (with_reducible exact slices_Contains_int_int.mono _ _ _)
      | (with_reducible exact LeO.refl _)
      | (with_reducible exact LeO.none _)
      | (with_reducible refine LeO.ite ?_ ?_)
      | (with_reducible refine LeO.bind ?_ (fun _ => ?_))
      | exact ih0 _ _ _
      | exact ih1 _ _ _ _ _
      | exact slices_Contains_int_int.mono _ _ _
      | exact LeO.none _
      | refine LeO.ite ?_ ?_
      | refine LeO.bind ?_ (fun _ => ?_)
theorem flow_Succs.mono : ∀ a0 a1 k, LeO (flow_Succs.f k a0 a1) (flow_Succs.f (k + 1) a0 a1) := by
  intro a0 a1 k
  obtain ⟨ih0, ih1⟩ := flow_Succs.mono_l k
  unfold flow_Succs.f
  repeat' first
      | (with_reducible exact ih0 _ _ _)
      | (with_reducible exact ih1 _ _ _ _ _)
      | (with_reducible exact slices_Contains_int_int.mono _ _ _)
      | (with_reducible exact LeO.refl _)
      | (with_reducible exact LeO.none _)
      | (with_reducible refine LeO.ite ?_ ?_)
      | (with_reducible refine LeO.bind ?_ (fun _ => ?_))
      | exact ih0 _ _ _
      | exact ih1 _ _ _ _ _
      | exact slices_Contains_int_int.mono _ _ _
      | exact LeO.none _
      | refine LeO.ite ?_ ?_
      | refine LeO.bind ?_ (fun _ => ?_)
set_option maxHeartbeats 8000000 in
set_option maxRecDepth 100000 in
theorem flow_Succs.calls (k : Nat) (A0 : Option Addr) (c0 : Nat) (l0 : List (List (SIns))) (a1 : Int) (r : List Int) (w : World) (hr0 : Kd.C (Kd.slice 37 kIns) w A0 l0.length l0) (hc0 : l0.length ≤ c0) (h : flow_Succs.f k l0 a1 = some r) :
    Calls Try.prog 14 #[.slice A0 l0.length c0, .int .i64 a1] w fun e w' => ∃ v0_ : Value, e = .returned (v0_) ∧ Kd.R (Kd.int .i64) 3 w' w.heap.size (fun _ => True) v0_ r ∧ Below w.heap.size w w' := by
  have hu37 := Try.underlying37
  have HR0 := Aside0.mk hr0
  have HC0 := Aside0.mk hc0
  clear hr0 hc0
  have HB := Aside0.mk (Below.refl w.heap.size w)
  have H : (if a1 < 0 then (flow_Succs.j0 k l0 a1 true) else (if a1 ≥ (l0.length : Int) then (flow_Succs.j0 k l0 a1 true) else (if 0 ≤ a1 then (if a1 < (l0.length : Int) then (flow_Succs.j0 k l0 a1 (((rd_LIns l0 a1).length : Int) == 0)) else (none)) else (none)))) = some r := h
  clear h
  have HC3 := Aside0.mk H
  clear H
  go_enter Try.func14, Try.ntmps14
  go_upto_region 1 with (fail)
  go_cut [24] (fun v24 wc => ∃ (kq : Nat) (x24_2 : Bool), v24 = .bool x24_2 ∧ Aside0 (flow_Succs.j0 kq l0 a1 x24_2 = some r) ∧ Aside0 (kq ≤ k) ∧ Aside0 (Below w.heap.size w wc))
  case first =>
    have H := HC3.out
    clear HC3
    by_cases c4 : a1 < 0
    · rw [if_pos c4] at H
      have c4b0 : decide (a1 < 0) = true := decide_eq_true c4
      clear c4
      (first | rw [c4b0] | (simp only [i64_w, i32_w]; rw [c4b0]) | skip)
      have H' := Aside0.mk H
      clear H
      go_wp2
      go_meet
      case rel => exact ⟨_, (true), (by first | rfl | (simp; done) | (simp [*]; done)), H', ⟨by first | omega | exact Nat.le_refl _⟩, ⟨by repeat (first | (with_reducible first | exact HB.out | apply below_alloc | apply pw_below_drewN | apply below_drew1) | exact HB.out)⟩⟩
    · rw [if_neg c4] at H
      have c4b0 : decide (a1 < 0) = false := decide_eq_false c4
      clear c4
      (first | rw [c4b0] | (simp only [i64_w, i32_w]; rw [c4b0]) | skip)
      by_cases c5 : a1 ≥ (l0.length : Int)
      · rw [if_pos c5] at H
        have c5b0 : decide ((l0.length : Int) ≤ a1) = true := decide_eq_true c5
        clear c5
        have H' := Aside0.mk H
        clear H
        go_wp2
        go_meet
        case rel => exact ⟨_, (true), (by first | rfl | (simp; done) | (simp [*]; done)), H', ⟨by first | omega | exact Nat.le_refl _⟩, ⟨by repeat (first | (with_reducible first | exact HB.out | apply below_alloc | apply pw_below_drewN | apply below_drew1) | exact HB.out)⟩⟩
      · rw [if_neg c5] at H
        have c5b0 : decide ((l0.length : Int) ≤ a1) = false := decide_eq_false c5
        clear c5
        by_cases c6 : 0 ≤ a1
        · rw [if_pos c6] at H
          have c6b0 : decide (0 ≤ a1) = true := decide_eq_true c6
          clear c6
          by_cases c7 : a1 < (l0.length : Int)
          · rw [if_pos c7] at H
            have c7b0 : decide (a1 < (l0.length : Int)) = true := decide_eq_true c7
            clear c7
            have H' := Aside0.mk H
            clear H
            have p123 : 0 ≤ (a1 : Int) := of_decide_eq_true (by first | (with_reducible assumption) | assumption)
            have q123 : a1 < (l0.length : Int) := of_decide_eq_true (by first | (with_reducible assumption) | assumption)
            obtain ⟨ad123, A123_0, c123_0, e123, hx123_0, hl123_0, hi123_0⟩ := at_LIns HR0.out a1 p123 q123
            cases e123
            replace hx123_0 := (HB.out.cell (World.block_lt_of_cell? w _ hx123_0)).trans hx123_0
            have HR123_0 := Aside0.mk hi123_0
            have HC123_0 := Aside0.mk hl123_0
            clear hi123_0 hl123_0
            replace p123 := eq_true p123
            replace q123 := eq_true q123
            go_wp2
            go_meet
            case rel => exact ⟨_, ((((rd_LIns l0 a1).length : Int) == 0)), (by first | rfl | (simp; done) | (simp [*]; done)), H', ⟨by first | omega | exact Nat.le_refl _⟩, ⟨by repeat (first | (with_reducible first | exact HB.out | apply below_alloc | apply pw_below_drewN | apply below_drew1) | exact HB.out)⟩⟩
          · rw [if_neg c7] at H
            exact absurd H (by simp)
        · rw [if_neg c6] at H
          exact absurd H (by simp)
  case rest =>
    clear HC3
    try clear c1
    try clear p1
    try clear q1
    try clear hx1
    try clear p2
    try clear c4
    try clear c4b0
    try clear c5
    try clear c5b0
    try clear c6
    try clear c6b0
    try clear c7
    try clear c7b0
    try clear hx123_0
    try clear p123
    try clear q123
    obtain ⟨kq, x24_2, rfl, HA, HJ2, HB⟩ := hcut
    cases kq with
    | zero => exact absurd HA.out (by simp [flow_Succs.j0])
    | succ kj2 =>
      have H := HA.out
      clear HA
      simp only [flow_Succs.j0] at H
      by_cases c8 : x24_2 = true
      · subst c8
        have H1 : (some ([] : List Int)) = some r := by rw [if_pos rfl] at H; exact H
        clear H
        have H := H1
        clear H1
        obtain rfl := Option.some.inj H
        go_wp2
        go_ret
        exact ⟨_, by first | rfl | (simp [errW_none, errW_some] <;> rfl) | (simp [*, errW_none, errW_some] <;> rfl), by first | exact Kd.R_nil _ _ _ _ _ | exact Kd.N_nil _ _ _ _ _ | exact Kd.V_nil _ _ _ _ _ | exact Kd.Q_nil _ _ _ _ _ | exact Kd.S_nil _ _ _ _ _, by repeat (first | (with_reducible first | exact HB.out | apply below_alloc | apply pw_below_drewN | apply below_drew1) | exact HB.out)⟩
      · replace c8 := Bool.eq_false_iff.mpr c8
        subst c8
        have H1 : (if 0 ≤ a1 then (if a1 < (l0.length : Int) then (if 0 ≤ (wrap64 (((rd_LIns l0 a1).length : Int) - 1)) then (if (wrap64 (((rd_LIns l0 a1).length : Int) - 1)) < ((rd_LIns l0 a1).length : Int) then ((ir_Targets.f ((rd_TIns (rd_LIns l0 a1) (wrap64 (((rd_LIns l0 a1).length : Int) - 1))).f0) ((rd_TIns (rd_LIns l0 a1) (wrap64 (((rd_LIns l0 a1).length : Int) - 1))).f1) ((rd_TIns (rd_LIns l0 a1) (wrap64 (((rd_LIns l0 a1).length : Int) - 1))).f2) ((rd_TIns (rd_LIns l0 a1) (wrap64 (((rd_LIns l0 a1).length : Int) - 1))).f3) ((rd_TIns (rd_LIns l0 a1) (wrap64 (((rd_LIns l0 a1).length : Int) - 1))).f4) ((rd_TIns (rd_LIns l0 a1) (wrap64 (((rd_LIns l0 a1).length : Int) - 1))).f5)).bind fun t126 => (flow_Succs.l0 kj2 l0 ([] : List Int) t126 (t126.length : Int) 0)) else (none)) else (none)) else (none)) else (none)) = some r := by rw [if_neg (show ¬ (false = true) by decide)] at H; exact H
        clear H
        have H := H1
        clear H1
        by_cases c9 : 0 ≤ a1
        · rw [if_pos c9] at H
          have c9b0 : decide (0 ≤ a1) = true := decide_eq_true c9
          clear c9
          by_cases c10 : a1 < (l0.length : Int)
          · rw [if_pos c10] at H
            have c10b0 : decide (a1 < (l0.length : Int)) = true := decide_eq_true c10
            clear c10
            obtain ⟨ji11, hji11⟩ : ∃ j_ : Int, (wrap64 (((rd_LIns l0 a1).length : Int) - 1)) = j_ := ⟨_, rfl⟩
            replace H : (if 0 ≤ (ji11) then (if (ji11) < ((rd_LIns l0 a1).length : Int) then ((ir_Targets.f ((rd_TIns (rd_LIns l0 a1) (ji11)).f0) ((rd_TIns (rd_LIns l0 a1) (ji11)).f1) ((rd_TIns (rd_LIns l0 a1) (ji11)).f2) ((rd_TIns (rd_LIns l0 a1) (ji11)).f3) ((rd_TIns (rd_LIns l0 a1) (ji11)).f4) ((rd_TIns (rd_LIns l0 a1) (ji11)).f5)).bind fun t126 => (flow_Succs.l0 kj2 l0 ([] : List Int) t126 (t126.length : Int) 0)) else (none)) else (none)) = some r := by first | (rw [hji11] at H; exact H) | (simp only [hji11] at H ⊢; exact H)
            have hji11w : (IntKind.i64.wrap (((rd_LIns l0 a1).length : Int) - 1)) = ji11 := (i64_w _).trans hji11
            by_cases c12 : 0 ≤ (ji11)
            · rw [if_pos c12] at H
              have c12b0 : decide (0 ≤ (ji11)) = true := decide_eq_true c12
              clear c12
              by_cases c13 : (ji11) < ((rd_LIns l0 a1).length : Int)
              · rw [if_pos c13] at H
                have c13b0 : decide ((ji11) < ((rd_LIns l0 a1).length : Int)) = true := decide_eq_true c13
                clear c13
                replace H := Option.bind_eq_some_iff.mp H
                obtain ⟨t126, A140, H⟩ := H
                replace H : (flow_Succs.l0 kj2 l0 ([] : List Int) t126 (t126.length : Int) 0) = some r := H
                have A14 := Aside0.mk A140
                clear A140
                have H' := Aside0.mk H
                clear H
                have p124 : 0 ≤ (a1 : Int) := of_decide_eq_true (by first | (with_reducible assumption) | assumption)
                have q124 : a1 < (l0.length : Int) := of_decide_eq_true (by first | (with_reducible assumption) | assumption)
                obtain ⟨ad124, A124_0, c124_0, e124, hx124_0, hl124_0, hi124_0⟩ := at_LIns HR0.out a1 p124 q124
                cases e124
                replace hx124_0 := (HB.out.cell (World.block_lt_of_cell? w _ hx124_0)).trans hx124_0
                have HR124_0 := Aside0.mk hi124_0
                have HC124_0 := Aside0.mk hl124_0
                clear hi124_0 hl124_0
                replace p124 := eq_true p124
                replace q124 := eq_true q124
                have p125 : 0 ≤ ((ji11) : Int) := of_decide_eq_true (by first | (with_reducible assumption) | assumption)
                have q125 : (ji11) < ((rd_LIns l0 a1).length : Int) := of_decide_eq_true (by first | (with_reducible assumption) | assumption)
                obtain ⟨ad125, A125_5, c125_5, e125, hx125_0, hx125_1, hx125_2, hx125_3, hx125_4, hx125_5, hl125_5, hi125_5⟩ := at_TIns HR124_0.out (ji11) p125 q125
                cases e125
                replace hx125_0 := (HB.out.cell (World.block_lt_of_cell? w _ hx125_0)).trans hx125_0
                replace hx125_1 := (HB.out.cell (World.block_lt_of_cell? w _ hx125_1)).trans hx125_1
                replace hx125_2 := (HB.out.cell (World.block_lt_of_cell? w _ hx125_2)).trans hx125_2
                replace hx125_3 := (HB.out.cell (World.block_lt_of_cell? w _ hx125_3)).trans hx125_3
                replace hx125_4 := (HB.out.cell (World.block_lt_of_cell? w _ hx125_4)).trans hx125_4
                replace hx125_5 := (HB.out.cell (World.block_lt_of_cell? w _ hx125_5)).trans hx125_5
                have HR125_5 := Aside0.mk hi125_5
                have HC125_5 := Aside0.mk hl125_5
                clear hi125_5 hl125_5
                replace p125 := eq_true p125
                replace q125 := eq_true q125
                go_wp2_with (first | ((with_reducible refine gate_callee (f := 23) rfl ?_); refine goesL_ (some 35) rfl rfl Try.func23 (by kernel_rfl) rfl #[.agg #[.int .i64 ((rd_TIns (rd_LIns l0 a1) (ji11)).f0), .int .i64 ((rd_TIns (rd_LIns l0 a1) (ji11)).f1), .int .i64 ((rd_TIns (rd_LIns l0 a1) (ji11)).f2), .int .i64 ((rd_TIns (rd_LIns l0 a1) (ji11)).f3), .string ((rd_TIns (rd_LIns l0 a1) (ji11)).f4), .slice A125_5 ((rd_TIns (rd_LIns l0 a1) (ji11)).f5).length c125_5]] rfl (by (try simp only [List.map_toArray, List.map_cons, List.map_nil]); first | done | (simp only [hji11]; rfl) | rfl | (simp only [List.length_drop, List.length_take]; rfl)) ?_; (with_reducible refine (ir_Targets.calls ((rd_TIns (rd_LIns l0 a1) (ji11)).f0) ((rd_TIns (rd_LIns l0 a1) (ji11)).f1) ((rd_TIns (rd_LIns l0 a1) (ji11)).f2) ((rd_TIns (rd_LIns l0 a1) (ji11)).f3) ((rd_TIns (rd_LIns l0 a1) (ji11)).f4) _ _ ((rd_TIns (rd_LIns l0 a1) (ji11)).f5) t126 _ ?side1 ?side2 A14.out).mono ?_); (case side1 => repeat (first | exact (Kd.C_below HR125_5.out HB.out) | (with_reducible refine Kd.C_alloc ?_ _) | (with_reducible refine Kd.C_drewN ?_ _) | (with_reducible refine Kd.C_drew ?_))); (case side2 => exact HC125_5.out); rintro e w15 ⟨v127, rfl, ho0, hb⟩; refine ⟨_, rfl, ?_⟩; have n0_ := Aside0.mk (Kd.R_lower ho0 (below_size (by repeat (first | (with_reducible first | exact HB.out | apply below_alloc | apply pw_below_drewN | apply below_drew1) | exact HB.out)))); have n1_ := Aside0.mk (below_step (by repeat (first | (with_reducible first | exact HB.out | apply below_alloc | apply pw_below_drewN | apply below_drew1) | exact HB.out)) hb); clear HB; have HO128 := n0_; have HB := n1_; clear n0_ n1_; (try clear hb); (try clear hb2); (try clear hk); (try clear hi); (try clear ho0); obtain ⟨Ao16, co16, eo16⟩ := Kd.R_slice HO128.out; subst eo16))
                go_loopg [6, 37] kj2 (fun kq v6 v37 w' => ∃ (x6_2 : List Int) (x37_2 : Int), v37 = .int .i64 x37_2 ∧ Aside0 (flow_Succs.l0 kq l0 x6_2 t126 (t126.length : Int) x37_2 = some r) ∧ Aside0 (kq ≤ kj2) ∧ Aside0 (Kd.R (Kd.int .i64) 3 w' w.heap.size (fun k_ => some k_ ≠ ((.slice Ao16 t126.length co16) : Value).ownBlock) v6 x6_2) ∧ Aside0 (Kd.R (Kd.int .i64) 3 w' w.heap.size (fun k_ => some k_ ≠ (v6 : Value).ownBlock) (.slice Ao16 t126.length co16) t126) ∧ Aside0 (Below w.heap.size w w'))
                case atStart => exact ⟨(([] : List Int)), (0), (by first | rfl | (simp; done) | (simp [*]; done)), H', ⟨Nat.le_refl _⟩, ⟨by first | exact Kd.R_nil _ _ _ _ _ | exact Kd.N_nil _ _ _ _ _ | exact Kd.V_nil _ _ _ _ _ | exact Kd.Q_nil _ _ _ _ _ | exact Kd.S_nil _ _ _ _ _⟩, ⟨by (with_reducible repeat (first | apply Kd.R_alloc | apply Kd.R_drewN | apply Kd.R_drew)); exact Kd.R_mono HO128.out (fun _ hk => (by simp [Value.ownBlock]))⟩, ⟨by repeat (first | (with_reducible first | exact HB.out | apply below_alloc | apply pw_below_drewN | apply below_drew1) | exact HB.out)⟩⟩
                case round =>
                  clear H'
                  try clear c1
                  try clear p1
                  try clear q1
                  try clear hx1
                  try clear c2
                  try clear p2
                  try clear c4
                  try clear c4b0
                  try clear c5
                  try clear c5b0
                  try clear c6
                  try clear c6b0
                  try clear p6
                  try clear c7
                  try clear c7b0
                  try clear c8
                  try clear c9
                  try clear c9b0
                  try clear c10
                  try clear c10b0
                  try clear c12
                  try clear c12b0
                  try clear p12
                  try clear q12
                  try clear hx12
                  try clear c13
                  try clear c13b0
                  try clear c14
                  try clear hx123_0
                  try clear hx124_0
                  try clear hx125_0
                  try clear hx125_1
                  try clear hx125_2
                  try clear hx125_3
                  try clear hx125_4
                  try clear hx125_5
                  try clear p1
                  try clear p123
                  try clear p124
                  try clear p125
                  try clear p2
                  try clear q1
                  try clear q123
                  try clear q124
                  try clear q125
                  obtain ⟨x6_2, x37_2, rfl, HA, HK2, HO_6, HO_35, HB⟩ := hrel
                  cases gk with
                  | zero => exact absurd HA.out (by simp [flow_Succs.l0])
                  | succ k2 =>
                    have H := HA.out
                    clear HA
                    simp only [flow_Succs.l0] at H
                    by_cases c17 : x37_2 < (t126.length : Int)
                    · rw [if_pos c17] at H
                      have c17b0 : decide (x37_2 < (t126.length : Int)) = true := decide_eq_true c17
                      clear c17
                      by_cases c18 : 0 ≤ x37_2
                      · rw [if_pos c18] at H
                        have c18b0 : decide (0 ≤ x37_2) = true := decide_eq_true c18
                        clear c18
                        by_cases c19 : x37_2 < (t126.length : Int)
                        · rw [if_pos c19] at H
                          have c19b0 : decide (x37_2 < (t126.length : Int)) = true := decide_eq_true c19
                          clear c19
                          by_cases c20 : (rd t126 x37_2) ≥ 0
                          · rw [if_pos c20] at H
                            have c20b0 : decide (0 ≤ (rd t126 x37_2)) = true := decide_eq_true c20
                            clear c20
                            by_cases c21 : (rd t126 x37_2) < (l0.length : Int)
                            · rw [if_pos c21] at H
                              have c21b0 : decide ((rd t126 x37_2) < (l0.length : Int)) = true := decide_eq_true c21
                              clear c21
                              replace H := Option.bind_eq_some_iff.mp H
                              obtain ⟨t130, A220, H⟩ := H
                              replace H : (if t130 = true then (flow_Succs.l0 k2 l0 x6_2 t126 (t126.length : Int) (wrap64 (x37_2 + 1))) else (if x6_2.length < 17592186044416 then (flow_Succs.l0 k2 l0 (x6_2 ++ [rd t126 x37_2]) t126 (t126.length : Int) (wrap64 (x37_2 + 1))) else (none))) = some r := H
                              have A22 := Aside0.mk A220
                              clear A220
                              by_cases c23 : t130 = true
                              · subst c23
                                have H1 : (flow_Succs.l0 k2 l0 x6_2 t126 (t126.length : Int) (wrap64 (x37_2 + 1))) = some r := by rw [if_pos rfl] at H; exact H
                                clear H
                                have H := H1
                                clear H1
                                have H' := Aside0.mk H
                                clear H
                                have p129 : 0 ≤ (x37_2 : Int) := of_decide_eq_true (by first | (with_reducible assumption) | assumption)
                                have q129 : x37_2 < (t126.length : Int) := of_decide_eq_true (by first | (with_reducible assumption) | assumption)
                                obtain ⟨ad129, e129, hx129_0⟩ := Kd.at_int (Kd.R_reads' HO_35.out).2.2 x37_2 p129 q129
                                cases e129
                                replace p129 := eq_true p129
                                replace q129 := eq_true q129
                                obtain ⟨Ao24, co24, eo24⟩ := Kd.R_slice HO_6.out
                                subst eo24
                                go_wp2_with (first | (go_at_call 24; (with_reducible refine (slices_Contains_int_int.calls k2 _ _ x6_2 (rd t126 x37_2) true _ ?side1 ?side2 A22.out).mono ?_); (case side1 => repeat (first | exact (Kd.R_reads' HO_6.out).2.2 | (with_reducible refine Kd.C_alloc ?_ _) | (with_reducible refine Kd.C_drewN ?_ _) | (with_reducible refine Kd.C_drew ?_))); (case side2 => exact (Kd.R_reads' HO_6.out).2.1); rintro e w' ⟨rfl, ⟨nd, rfl⟩⟩))
                                go_roundg k2
                                case measure => have := HJ2.out; have := HK2.out; omega
                                case rel => exact ⟨(x6_2), (wrap64 (x37_2 + 1)), (by first | rfl | (simp; done) | (simp [*]; done)), H', ⟨by have := HJ2.out; have := HK2.out; omega⟩, ⟨by (with_reducible repeat (first | apply Kd.R_alloc | apply Kd.R_drewN | apply Kd.R_drew)); exact HO_6.out⟩, ⟨by (with_reducible repeat (first | apply Kd.R_alloc | apply Kd.R_drewN | apply Kd.R_drew)); exact HO_35.out⟩, ⟨by repeat (first | (with_reducible first | exact HB.out | apply below_alloc | apply pw_below_drewN | apply below_drew1) | exact HB.out)⟩⟩
                              · replace c23 := Bool.eq_false_iff.mpr c23
                                subst c23
                                have H1 : (if x6_2.length < 17592186044416 then (flow_Succs.l0 k2 l0 (x6_2 ++ [rd t126 x37_2]) t126 (t126.length : Int) (wrap64 (x37_2 + 1))) else (none)) = some r := by rw [if_neg (show ¬ (false = true) by decide)] at H; exact H
                                clear H
                                have H := H1
                                clear H1
                                by_cases c25 : x6_2.length < 17592186044416
                                · rw [if_pos c25] at H
                                  have LMc25 := Aside0.mk c25
                                  clear c25
                                  obtain ⟨y131, hy131⟩ : ∃ y_ : List Int, y_ = (x6_2 ++ [rd t126 x37_2]) := ⟨_, rfl⟩
                                  replace H : (flow_Succs.l0 k2 l0 y131 t126 (t126.length : Int) (wrap64 (x37_2 + 1))) = some r := by first | (rw [hy131]; with_reducible exact H) | (have H2_ := (Option.bind_some _ _).symm.trans H; rw [hy131]; with_reducible exact H2_) | (have H2_ := (Option.bind_some _ _).symm.trans H; with_reducible exact H2_) | with_reducible exact H | (rw [hy131]; exact H) | exact H
                                  have Ny131 := Aside0.mk hy131
                                  clear hy131
                                  have H' := Aside0.mk H
                                  clear H
                                  have p129 : 0 ≤ (x37_2 : Int) := of_decide_eq_true (by first | (with_reducible assumption) | assumption)
                                  have q129 : x37_2 < (t126.length : Int) := of_decide_eq_true (by first | (with_reducible assumption) | assumption)
                                  obtain ⟨ad129, e129, hx129_0⟩ := Kd.at_int (Kd.R_reads' HO_35.out).2.2 x37_2 p129 q129
                                  cases e129
                                  replace p129 := eq_true p129
                                  replace q129 := eq_true q129
                                  obtain ⟨Ao26, co26, eo26⟩ := Kd.R_slice HO_6.out
                                  subst eo26
                                  go_wp2_with (first | (go_at_call 24; (with_reducible refine (slices_Contains_int_int.calls k2 _ _ x6_2 (rd t126 x37_2) false _ ?side1 ?side2 A22.out).mono ?_); (case side1 => repeat (first | exact (Kd.R_reads' HO_6.out).2.2 | (with_reducible refine Kd.C_alloc ?_ _) | (with_reducible refine Kd.C_drewN ?_ _) | (with_reducible refine Kd.C_drew ?_))); (case side2 => exact (Kd.R_reads' HO_6.out).2.1); rintro e w' ⟨rfl, ⟨nd, rfl⟩⟩) | ((with_reducible refine gate_builtin (b := .append) (xs := #[.tmp 55, .tmp 57]) rfl ?_); (try (refine gate_guard (by rfl) ?_; dsimp only)); at_builtin; refine Kd.R_append (Kd.int .i64) (w0 := w) w.heap.size rfl (.tmp 55) (.tmp 57) 28 3 (.int .i64 0) 8 rfl Try.underlying28 info3 rfl (by decide) (by omega) (.slice Ao26 x6_2.length co26) x6_2 (rd t126 x37_2) [.int .i64 (rd t126 x37_2)] (fun k_ => some k_ ≠ (.slice (some ad129) t126.length co16 : Value).ownBlock) (fun _ => False) rfl rfl ?aP (fun _ hk => hk.elim) ?aF ?aO ?aB ?aS ?aL ?_; (case aP => exact rfl); (case aB => exact (by repeat (first | (with_reducible first | exact HB.out | apply below_alloc | apply pw_below_drewN | apply below_drew1) | exact HB.out))); (case aF => exact (fun k_ hk => Kd.fresh' (Kd.R_lt (by (with_reducible repeat (first | apply Kd.R_alloc | apply Kd.R_drewN | apply Kd.R_drew)); exact HO_35.out)) k_ hk)); (case aO => exact (by (with_reducible repeat (first | apply Kd.R_alloc | apply Kd.R_drewN | apply Kd.R_drew)); exact HO_6.out)); (case aS => exact (below_size (by repeat (first | (with_reducible first | exact HB.out | apply below_alloc | apply pw_below_drewN | apply below_drew1) | exact HB.out)))); (case aL => have := LMc25.out; omega); intro v132 w27 ho hb hg hat; rw [← Ny131.out] at ho; have n0_ := Aside0.mk (Kd.R_after (ok := (fun _ => True)) (by (with_reducible repeat (first | apply Kd.R_alloc | apply Kd.R_drewN | apply Kd.R_drew)); exact Kd.R_mono HO_35.out (fun _ hk => ⟨trivial, hk⟩)) hg hat); have n1_ := Aside0.mk (hb); have n2_ := Aside0.mk (ho); clear HO_35; clear HB; clear HO_6; have HO_35 := n0_; have HB := n1_; have HO133 := n2_; clear n0_ n1_ n2_; clear ho hb hg hat))
                                  go_roundg k2
                                  case measure => have := HJ2.out; have := HK2.out; omega
                                  case rel => exact ⟨(y131), (wrap64 (x37_2 + 1)), (by first | rfl | (simp; done) | (simp [*]; done)), H', ⟨by have := HJ2.out; have := HK2.out; omega⟩, ⟨by (with_reducible repeat (first | apply Kd.R_alloc | apply Kd.R_drewN | apply Kd.R_drew)); exact HO133.out⟩, ⟨by (with_reducible repeat (first | apply Kd.R_alloc | apply Kd.R_drewN | apply Kd.R_drew)); exact Kd.R_mono HO_35.out (fun _ hk => hk.2)⟩, ⟨by repeat (first | (with_reducible first | exact HB.out | apply below_alloc | apply pw_below_drewN | apply below_drew1) | exact HB.out)⟩⟩
                                · rw [if_neg c25] at H
                                  exact absurd H (by simp)
                            · rw [if_neg c21] at H
                              have c21b0 : decide ((rd t126 x37_2) < (l0.length : Int)) = false := decide_eq_false c21
                              clear c21
                              have H' := Aside0.mk H
                              clear H
                              have p129 : 0 ≤ (x37_2 : Int) := of_decide_eq_true (by first | (with_reducible assumption) | assumption)
                              have q129 : x37_2 < (t126.length : Int) := of_decide_eq_true (by first | (with_reducible assumption) | assumption)
                              obtain ⟨ad129, e129, hx129_0⟩ := Kd.at_int (Kd.R_reads' HO_35.out).2.2 x37_2 p129 q129
                              cases e129
                              replace p129 := eq_true p129
                              replace q129 := eq_true q129
                              go_wp2
                              go_roundg k2
                              case measure => have := HJ2.out; have := HK2.out; omega
                              case rel => exact ⟨(x6_2), (wrap64 (x37_2 + 1)), (by first | rfl | (simp; done) | (simp [*]; done)), H', ⟨by have := HJ2.out; have := HK2.out; omega⟩, ⟨by (with_reducible repeat (first | apply Kd.R_alloc | apply Kd.R_drewN | apply Kd.R_drew)); exact HO_6.out⟩, ⟨by (with_reducible repeat (first | apply Kd.R_alloc | apply Kd.R_drewN | apply Kd.R_drew)); exact HO_35.out⟩, ⟨by repeat (first | (with_reducible first | exact HB.out | apply below_alloc | apply pw_below_drewN | apply below_drew1) | exact HB.out)⟩⟩
                          · rw [if_neg c20] at H
                            have c20b0 : decide (0 ≤ (rd t126 x37_2)) = false := decide_eq_false c20
                            clear c20
                            have H' := Aside0.mk H
                            clear H
                            have p129 : 0 ≤ (x37_2 : Int) := of_decide_eq_true (by first | (with_reducible assumption) | assumption)
                            have q129 : x37_2 < (t126.length : Int) := of_decide_eq_true (by first | (with_reducible assumption) | assumption)
                            obtain ⟨ad129, e129, hx129_0⟩ := Kd.at_int (Kd.R_reads' HO_35.out).2.2 x37_2 p129 q129
                            cases e129
                            replace p129 := eq_true p129
                            replace q129 := eq_true q129
                            go_wp2
                            go_roundg k2
                            case measure => have := HJ2.out; have := HK2.out; omega
                            case rel => exact ⟨(x6_2), (wrap64 (x37_2 + 1)), (by first | rfl | (simp; done) | (simp [*]; done)), H', ⟨by have := HJ2.out; have := HK2.out; omega⟩, ⟨by (with_reducible repeat (first | apply Kd.R_alloc | apply Kd.R_drewN | apply Kd.R_drew)); exact HO_6.out⟩, ⟨by (with_reducible repeat (first | apply Kd.R_alloc | apply Kd.R_drewN | apply Kd.R_drew)); exact HO_35.out⟩, ⟨by repeat (first | (with_reducible first | exact HB.out | apply below_alloc | apply pw_below_drewN | apply below_drew1) | exact HB.out)⟩⟩
                        · rw [if_neg c19] at H
                          exact absurd H (by simp)
                      · rw [if_neg c18] at H
                        exact absurd H (by simp)
                    · rw [if_neg c17] at H
                      have c17b0 : decide (x37_2 < (t126.length : Int)) = false := decide_eq_false c17
                      clear c17
                      obtain rfl := Option.some.inj H
                      go_wp2
                      go_ret
                      exact ⟨_, by first | rfl | (simp [errW_none, errW_some] <;> rfl) | (simp only [← hji11]; first | rfl | (simp [errW_none, errW_some] <;> rfl)) | (simp [*, errW_none, errW_some] <;> rfl), by (with_reducible repeat (first | apply Kd.R_alloc | apply Kd.R_drewN | apply Kd.R_drew)); exact Kd.R_mono HO_6.out (fun _ hk => trivial), by repeat (first | (with_reducible first | exact HB.out | apply below_alloc | apply pw_below_drewN | apply below_drew1) | exact HB.out)⟩
              · rw [if_neg c13] at H
                exact absurd H (by simp)
            · rw [if_neg c12] at H
              exact absurd H (by simp)
          · rw [if_neg c10] at H
            exact absurd H (by simp)
        · rw [if_neg c9] at H
          exact absurd H (by simp)

end Go.Proofs.Ytgmklfaknomakaa.Q
