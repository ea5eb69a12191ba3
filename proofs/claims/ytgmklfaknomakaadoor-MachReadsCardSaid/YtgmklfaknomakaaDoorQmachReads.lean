/- Lean functions that answer as the Go functions named below do, and the proofs of that. Written by a program out of the translation. -/
import Derived.Test.YtgmklfaknomakaaDoorQ0
import Derived.Test.YtgmklfaknomakaaDoorLaid
import Derived.Test.YtgmklfaknomakaaDoorQirUses
namespace Go.Proofs.YtgmklfaknomakaaDoor.Q
open Go.RowKit Go.Proofs.YtgmklfaknomakaaDoorW.PrintWords Go.Proofs.YtgmklfaknomakaaDoorW.PrintLast Go.Proofs.YtgmklfaknomakaaDoorW.PrintMore
attribute [local go_sem] max2_int min2_int max_two min_two max_three min_three max_four min_four   -- for this text's walks alone
set_option linter.unusedVariables false
set_option linter.unusedSimpArgs false

/-! ### mach_Reads: function 21 -/
def mach_Reads.l0 : Nat → List Int → Int → Int → Option (List Int)
  | 0, _, _, _ => none
  | k + 1, x3, x14, x15 => if x15 < x14 then (if x3.length < 17592186044416 then (mach_Reads.l0 k (x3 ++ [x15]) x14 (wrap64 (x15 + 1))) else (none)) else (some x3)
def mach_Reads.f (k : Nat) (a0_0 : Int) (a0_1 : Int) (a0_2 : Int) (a0_3 : Int) (a0_4 : ByteArray) (l0_5 : List Int) : Option (List Int) := if a0_0 = 11 then (mach_Reads.l0 k ([] : List Int) (mn (mx a0_2 0) 16) 0) else (if a0_0 = 22 then (some (([a0_2] : List Int))) else (if a0_0 = 21 then (some ([] : List Int)) else ((ir_Uses.f k a0_0 a0_1 a0_2 a0_3 a0_4 l0_5).bind fun t197 => (some t197))))
theorem mach_Reads.mono_l : ∀ k, (∀ y0 y1 y2, LeO (mach_Reads.l0 k y0 y1 y2) (mach_Reads.l0 (k + 1) y0 y1 y2))
  | 0 => fun _ _ _ r h => by simp [mach_Reads.l0] at h
  | k + 1 => by
    have ih0 := mach_Reads.mono_l k
    · intro y0 y1 y2
      unfold mach_Reads.l0
      repeat' first
      | (with_reducible exact ih0 _ _ _)
      | (with_reducible exact ir_Uses.mono _ _ _ _ _ _ _)
      | (with_reducible exact LeO.refl _)
      | (with_reducible exact LeO.none _)
      | (with_reducible refine LeO.ite ?_ ?_)
      | (with_reducible refine LeO.bind ?_ (fun _ => ?_))
      | exact ih0 _ _ _
      | exact ir_Uses.mono _ _ _ _ _ _ _
      | exact LeO.none _
      | refine LeO.ite ?_ ?_
      | refine LeO.bind ?_ (fun _ => ?_)
theorem mach_Reads.mono : ∀ a0 a1 a2 a3 a4 a5 k, LeO (mach_Reads.f k a0 a1 a2 a3 a4 a5) (mach_Reads.f (k + 1) a0 a1 a2 a3 a4 a5) := by
  intro a0 a1 a2 a3 a4 a5 k
  have ih0 := mach_Reads.mono_l k
  unfold mach_Reads.f
  repeat' first
      | (with_reducible exact ih0 _ _ _)
      | (with_reducible exact ir_Uses.mono _ _ _ _ _ _ _)
      | (with_reducible exact LeO.refl _)
      | (with_reducible exact LeO.none _)
      | (with_reducible refine LeO.ite ?_ ?_)
      | (with_reducible refine LeO.bind ?_ (fun _ => ?_))
      | exact ih0 _ _ _
      | exact ir_Uses.mono _ _ _ _ _ _ _
      | exact LeO.none _
      | refine LeO.ite ?_ ?_
      | refine LeO.bind ?_ (fun _ => ?_)
set_option maxHeartbeats 8000000 in
set_option maxRecDepth 100000 in
theorem mach_Reads.calls (k : Nat) (a0_0 : Int) (a0_1 : Int) (a0_2 : Int) (a0_3 : Int) (a0_4 : ByteArray) (A0_5 : Option Addr) (c0_5 : Nat) (l0_5 : List Int) (r : List Int) (w : World) (hL : LaidW w) (hr0_5 : Kd.C (Kd.int .i64) w A0_5 l0_5.length l0_5) (hc0_5 : l0_5.length ≤ c0_5) (h : mach_Reads.f k a0_0 a0_1 a0_2 a0_3 a0_4 l0_5 = some r) :
    Calls Tryd.prog 21 #[.agg #[.int .i64 a0_0, .int .i64 a0_1, .int .i64 a0_2, .int .i64 a0_3, .string a0_4, .slice A0_5 l0_5.length c0_5]] w fun e w' => ∃ v0_ : Value, e = .returned (v0_) ∧ Kd.R (Kd.int .i64) 3 w' w.heap.size (fun _ => True) v0_ r ∧ Below w.heap.size w w' := by
  have hu24 := Tryd.underlying24
  have HR0_5 := Aside0.mk hr0_5
  have HC0_5 := Aside0.mk hc0_5
  clear hr0_5 hc0_5
  have HB := Aside0.mk (Below.refl w.heap.size w)
  have HLd := Aside0.mk hL
  clear hL
  have H : (if a0_0 = 11 then (mach_Reads.l0 k ([] : List Int) (mn (mx a0_2 0) 16) 0) else (if a0_0 = 22 then (some (([a0_2] : List Int))) else (if a0_0 = 21 then (some ([] : List Int)) else ((ir_Uses.f k a0_0 a0_1 a0_2 a0_3 a0_4 l0_5).bind fun t197 => (some t197))))) = some r := h
  clear h
  by_cases c2 : a0_0 = 11
  · rw [if_pos c2] at H
    have c2b0 : (a0_0 == 11) = true := beq_iff_eq.mpr c2
    have c2b1 : (a0_0 != 11) = false := bne_eq_false_iff_eq.mpr c2
    clear c2
    obtain ⟨ji3, hji3⟩ : ∃ j_ : Int, (mx a0_2 0) = j_ := ⟨_, rfl⟩
    replace H : (mach_Reads.l0 k ([] : List Int) (mn (ji3) 16) 0) = some r := by first | (rw [hji3] at H; exact H) | (simp only [hji3] at H ⊢; exact H)
    (try (have hji3l : 0 ≤ ji3 := by (rw [← hji3]; unfold mx; (repeat' split) <;> omega)))
    (try (have hji3m : 0 ≤ ji3 := by omega))
    have hji3_ : (if a0_2 < 0 then 0 else a0_2) = ji3 := hji3
    obtain ⟨ji4, hji4⟩ : ∃ j_ : Int, (mn (ji3) 16) = j_ := ⟨_, rfl⟩
    replace H : (mach_Reads.l0 k ([] : List Int) ji4 0) = some r := by first | (rw [hji4] at H; exact H) | (simp only [hji4] at H ⊢; exact H)
    have hji4_ : (if 16 < (ji3) then 16 else (ji3)) = ji4 := hji4
    have H' := Aside0.mk H
    clear H
    go_enter Tryd.func21, Tryd.ntmps21
    go_wp2_with (first | ((with_reducible refine gate_dst (N := 1) rfl ?_); refine box_event ?hg (N := 1) ?hd (cs := #[.int .i64 a0_0, .int .i64 a0_1, .int .i64 a0_2, .int .i64 a0_3, .string a0_4, .slice A0_5 l0_5.length c0_5]) (t := 24) ?hr ?_; (case hd => rfl); (case hg => rfl); (case hr => first | (go_simp; done) | (go_simp; rfl)); intro gb190 hg w5 hbox hb; have n0_ := Aside0.mk (below_step (by repeat (first | (with_reducible first | exact HB.out | apply below_alloc | apply pw_below_drewN | apply below_drew1) | exact HB.out)) hb); have n1_ := Aside0.mk (hbox); have n2_ := Aside0.mk ((by rw [hg]; exact (below_size (by repeat (first | (with_reducible first | exact HB.out | apply below_alloc | apply pw_below_drewN | apply below_drew1) | exact HB.out))) : w.heap.size ≤ gb190)); have n3_ := Aside0.mk ((by rw [hg]; exact (below_size (by repeat (first | (with_reducible first | exact HB.out | apply below_alloc | apply pw_below_drewN | apply below_drew1) | exact HB.out))) : w.heap.size ≤ gb190)); clear HB; have HB := n0_; have BK190 := n1_; have GW190 := n2_; have GE190 := n3_; clear n0_ n1_ n2_ n3_; clear hb hbox hg; have hcz6_0 : w5.cell? ⟨gb190, 0, none⟩ = some (.int .i64 a0_0) := (blk_cell BK190.out 0).trans rfl; have hcz6_1 : w5.cell? ⟨gb190, 1, none⟩ = some (.int .i64 a0_1) := (blk_cell BK190.out 1).trans rfl; have hcz6_2 : w5.cell? ⟨gb190, 2, none⟩ = some (.int .i64 a0_2) := (blk_cell BK190.out 2).trans rfl; have hcz6_3 : w5.cell? ⟨gb190, 3, none⟩ = some (.int .i64 a0_3) := (blk_cell BK190.out 3).trans rfl; have hcz6_4 : w5.cell? ⟨gb190, 4, none⟩ = some (.string a0_4) := (blk_cell BK190.out 4).trans rfl; have hcz6_5 : w5.cell? ⟨gb190, 5, none⟩ = some (.slice A0_5 l0_5.length c0_5) := (blk_cell BK190.out 5).trans rfl; have hfz6_0 := blk_frozen BK190.out 0; have hfz6_1 := blk_frozen BK190.out 1; have hfz6_2 := blk_frozen BK190.out 2; have hfz6_3 := blk_frozen BK190.out 3; have hfz6_4 := blk_frozen BK190.out 4; have hfz6_5 := blk_frozen BK190.out 5))
    go_loopg [3, 15] k (fun kq v3 v15 w' => ∃ (x3_1 : List Int) (x15_1 : Int), v15 = .int .i64 x15_1 ∧ Aside0 (mach_Reads.l0 kq x3_1 ji4 x15_1 = some r) ∧ Aside0 (kq ≤ k) ∧ Aside0 (Kd.R (Kd.int .i64) 3 w' w.heap.size (fun _ => True) v3 x3_1) ∧ Aside0 (w'.heap[gb190]? = some (.cells #[.int .i64 a0_0, .int .i64 a0_1, .int .i64 a0_2, .int .i64 a0_3, .string a0_4, (.slice A0_5 l0_5.length c0_5)] 24 (0, 0))) ∧ Aside0 (Below w.heap.size w w'))
    case atStart => exact ⟨(([] : List Int)), (0), (by first | rfl | (simp; done) | (simp [*]; done)), H', ⟨Nat.le_refl _⟩, ⟨by first | exact Kd.R_nil _ _ _ _ _ | exact Kd.N_nil _ _ _ _ _ | exact Kd.V_nil _ _ _ _ _ | exact Kd.Q_nil _ _ _ _ _ | exact Kd.S_nil _ _ _ _ _⟩, ⟨by (with_reducible repeat (first | refine blk_drewN ?_ _ | refine blk_drew ?_ | refine blk_alloc ?_ _)); exact BK190.out⟩, ⟨by repeat (first | (with_reducible first | exact HB.out | apply below_alloc | apply pw_below_drewN | apply below_drew1 | refine below_set ?_ GE190.out) | exact HB.out)⟩⟩
    case round =>
      clear H'
      try clear c2
      try clear c2b0
      try clear c2b1
      try clear p2
      try clear hcz6_0
      try clear hcz6_1
      try clear hcz6_2
      try clear hcz6_3
      try clear hcz6_4
      try clear hcz6_5
      try clear hfz6_0
      try clear hfz6_1
      try clear hfz6_2
      try clear hfz6_3
      try clear hfz6_4
      try clear hfz6_5
      obtain ⟨x3_1, x15_1, rfl, HA, HK1, HO_3, BK190, HB⟩ := hrel
      cases gk with
      | zero => exact absurd HA.out (by simp [mach_Reads.l0])
      | succ k1 =>
        have H := HA.out
        clear HA
        simp only [mach_Reads.l0] at H
        by_cases c7 : x15_1 < ji4
        · rw [if_pos c7] at H
          have c7b0 : decide (x15_1 < ji4) = true := decide_eq_true c7
          clear c7
          by_cases c8 : x3_1.length < 17592186044416
          · rw [if_pos c8] at H
            have LMc8 := Aside0.mk c8
            clear c8
            obtain ⟨y191, hy191⟩ : ∃ y_ : List Int, y_ = (x3_1 ++ [x15_1]) := ⟨_, rfl⟩
            replace H : (mach_Reads.l0 k1 y191 ji4 (wrap64 (x15_1 + 1))) = some r := by first | (rw [hy191]; with_reducible exact H) | (have H2_ := (Option.bind_some _ _).symm.trans H; rw [hy191]; with_reducible exact H2_) | (have H2_ := (Option.bind_some _ _).symm.trans H; with_reducible exact H2_) | with_reducible exact H | (rw [hy191]; exact H) | exact H
            have Ny191 := Aside0.mk hy191
            clear hy191
            have H' := Aside0.mk H
            clear H
            go_wp2_with (first | ((with_reducible refine gate_builtin (b := .append) (xs := #[.tmp 18, .tmp 20]) rfl ?_); at_builtin; refine Kd.R_append (Kd.int .i64) (w0 := w) w.heap.size rfl (.tmp 18) (.tmp 20) 22 3 (.int .i64 0) 8 rfl Tryd.underlying22 info3 rfl (by decide) (by omega) u3 x3_1 x15_1 [.int .i64 x15_1] (fun _ => True) (fun _ => False) rfl rfl ?aP (fun _ hk => hk.elim) ?aF ?aO ?aB ?aS ?aL ?_; (case aP => exact rfl); (case aB => exact (by repeat (first | (with_reducible first | exact HB.out | apply below_alloc | apply pw_below_drewN | apply below_drew1 | refine below_set ?_ GE190.out) | exact HB.out))); (case aF => exact (fun _ _ => trivial)); (case aO => exact (by (with_reducible repeat (first | apply Kd.R_alloc | apply Kd.R_drewN | apply Kd.R_drew)); exact HO_3.out)); (case aS => exact (below_size (by repeat (first | (with_reducible first | exact HB.out | apply below_alloc | apply pw_below_drewN | apply below_drew1 | refine below_set ?_ GE190.out) | exact HB.out)))); (case aL => have := LMc8.out; omega); intro v192 w9 ho hb hg hat; rw [← Ny191.out] at ho; have n0_ := Aside0.mk (blk_grown (g := gb190) (o := .cells #[.int .i64 a0_0, .int .i64 a0_1, .int .i64 a0_2, .int .i64 a0_3, .string a0_4, .slice A0_5 l0_5.length c0_5] 24 (0, 0)) (by (with_reducible repeat (first | refine blk_drewN ?_ _ | refine blk_drew ?_ | refine blk_alloc ?_ _)); exact BK190.out) hg (Kd.R_ne HO_3.out BK190.out (by decide))); have n1_ := Aside0.mk (hb); have n2_ := Aside0.mk (ho); clear BK190; clear HB; clear HO_3; have BK190 := n0_; have HB := n1_; have HO193 := n2_; clear n0_ n1_ n2_; clear ho hb hg hat))
            go_roundg k1
            case measure => have := HK1.out; omega
            case rel => exact ⟨(y191), (wrap64 (x15_1 + 1)), (by first | rfl | (simp; done) | (simp [*]; done)), H', ⟨by have := HK1.out; omega⟩, ⟨by (with_reducible repeat (first | apply Kd.R_alloc | apply Kd.R_drewN | apply Kd.R_drew)); exact HO193.out⟩, ⟨by (with_reducible repeat (first | refine blk_drewN ?_ _ | refine blk_drew ?_ | refine blk_alloc ?_ _)); exact BK190.out⟩, ⟨by repeat (first | (with_reducible first | exact HB.out | apply below_alloc | apply pw_below_drewN | apply below_drew1 | refine below_set ?_ GE190.out) | exact HB.out)⟩⟩
          · rw [if_neg c8] at H
            exact absurd H (by simp)
        · rw [if_neg c7] at H
          have c7b0 : decide (x15_1 < ji4) = false := decide_eq_false c7
          clear c7
          obtain rfl := Option.some.inj H
          go_wp2
          go_ret
          exact ⟨_, by first | rfl | (simp [errW_none, errW_some] <;> rfl) | (simp only [← hji3, ← hji4]; first | rfl | (simp [errW_none, errW_some] <;> rfl)) | (simp [*, errW_none, errW_some] <;> rfl), by (with_reducible repeat (first | apply Kd.R_alloc | apply Kd.R_drewN | apply Kd.R_drew)); exact HO_3.out, by repeat (first | (with_reducible first | exact HB.out | apply below_alloc | apply pw_below_drewN | apply below_drew1 | refine below_set ?_ GE190.out) | exact HB.out)⟩
  · rw [if_neg c2] at H
    have c2b0 : (a0_0 == 11) = false := beq_eq_false_iff_ne.mpr c2
    have c2b1 : (a0_0 != 11) = true := bne_iff_ne.mpr c2
    by_cases c10 : a0_0 = 22
    · rw [if_pos c10] at H
      have c10b0 : (a0_0 == 22) = true := beq_iff_eq.mpr c10
      have c10b1 : (a0_0 != 22) = false := bne_eq_false_iff_eq.mpr c10
      clear c10
      obtain ⟨y194, hy194⟩ : ∃ y_ : List Int, y_ = (([a0_2] : List Int)) := ⟨_, rfl⟩
      replace H : (some y194) = some r := by first | (rw [hy194]; with_reducible exact H) | (have H2_ := (Option.bind_some _ _).symm.trans H; rw [hy194]; with_reducible exact H2_) | (have H2_ := (Option.bind_some _ _).symm.trans H; with_reducible exact H2_) | with_reducible exact H | (rw [hy194]; exact H) | exact H
      have Ny194 := Aside0.mk hy194
      clear hy194
      obtain rfl := Option.some.inj H
      go_enter Tryd.func21, Tryd.ntmps21
      go_wp2_with (first | ((with_reducible refine gate_dst (N := 1) rfl ?_); refine box_event ?hg (N := 1) ?hd (cs := #[.int .i64 a0_0, .int .i64 a0_1, .int .i64 a0_2, .int .i64 a0_3, .string a0_4, .slice A0_5 l0_5.length c0_5]) (t := 24) ?hr ?_; (case hd => rfl); (case hg => rfl); (case hr => first | (go_simp; done) | (go_simp; rfl)); intro gb190 hg w11 hbox hb; have n0_ := Aside0.mk (below_step (by repeat (first | (with_reducible first | exact HB.out | apply below_alloc | apply pw_below_drewN | apply below_drew1) | exact HB.out)) hb); have n1_ := Aside0.mk (hbox); have n2_ := Aside0.mk ((by rw [hg]; exact (below_size (by repeat (first | (with_reducible first | exact HB.out | apply below_alloc | apply pw_below_drewN | apply below_drew1) | exact HB.out))) : w.heap.size ≤ gb190)); have n3_ := Aside0.mk ((by rw [hg]; exact (below_size (by repeat (first | (with_reducible first | exact HB.out | apply below_alloc | apply pw_below_drewN | apply below_drew1) | exact HB.out))) : w.heap.size ≤ gb190)); clear HB; have HB := n0_; have BK190 := n1_; have GW190 := n2_; have GE190 := n3_; clear n0_ n1_ n2_ n3_; clear hb hbox hg; have hcz12_0 : w11.cell? ⟨gb190, 0, none⟩ = some (.int .i64 a0_0) := (blk_cell BK190.out 0).trans rfl; have hcz12_1 : w11.cell? ⟨gb190, 1, none⟩ = some (.int .i64 a0_1) := (blk_cell BK190.out 1).trans rfl; have hcz12_2 : w11.cell? ⟨gb190, 2, none⟩ = some (.int .i64 a0_2) := (blk_cell BK190.out 2).trans rfl; have hcz12_3 : w11.cell? ⟨gb190, 3, none⟩ = some (.int .i64 a0_3) := (blk_cell BK190.out 3).trans rfl; have hcz12_4 : w11.cell? ⟨gb190, 4, none⟩ = some (.string a0_4) := (blk_cell BK190.out 4).trans rfl; have hcz12_5 : w11.cell? ⟨gb190, 5, none⟩ = some (.slice A0_5 l0_5.length c0_5) := (blk_cell BK190.out 5).trans rfl; have hfz12_0 := blk_frozen BK190.out 0; have hfz12_1 := blk_frozen BK190.out 1; have hfz12_2 := blk_frozen BK190.out 2; have hfz12_3 := blk_frozen BK190.out 3; have hfz12_4 := blk_frozen BK190.out 4; have hfz12_5 := blk_frozen BK190.out 5) | ((with_reducible refine gate_dst (N := 27) rfl ?_); refine Kd.R_lit (Kd.int .i64) _ 3 ?hg (N := 27) ?hd (xs := ([a0_2] : List Int)) (inner := [.int .i64 a0_2]) (ok := fun _ => True) (okp := fun _ => True) ?hr ?hp (fun _ hk => hk) trivial (Below.refl _ _) (Nat.le_refl _) (by simp) ?_; (case hd => rfl); (case hg => rfl); (case hr => first | (go_simp; done) | (go_simp; rfl)); (case hp => exact (Reps.one (show Kd.M (Kd.int .i64) _ _ _ a0_2 [.int .i64 a0_2] from rfl) (Reps.none _ _))); intro v195 w13 ho14 hb hg_ hnew_; clear hg_ hnew_; (first | rw [← Ny194.out] at ho14 | (simp only [Int.reduceToNat] at ho14; rw [← Ny194.out] at ho14)); have n0_ := Aside0.mk (Kd.R_lower ho14 (below_size (by repeat (first | (with_reducible first | exact HB.out | apply below_alloc | apply pw_below_drewN | apply below_drew1 | refine below_set ?_ GE190.out) | exact HB.out)))); have n1_ := Aside0.mk (blk_below (g := gb190) (o := .cells #[.int .i64 a0_0, .int .i64 a0_1, .int .i64 a0_2, .int .i64 a0_3, .string a0_4, .slice A0_5 l0_5.length c0_5] 24 (0, 0)) (by (with_reducible repeat (first | refine blk_drewN ?_ _ | refine blk_drew ?_ | refine blk_alloc ?_ _)); exact BK190.out) hb); have n2_ := Aside0.mk (below_step (by repeat (first | (with_reducible first | exact HB.out | apply below_alloc | apply pw_below_drewN | apply below_drew1 | refine below_set ?_ GE190.out) | exact HB.out)) hb); clear BK190; clear HB; have HO196 := n0_; have BK190 := n1_; have HB := n2_; clear n0_ n1_ n2_; clear hb ho14))
      go_ret
      exact ⟨_, by first | rfl | (simp [errW_none, errW_some] <;> rfl) | (simp [*, errW_none, errW_some] <;> rfl), by (with_reducible repeat (first | apply Kd.R_alloc | apply Kd.R_drewN | apply Kd.R_drew)); exact HO196.out, by repeat (first | (with_reducible first | exact HB.out | apply below_alloc | apply pw_below_drewN | apply below_drew1 | refine below_set ?_ GE190.out) | exact HB.out)⟩
    · rw [if_neg c10] at H
      have c10b0 : (a0_0 == 22) = false := beq_eq_false_iff_ne.mpr c10
      have c10b1 : (a0_0 != 22) = true := bne_iff_ne.mpr c10
      by_cases c15 : a0_0 = 21
      · rw [if_pos c15] at H
        have c15b0 : (a0_0 == 21) = true := beq_iff_eq.mpr c15
        have c15b1 : (a0_0 != 21) = false := bne_eq_false_iff_eq.mpr c15
        clear c15
        obtain rfl := Option.some.inj H
        go_enter Tryd.func21, Tryd.ntmps21
        go_wp2_with (first | ((with_reducible refine gate_dst (N := 1) rfl ?_); refine box_event ?hg (N := 1) ?hd (cs := #[.int .i64 a0_0, .int .i64 a0_1, .int .i64 a0_2, .int .i64 a0_3, .string a0_4, .slice A0_5 l0_5.length c0_5]) (t := 24) ?hr ?_; (case hd => rfl); (case hg => rfl); (case hr => first | (go_simp; done) | (go_simp; rfl)); intro gb190 hg w16 hbox hb; have n0_ := Aside0.mk (below_step (by repeat (first | (with_reducible first | exact HB.out | apply below_alloc | apply pw_below_drewN | apply below_drew1) | exact HB.out)) hb); have n1_ := Aside0.mk (hbox); have n2_ := Aside0.mk ((by rw [hg]; exact (below_size (by repeat (first | (with_reducible first | exact HB.out | apply below_alloc | apply pw_below_drewN | apply below_drew1) | exact HB.out))) : w.heap.size ≤ gb190)); have n3_ := Aside0.mk ((by rw [hg]; exact (below_size (by repeat (first | (with_reducible first | exact HB.out | apply below_alloc | apply pw_below_drewN | apply below_drew1) | exact HB.out))) : w.heap.size ≤ gb190)); clear HB; have HB := n0_; have BK190 := n1_; have GW190 := n2_; have GE190 := n3_; clear n0_ n1_ n2_ n3_; clear hb hbox hg; have hcz17_0 : w16.cell? ⟨gb190, 0, none⟩ = some (.int .i64 a0_0) := (blk_cell BK190.out 0).trans rfl; have hcz17_1 : w16.cell? ⟨gb190, 1, none⟩ = some (.int .i64 a0_1) := (blk_cell BK190.out 1).trans rfl; have hcz17_2 : w16.cell? ⟨gb190, 2, none⟩ = some (.int .i64 a0_2) := (blk_cell BK190.out 2).trans rfl; have hcz17_3 : w16.cell? ⟨gb190, 3, none⟩ = some (.int .i64 a0_3) := (blk_cell BK190.out 3).trans rfl; have hcz17_4 : w16.cell? ⟨gb190, 4, none⟩ = some (.string a0_4) := (blk_cell BK190.out 4).trans rfl; have hcz17_5 : w16.cell? ⟨gb190, 5, none⟩ = some (.slice A0_5 l0_5.length c0_5) := (blk_cell BK190.out 5).trans rfl; have hfz17_0 := blk_frozen BK190.out 0; have hfz17_1 := blk_frozen BK190.out 1; have hfz17_2 := blk_frozen BK190.out 2; have hfz17_3 := blk_frozen BK190.out 3; have hfz17_4 := blk_frozen BK190.out 4; have hfz17_5 := blk_frozen BK190.out 5))
        go_ret
        exact ⟨_, by first | rfl | (simp [errW_none, errW_some] <;> rfl) | (simp [*, errW_none, errW_some] <;> rfl), by first | exact Kd.R_nil _ _ _ _ _ | exact Kd.N_nil _ _ _ _ _ | exact Kd.V_nil _ _ _ _ _ | exact Kd.Q_nil _ _ _ _ _ | exact Kd.S_nil _ _ _ _ _, by repeat (first | (with_reducible first | exact HB.out | apply below_alloc | apply pw_below_drewN | apply below_drew1 | refine below_set ?_ GE190.out) | exact HB.out)⟩
      · rw [if_neg c15] at H
        have c15b0 : (a0_0 == 21) = false := beq_eq_false_iff_ne.mpr c15
        have c15b1 : (a0_0 != 21) = true := bne_iff_ne.mpr c15
        replace H := Option.bind_eq_some_iff.mp H
        obtain ⟨t197, A180, H⟩ := H
        replace H : (some t197) = some r := H
        have A18 := Aside0.mk A180
        clear A180
        obtain rfl := Option.some.inj H
        go_enter Tryd.func21, Tryd.ntmps21
        go_wp2_with (first | ((with_reducible refine gate_dst (N := 1) rfl ?_); refine box_event ?hg (N := 1) ?hd (cs := #[.int .i64 a0_0, .int .i64 a0_1, .int .i64 a0_2, .int .i64 a0_3, .string a0_4, .slice A0_5 l0_5.length c0_5]) (t := 24) ?hr ?_; (case hd => rfl); (case hg => rfl); (case hr => first | (go_simp; done) | (go_simp; rfl)); intro gb190 hg w19 hbox hb; have n0_ := Aside0.mk (below_step (by repeat (first | (with_reducible first | exact HB.out | apply below_alloc | apply pw_below_drewN | apply below_drew1) | exact HB.out)) hb); have n1_ := Aside0.mk (hbox); have n2_ := Aside0.mk ((by rw [hg]; exact (below_size (by repeat (first | (with_reducible first | exact HB.out | apply below_alloc | apply pw_below_drewN | apply below_drew1) | exact HB.out))) : w.heap.size ≤ gb190)); have n3_ := Aside0.mk ((by rw [hg]; exact (below_size (by repeat (first | (with_reducible first | exact HB.out | apply below_alloc | apply pw_below_drewN | apply below_drew1) | exact HB.out))) : w.heap.size ≤ gb190)); clear HB; have HB := n0_; have BK190 := n1_; have GW190 := n2_; have GE190 := n3_; clear n0_ n1_ n2_ n3_; clear hb hbox hg; have hcz20_0 : w19.cell? ⟨gb190, 0, none⟩ = some (.int .i64 a0_0) := (blk_cell BK190.out 0).trans rfl; have hcz20_1 : w19.cell? ⟨gb190, 1, none⟩ = some (.int .i64 a0_1) := (blk_cell BK190.out 1).trans rfl; have hcz20_2 : w19.cell? ⟨gb190, 2, none⟩ = some (.int .i64 a0_2) := (blk_cell BK190.out 2).trans rfl; have hcz20_3 : w19.cell? ⟨gb190, 3, none⟩ = some (.int .i64 a0_3) := (blk_cell BK190.out 3).trans rfl; have hcz20_4 : w19.cell? ⟨gb190, 4, none⟩ = some (.string a0_4) := (blk_cell BK190.out 4).trans rfl; have hcz20_5 : w19.cell? ⟨gb190, 5, none⟩ = some (.slice A0_5 l0_5.length c0_5) := (blk_cell BK190.out 5).trans rfl; have hfz20_0 := blk_frozen BK190.out 0; have hfz20_1 := blk_frozen BK190.out 1; have hfz20_2 := blk_frozen BK190.out 2; have hfz20_3 := blk_frozen BK190.out 3; have hfz20_4 := blk_frozen BK190.out 4; have hfz20_5 := blk_frozen BK190.out 5) | ((with_reducible refine gate_callee (f := 10) rfl ?_); refine goesL_ (some 8) rfl rfl Tryd.func10 (by kernel_rfl) rfl #[.agg #[.int .i64 a0_0, .int .i64 a0_1, .int .i64 a0_2, .int .i64 a0_3, .string a0_4, .slice A0_5 l0_5.length c0_5]] rfl (by (try simp only [List.map_toArray, List.map_cons, List.map_nil]); first | done | rfl | (simp only [List.length_drop, List.length_take]; rfl)) ?_; (with_reducible refine (ir_Uses.calls k a0_0 a0_1 a0_2 a0_3 a0_4 _ _ l0_5 t197 _ ?side1 ?side2 A18.out (hL := ?side99)).mono ?_); (case side1 => repeat (first | exact (Kd.C_below HR0_5.out HB.out) | (with_reducible refine Kd.C_alloc ?_ _) | (with_reducible refine Kd.C_drewN ?_ _) | (with_reducible refine Kd.C_drew ?_))); (case side2 => exact HC0_5.out); (case side99 => exact LaidW.below HLd.out (by repeat (first | (with_reducible first | exact HB.out | apply below_alloc | apply pw_below_drewN | apply below_drew1 | refine below_set ?_ GE190.out) | exact HB.out))); rintro e w21 ⟨v198, rfl, ho0, hb⟩; refine ⟨_, rfl, ?_⟩; have n0_ := Aside0.mk (Kd.R_lower ho0 (below_size (by repeat (first | (with_reducible first | exact HB.out | apply below_alloc | apply pw_below_drewN | apply below_drew1 | refine below_set ?_ GE190.out) | exact HB.out)))); have n1_ := Aside0.mk (blk_below (g := gb190) (o := .cells #[.int .i64 a0_0, .int .i64 a0_1, .int .i64 a0_2, .int .i64 a0_3, .string a0_4, .slice A0_5 l0_5.length c0_5] 24 (0, 0)) (by (with_reducible repeat (first | refine blk_drewN ?_ _ | refine blk_drew ?_ | refine blk_alloc ?_ _)); exact BK190.out) hb); have n2_ := Aside0.mk (below_step (by repeat (first | (with_reducible first | exact HB.out | apply below_alloc | apply pw_below_drewN | apply below_drew1 | refine below_set ?_ GE190.out) | exact HB.out)) hb); clear BK190; clear HB; have HO199 := n0_; have BK190 := n1_; have HB := n2_; clear n0_ n1_ n2_; (try clear hb); (try clear hb2); (try clear hk); (try clear hi); (try clear ho0)))
        go_ret
        exact ⟨_, by first | rfl | (simp [errW_none, errW_some] <;> rfl) | (simp [*, errW_none, errW_some] <;> rfl), by (with_reducible repeat (first | apply Kd.R_alloc | apply Kd.R_drewN | apply Kd.R_drew)); exact HO199.out, by repeat (first | (with_reducible first | exact HB.out | apply below_alloc | apply pw_below_drewN | apply below_drew1 | refine below_set ?_ GE190.out) | exact HB.out)⟩

end Go.Proofs.YtgmklfaknomakaaDoor.Q
