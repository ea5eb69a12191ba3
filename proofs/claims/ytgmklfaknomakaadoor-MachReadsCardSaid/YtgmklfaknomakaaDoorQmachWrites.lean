/- Lean functions that answer as the Go functions named below do, and the proofs of that. Written by a program out of the translation. -/
import Derived.Test.YtgmklfaknomakaaDoorQ0
import Derived.Test.YtgmklfaknomakaaDoorLaid
import Derived.Test.YtgmklfaknomakaaDoorQirDef
namespace Go.Proofs.YtgmklfaknomakaaDoor.Q
open Go.RowKit Go.Proofs.YtgmklfaknomakaaDoorW.PrintWords Go.Proofs.YtgmklfaknomakaaDoorW.PrintLast Go.Proofs.YtgmklfaknomakaaDoorW.PrintMore
attribute [local go_sem] max2_int min2_int max_two min_two max_three min_three max_four min_four   -- for this text's walks alone
set_option linter.unusedVariables false
set_option linter.unusedSimpArgs false

/-! ### mach_Writes: function 23 -/
def mach_Writes.f (a0_0 : Int) (a0_1 : Int) (a0_2 : Int) (a0_3 : Int) (a0_4 : ByteArray) (l0_5 : List Int) : Option (Int) := if a0_0 = 11 then (some 0) else (if a0_0 = 22 then (some (-1)) else (if a0_0 = 21 then (some a0_1) else ((ir_Def.f a0_0 a0_1 a0_2 a0_3 a0_4 l0_5).bind fun t214 => (some t214))))
set_option maxHeartbeats 8000000 in
set_option maxRecDepth 100000 in
theorem mach_Writes.calls (a0_0 : Int) (a0_1 : Int) (a0_2 : Int) (a0_3 : Int) (a0_4 : ByteArray) (A0_5 : Option Addr) (c0_5 : Nat) (l0_5 : List Int) (r : Int) (w : World) (hL : LaidW w) (hr0_5 : Kd.C (Kd.int .i64) w A0_5 l0_5.length l0_5) (hc0_5 : l0_5.length ≤ c0_5) (h : mach_Writes.f a0_0 a0_1 a0_2 a0_3 a0_4 l0_5 = some r) :
    Calls Tryd.prog 23 #[.agg #[.int .i64 a0_0, .int .i64 a0_1, .int .i64 a0_2, .int .i64 a0_3, .string a0_4, .slice A0_5 l0_5.length c0_5]] w fun e w' => e = .returned (.int .i64 r) ∧ Below w.heap.size w w' := by
  have hu24 := Tryd.underlying24
  have HR0_5 := Aside0.mk hr0_5
  have HC0_5 := Aside0.mk hc0_5
  clear hr0_5 hc0_5
  have HB := Aside0.mk (Below.refl w.heap.size w)
  have HLd := Aside0.mk hL
  clear hL
  have H : (if a0_0 = 11 then (some 0) else (if a0_0 = 22 then (some (-1)) else (if a0_0 = 21 then (some a0_1) else ((ir_Def.f a0_0 a0_1 a0_2 a0_3 a0_4 l0_5).bind fun t214 => (some t214))))) = some r := h
  clear h
  by_cases c2 : a0_0 = 11
  · rw [if_pos c2] at H
    have c2b0 : (a0_0 == 11) = true := beq_iff_eq.mpr c2
    have c2b1 : (a0_0 != 11) = false := bne_eq_false_iff_eq.mpr c2
    clear c2
    obtain rfl := Option.some.inj H
    go_enter Tryd.func23, Tryd.ntmps23
    go_wp2_with (first | ((with_reducible refine gate_dst (N := 1) rfl ?_); refine box_event ?hg (N := 1) ?hd (cs := #[.int .i64 a0_0, .int .i64 a0_1, .int .i64 a0_2, .int .i64 a0_3, .string a0_4, .slice A0_5 l0_5.length c0_5]) (t := 24) ?hr ?_; (case hd => rfl); (case hg => rfl); (case hr => first | (go_simp; done) | (go_simp; rfl)); intro gb213 hg w3 hbox hb; have n0_ := Aside0.mk (below_step (by repeat (first | (with_reducible first | exact HB.out | apply below_alloc | apply pw_below_drewN | apply below_drew1) | exact HB.out)) hb); have n1_ := Aside0.mk (hbox); have n2_ := Aside0.mk ((by rw [hg]; exact (below_size (by repeat (first | (with_reducible first | exact HB.out | apply below_alloc | apply pw_below_drewN | apply below_drew1) | exact HB.out))) : w.heap.size ≤ gb213)); have n3_ := Aside0.mk ((by rw [hg]; exact (below_size (by repeat (first | (with_reducible first | exact HB.out | apply below_alloc | apply pw_below_drewN | apply below_drew1) | exact HB.out))) : w.heap.size ≤ gb213)); clear HB; have HB := n0_; have BK213 := n1_; have GW213 := n2_; have GE213 := n3_; clear n0_ n1_ n2_ n3_; clear hb hbox hg; have hcz4_0 : w3.cell? ⟨gb213, 0, none⟩ = some (.int .i64 a0_0) := (blk_cell BK213.out 0).trans rfl; have hcz4_1 : w3.cell? ⟨gb213, 1, none⟩ = some (.int .i64 a0_1) := (blk_cell BK213.out 1).trans rfl; have hcz4_2 : w3.cell? ⟨gb213, 2, none⟩ = some (.int .i64 a0_2) := (blk_cell BK213.out 2).trans rfl; have hcz4_3 : w3.cell? ⟨gb213, 3, none⟩ = some (.int .i64 a0_3) := (blk_cell BK213.out 3).trans rfl; have hcz4_4 : w3.cell? ⟨gb213, 4, none⟩ = some (.string a0_4) := (blk_cell BK213.out 4).trans rfl; have hcz4_5 : w3.cell? ⟨gb213, 5, none⟩ = some (.slice A0_5 l0_5.length c0_5) := (blk_cell BK213.out 5).trans rfl; have hfz4_0 := blk_frozen BK213.out 0; have hfz4_1 := blk_frozen BK213.out 1; have hfz4_2 := blk_frozen BK213.out 2; have hfz4_3 := blk_frozen BK213.out 3; have hfz4_4 := blk_frozen BK213.out 4; have hfz4_5 := blk_frozen BK213.out 5))
    go_ret
    exact ⟨by first | rfl | (simp [errW_none, errW_some] <;> rfl) | (simp [*, errW_none, errW_some] <;> rfl), by repeat (first | (with_reducible first | exact HB.out | apply below_alloc | apply pw_below_drewN | apply below_drew1 | refine below_set ?_ GE213.out) | exact HB.out)⟩
  · rw [if_neg c2] at H
    have c2b0 : (a0_0 == 11) = false := beq_eq_false_iff_ne.mpr c2
    have c2b1 : (a0_0 != 11) = true := bne_iff_ne.mpr c2
    by_cases c5 : a0_0 = 22
    · rw [if_pos c5] at H
      have c5b0 : (a0_0 == 22) = true := beq_iff_eq.mpr c5
      have c5b1 : (a0_0 != 22) = false := bne_eq_false_iff_eq.mpr c5
      clear c5
      obtain rfl := Option.some.inj H
      go_enter Tryd.func23, Tryd.ntmps23
      go_wp2_with (first | ((with_reducible refine gate_dst (N := 1) rfl ?_); refine box_event ?hg (N := 1) ?hd (cs := #[.int .i64 a0_0, .int .i64 a0_1, .int .i64 a0_2, .int .i64 a0_3, .string a0_4, .slice A0_5 l0_5.length c0_5]) (t := 24) ?hr ?_; (case hd => rfl); (case hg => rfl); (case hr => first | (go_simp; done) | (go_simp; rfl)); intro gb213 hg w6 hbox hb; have n0_ := Aside0.mk (below_step (by repeat (first | (with_reducible first | exact HB.out | apply below_alloc | apply pw_below_drewN | apply below_drew1) | exact HB.out)) hb); have n1_ := Aside0.mk (hbox); have n2_ := Aside0.mk ((by rw [hg]; exact (below_size (by repeat (first | (with_reducible first | exact HB.out | apply below_alloc | apply pw_below_drewN | apply below_drew1) | exact HB.out))) : w.heap.size ≤ gb213)); have n3_ := Aside0.mk ((by rw [hg]; exact (below_size (by repeat (first | (with_reducible first | exact HB.out | apply below_alloc | apply pw_below_drewN | apply below_drew1) | exact HB.out))) : w.heap.size ≤ gb213)); clear HB; have HB := n0_; have BK213 := n1_; have GW213 := n2_; have GE213 := n3_; clear n0_ n1_ n2_ n3_; clear hb hbox hg; have hcz7_0 : w6.cell? ⟨gb213, 0, none⟩ = some (.int .i64 a0_0) := (blk_cell BK213.out 0).trans rfl; have hcz7_1 : w6.cell? ⟨gb213, 1, none⟩ = some (.int .i64 a0_1) := (blk_cell BK213.out 1).trans rfl; have hcz7_2 : w6.cell? ⟨gb213, 2, none⟩ = some (.int .i64 a0_2) := (blk_cell BK213.out 2).trans rfl; have hcz7_3 : w6.cell? ⟨gb213, 3, none⟩ = some (.int .i64 a0_3) := (blk_cell BK213.out 3).trans rfl; have hcz7_4 : w6.cell? ⟨gb213, 4, none⟩ = some (.string a0_4) := (blk_cell BK213.out 4).trans rfl; have hcz7_5 : w6.cell? ⟨gb213, 5, none⟩ = some (.slice A0_5 l0_5.length c0_5) := (blk_cell BK213.out 5).trans rfl; have hfz7_0 := blk_frozen BK213.out 0; have hfz7_1 := blk_frozen BK213.out 1; have hfz7_2 := blk_frozen BK213.out 2; have hfz7_3 := blk_frozen BK213.out 3; have hfz7_4 := blk_frozen BK213.out 4; have hfz7_5 := blk_frozen BK213.out 5))
      go_ret
      exact ⟨by first | rfl | (simp [errW_none, errW_some] <;> rfl) | (simp [*, errW_none, errW_some] <;> rfl), by repeat (first | (with_reducible first | exact HB.out | apply below_alloc | apply pw_below_drewN | apply below_drew1 | refine below_set ?_ GE213.out) | exact HB.out)⟩
    · rw [if_neg c5] at H
      have c5b0 : (a0_0 == 22) = false := beq_eq_false_iff_ne.mpr c5
      have c5b1 : (a0_0 != 22) = true := bne_iff_ne.mpr c5
      by_cases c8 : a0_0 = 21
      · rw [if_pos c8] at H
        have c8b0 : (a0_0 == 21) = true := beq_iff_eq.mpr c8
        have c8b1 : (a0_0 != 21) = false := bne_eq_false_iff_eq.mpr c8
        clear c8
        obtain rfl := Option.some.inj H
        go_enter Tryd.func23, Tryd.ntmps23
        go_wp2_with (first | ((with_reducible refine gate_dst (N := 1) rfl ?_); refine box_event ?hg (N := 1) ?hd (cs := #[.int .i64 a0_0, .int .i64 a0_1, .int .i64 a0_2, .int .i64 a0_3, .string a0_4, .slice A0_5 l0_5.length c0_5]) (t := 24) ?hr ?_; (case hd => rfl); (case hg => rfl); (case hr => first | (go_simp; done) | (go_simp; rfl)); intro gb213 hg w9 hbox hb; have n0_ := Aside0.mk (below_step (by repeat (first | (with_reducible first | exact HB.out | apply below_alloc | apply pw_below_drewN | apply below_drew1) | exact HB.out)) hb); have n1_ := Aside0.mk (hbox); have n2_ := Aside0.mk ((by rw [hg]; exact (below_size (by repeat (first | (with_reducible first | exact HB.out | apply below_alloc | apply pw_below_drewN | apply below_drew1) | exact HB.out))) : w.heap.size ≤ gb213)); have n3_ := Aside0.mk ((by rw [hg]; exact (below_size (by repeat (first | (with_reducible first | exact HB.out | apply below_alloc | apply pw_below_drewN | apply below_drew1) | exact HB.out))) : w.heap.size ≤ gb213)); clear HB; have HB := n0_; have BK213 := n1_; have GW213 := n2_; have GE213 := n3_; clear n0_ n1_ n2_ n3_; clear hb hbox hg; have hcz10_0 : w9.cell? ⟨gb213, 0, none⟩ = some (.int .i64 a0_0) := (blk_cell BK213.out 0).trans rfl; have hcz10_1 : w9.cell? ⟨gb213, 1, none⟩ = some (.int .i64 a0_1) := (blk_cell BK213.out 1).trans rfl; have hcz10_2 : w9.cell? ⟨gb213, 2, none⟩ = some (.int .i64 a0_2) := (blk_cell BK213.out 2).trans rfl; have hcz10_3 : w9.cell? ⟨gb213, 3, none⟩ = some (.int .i64 a0_3) := (blk_cell BK213.out 3).trans rfl; have hcz10_4 : w9.cell? ⟨gb213, 4, none⟩ = some (.string a0_4) := (blk_cell BK213.out 4).trans rfl; have hcz10_5 : w9.cell? ⟨gb213, 5, none⟩ = some (.slice A0_5 l0_5.length c0_5) := (blk_cell BK213.out 5).trans rfl; have hfz10_0 := blk_frozen BK213.out 0; have hfz10_1 := blk_frozen BK213.out 1; have hfz10_2 := blk_frozen BK213.out 2; have hfz10_3 := blk_frozen BK213.out 3; have hfz10_4 := blk_frozen BK213.out 4; have hfz10_5 := blk_frozen BK213.out 5))
        go_ret
        exact ⟨by first | rfl | (simp [errW_none, errW_some] <;> rfl) | (simp [*, errW_none, errW_some] <;> rfl), by repeat (first | (with_reducible first | exact HB.out | apply below_alloc | apply pw_below_drewN | apply below_drew1 | refine below_set ?_ GE213.out) | exact HB.out)⟩
      · rw [if_neg c8] at H
        have c8b0 : (a0_0 == 21) = false := beq_eq_false_iff_ne.mpr c8
        have c8b1 : (a0_0 != 21) = true := bne_iff_ne.mpr c8
        replace H := Option.bind_eq_some_iff.mp H
        obtain ⟨t214, A110, H⟩ := H
        replace H : (some t214) = some r := H
        have A11 := Aside0.mk A110
        clear A110
        obtain rfl := Option.some.inj H
        go_enter Tryd.func23, Tryd.ntmps23
        go_wp2_with (first | ((with_reducible refine gate_dst (N := 1) rfl ?_); refine box_event ?hg (N := 1) ?hd (cs := #[.int .i64 a0_0, .int .i64 a0_1, .int .i64 a0_2, .int .i64 a0_3, .string a0_4, .slice A0_5 l0_5.length c0_5]) (t := 24) ?hr ?_; (case hd => rfl); (case hg => rfl); (case hr => first | (go_simp; done) | (go_simp; rfl)); intro gb213 hg w12 hbox hb; have n0_ := Aside0.mk (below_step (by repeat (first | (with_reducible first | exact HB.out | apply below_alloc | apply pw_below_drewN | apply below_drew1) | exact HB.out)) hb); have n1_ := Aside0.mk (hbox); have n2_ := Aside0.mk ((by rw [hg]; exact (below_size (by repeat (first | (with_reducible first | exact HB.out | apply below_alloc | apply pw_below_drewN | apply below_drew1) | exact HB.out))) : w.heap.size ≤ gb213)); have n3_ := Aside0.mk ((by rw [hg]; exact (below_size (by repeat (first | (with_reducible first | exact HB.out | apply below_alloc | apply pw_below_drewN | apply below_drew1) | exact HB.out))) : w.heap.size ≤ gb213)); clear HB; have HB := n0_; have BK213 := n1_; have GW213 := n2_; have GE213 := n3_; clear n0_ n1_ n2_ n3_; clear hb hbox hg; have hcz13_0 : w12.cell? ⟨gb213, 0, none⟩ = some (.int .i64 a0_0) := (blk_cell BK213.out 0).trans rfl; have hcz13_1 : w12.cell? ⟨gb213, 1, none⟩ = some (.int .i64 a0_1) := (blk_cell BK213.out 1).trans rfl; have hcz13_2 : w12.cell? ⟨gb213, 2, none⟩ = some (.int .i64 a0_2) := (blk_cell BK213.out 2).trans rfl; have hcz13_3 : w12.cell? ⟨gb213, 3, none⟩ = some (.int .i64 a0_3) := (blk_cell BK213.out 3).trans rfl; have hcz13_4 : w12.cell? ⟨gb213, 4, none⟩ = some (.string a0_4) := (blk_cell BK213.out 4).trans rfl; have hcz13_5 : w12.cell? ⟨gb213, 5, none⟩ = some (.slice A0_5 l0_5.length c0_5) := (blk_cell BK213.out 5).trans rfl; have hfz13_0 := blk_frozen BK213.out 0; have hfz13_1 := blk_frozen BK213.out 1; have hfz13_2 := blk_frozen BK213.out 2; have hfz13_3 := blk_frozen BK213.out 3; have hfz13_4 := blk_frozen BK213.out 4; have hfz13_5 := blk_frozen BK213.out 5) | ((with_reducible refine gate_callee (f := 12) rfl ?_); refine goesL_ (some 14) rfl rfl Tryd.func12 (by kernel_rfl) rfl #[.agg #[.int .i64 a0_0, .int .i64 a0_1, .int .i64 a0_2, .int .i64 a0_3, .string a0_4, .slice A0_5 l0_5.length c0_5]] rfl (by (try simp only [List.map_toArray, List.map_cons, List.map_nil]); first | done | rfl | (simp only [List.length_drop, List.length_take]; rfl)) ?_; (with_reducible refine (ir_Def.calls a0_0 a0_1 a0_2 a0_3 a0_4 _ _ l0_5 t214 _ ?side1 ?side2 A11.out (hL := ?side99)).mono ?_); (case side1 => repeat (first | exact (Kd.C_below HR0_5.out HB.out) | (with_reducible refine Kd.C_alloc ?_ _) | (with_reducible refine Kd.C_drewN ?_ _) | (with_reducible refine Kd.C_drew ?_))); (case side2 => exact HC0_5.out); (case side99 => exact LaidW.below HLd.out (by repeat (first | (with_reducible first | exact HB.out | apply below_alloc | apply pw_below_drewN | apply below_drew1 | refine below_set ?_ GE213.out) | exact HB.out))); rintro e w14 ⟨rfl, hb⟩; refine ⟨_, rfl, ?_⟩; have n0_ := Aside0.mk (blk_below (g := gb213) (o := .cells #[.int .i64 a0_0, .int .i64 a0_1, .int .i64 a0_2, .int .i64 a0_3, .string a0_4, .slice A0_5 l0_5.length c0_5] 24 (0, 0)) (by (with_reducible repeat (first | refine blk_drewN ?_ _ | refine blk_drew ?_ | refine blk_alloc ?_ _)); exact BK213.out) hb); have n1_ := Aside0.mk (below_step (by repeat (first | (with_reducible first | exact HB.out | apply below_alloc | apply pw_below_drewN | apply below_drew1 | refine below_set ?_ GE213.out) | exact HB.out)) hb); clear BK213; clear HB; have BK213 := n0_; have HB := n1_; clear n0_ n1_; (try clear hb); (try clear hb2); (try clear hk); (try clear hi)))
        go_ret
        exact ⟨by first | rfl | (simp [errW_none, errW_some] <;> rfl) | (simp [*, errW_none, errW_some] <;> rfl), by repeat (first | (with_reducible first | exact HB.out | apply below_alloc | apply pw_below_drewN | apply below_drew1 | refine below_set ?_ GE213.out) | exact HB.out)⟩

end Go.Proofs.YtgmklfaknomakaaDoor.Q
