/- Lean functions that answer as the Go functions named below do, and the proofs of that. Written by a program out of the translation. -/
import Derived.Test.YtbipipbfiekbgaaDoorQ0
import Derived.Test.YtbipipbfiekbgaaDoorSq
import Derived.Test.YtbipipbfiekbgaaDoorQcubbyref07Name
import Derived.Test.YtbipipbfiekbgaaDoorQcubbyref07One
import Derived.Test.YtbipipbfiekbgaaDoorQcubbyref07Shape
namespace Go.Proofs.YtbipipbfiekbgaaDoor.Q
open Go.RowKit Go.Proofs.YtbipipbfiekbgaaDoorW.PrintWords Go.Proofs.YtbipipbfiekbgaaDoorW.PrintLast Go.Proofs.YtbipipbfiekbgaaDoorW.PrintMore
attribute [local go_sem] max2_int min2_int max_two min_two max_three min_three max_four min_four   -- for this text's walks alone
set_option linter.unusedVariables false
set_option linter.unusedSimpArgs false

/-! ### cubbyref07_Check: function 12 -/
mutual
def cubbyref07_Check.l0 : Nat → Int → ByteArray → Int → Int → List (List (SIns)) → Option (Int)
 | 0, _, _, _, _, _ => none
 | k + 1, x3, x299000, x299001, x299002, x299003 => if x3 < (x299003.length : Int) then (cubbyref07_Check.l1 k x3 0 x299000 x299001 x299002 x299003) else (some 0)
def cubbyref07_Check.l1 : Nat → Int → Int → ByteArray → Int → Int → List (List (SIns)) → Option (Int)
 | 0, _, _, _, _, _, _ => none
 | k + 1, x3, x4, x299000, x299001, x299002, x299003 => if 0 ≤ x3 then (if x3 < (x299003.length : Int) then (if x4 < ((rd_LIns x299003 x3).length : Int) then (if 0 ≤ x4 then ((cubbyref07_One.f k ((rd_TIns (rd_LIns x299003 x3) x4).f0) ((rd_TIns (rd_LIns x299003 x3) x4).f1) ((rd_TIns (rd_LIns x299003 x3) x4).f2) ((rd_TIns (rd_LIns x299003 x3) x4).f3) ((rd_TIns (rd_LIns x299003 x3) x4).f4) ((rd_TIns (rd_LIns x299003 x3) x4).f5) x299002 (x299003.length : Int) (x4 == (wrap64 (((rd_LIns x299003 x3).length : Int) - 1)))).bind fun t305 => (if t305 = 0 then (cubbyref07_Check.l1 k x3 (wrap64 (x4 + 1)) x299000 x299001 x299002 x299003) else (some t305))) else (none)) else (cubbyref07_Check.l0 k (wrap64 (x3 + 1)) x299000 x299001 x299002 x299003)) else (none)) else (none)
end
def cubbyref07_Check.f (k : Nat) (a0_0 : ByteArray) (a0_1 : Int) (a0_2 : Int) (l0_3 : List (List (SIns))) : Option (Int) := (cubbyref07_Name.f k a0_0).bind fun t299 => (if t299 = true then ((cubbyref07_Shape.f k a0_1 a0_2 l0_3).bind fun t300 => (if t300 = true then (cubbyref07_Check.l0 k 0 a0_0 a0_1 a0_2 l0_3) else (some 71))) else (some 70))
theorem cubbyref07_Check.mono_l : ∀ k, (∀ y0 y1 y2 y3 y4, LeO (cubbyref07_Check.l0 k y0 y1 y2 y3 y4) (cubbyref07_Check.l0 (k + 1) y0 y1 y2 y3 y4)) ∧ (∀ y0 y1 y2 y3 y4 y5, LeO (cubbyref07_Check.l1 k y0 y1 y2 y3 y4 y5) (cubbyref07_Check.l1 (k + 1) y0 y1 y2 y3 y4 y5))
 | 0 => ⟨fun _ _ _ _ _ r h => by simp [cubbyref07_Check.l0] at h, fun _ _ _ _ _ _ r h => by simp [cubbyref07_Check.l1] at h⟩
 | k + 1 => by
  obtain ⟨ih0, ih1⟩ := cubbyref07_Check.mono_l k
  refine ⟨?_, ?_⟩ <;> intros <;> (first | unfold cubbyref07_Check.l0 | unfold cubbyref07_Check.l1) <;> repeat' first | (with_reducible exact ih0 _ _ _ _ _) | (with_reducible exact ih1 _ _ _ _ _ _) | (with_reducible exact cubbyref07_Name.mono _ _) | (with_reducible exact cubbyref07_One.mono _ _ _ _ _ _ _ _ _ _) | (with_reducible exact cubbyref07_Shape.mono _ _ _ _) | (with_reducible exact LeO.refl _) | (with_reducible exact LeO.none _) | (with_reducible refine LeO.ite ?_ ?_) | (with_reducible refine LeO.bind ?_ (fun _ => ?_)) | exact LeO.none _ | refine LeO.ite ?_ ?_ | refine LeO.bind ?_ (fun _ => ?_)
theorem cubbyref07_Check.mono : ∀ a0 a1 a2 a3 k, LeO (cubbyref07_Check.f k a0 a1 a2 a3) (cubbyref07_Check.f (k + 1) a0 a1 a2 a3) := by
 intro a0 a1 a2 a3 k
 obtain ⟨ih0, ih1⟩ := cubbyref07_Check.mono_l k
 unfold cubbyref07_Check.f
 repeat' first | (with_reducible exact ih0 _ _ _ _ _) | (with_reducible exact ih1 _ _ _ _ _ _) | (with_reducible exact cubbyref07_Name.mono _ _) | (with_reducible exact cubbyref07_One.mono _ _ _ _ _ _ _ _ _ _) | (with_reducible exact cubbyref07_Shape.mono _ _ _ _) | (with_reducible exact LeO.refl _) | (with_reducible exact LeO.none _) | (with_reducible refine LeO.ite ?_ ?_) | (with_reducible refine LeO.bind ?_ (fun _ => ?_)) | exact LeO.none _ | refine LeO.ite ?_ ?_ | refine LeO.bind ?_ (fun _ => ?_)
def cubbyref07_Check.T11 : Bool × List (List Nat × List Nat) := (true, [([], []), ([0], [0]), ([], []), ([1, 2], [1, 2]), ([3], [3]), ([], []), ([4, 5], [4, 5]), ([6], [6]), ([], []), ([8], [8]), ([], []), ([10], [10]), ([11], [11]), ([], []), ([], []), ([14], [14]), ([], []), ([15, 16], [15, 16]), ([17], [17]), ([18], [18]), ([19], [19]), ([13, 20], [13, 20]), ([7, 9, 12, 21], [7, 9, 12, 21]), ([22, 22, 0, 1, 2, 3, 4, 5, 6, 7, 8, 9, 10, 11, 12, 13, 14, 15, 16, 17, 18, 19, 20, 21, 22], [22])])
def cubbyref07_Check.B11 : List Nat := [0, 1, 0, 7, 15, 0, 63, 127, 0, 256, 0, 1024, 3072, 0, 0, 16384, 0, 114688, 245760, 507904, 1032192, 2088960, 4194303, 8388607]
theorem cubbyref07_Check.tab11 : rtab .any (opsOf Tryd.f12 11) = cubbyref07_Check.T11 := by kernel_rfl
theorem cubbyref07_Check.bits11 : waitsOk cubbyref07_Check.T11.2 cubbyref07_Check.B11 = true := by kernel_rfl
set_option maxHeartbeats 8000000 in
set_option maxRecDepth 100000 in
theorem cubbyref07_Check.calls (k : Nat) (a0_0 : ByteArray) (a0_1 : Int) (a0_2 : Int) (A0_3 : Option Addr) (c0_3 : Nat) (l0_3 : List (List (SIns))) (r : Int) (w : World) (hr0_3 : Kd.C (Kd.slice 31 kIns) w A0_3 l0_3.length l0_3) (hc0_3 : l0_3.length ≤ c0_3) (h : cubbyref07_Check.f k a0_0 a0_1 a0_2 l0_3 = some r) :
  Calls Tryd.prog 12 #[.agg #[.string a0_0, .int .i64 a0_1, .int .i64 a0_2, .slice A0_3 l0_3.length c0_3]] w fun e w' => e = .returned (.int .i64 r) ∧ Below w.heap.size w w' := by
 have hu34 := Tryd.underlying34
 have hu31 := Tryd.underlying31
 have HR0_3 := Aside0.mk hr0_3
 have HC0_3 := Aside0.mk hc0_3
 clear hr0_3 hc0_3
 have HB := Aside0.mk (Below.refl w.heap.size w)
 have H := h; clear h; unfold cubbyref07_Check.f at H
 replace H := qb H; obtain ⟨t299, A2, H⟩ := H
 by_cases c3 : t299 = true
 ·subst c3
  have H1 : ((cubbyref07_Shape.f k a0_1 a0_2 l0_3).bind fun t300 => (if t300 = true then (cubbyref07_Check.l0 k 0 a0_0 a0_1 a0_2 l0_3) else (some 71))) = some r := by rw [if_pos rfl] at H; exact H
  clear H
  have H := H1
  clear H1
  replace H := qb H; obtain ⟨t300, A4, H⟩ := H
  by_cases c5 : t300 = true
  ·subst c5
   have H1 : (cubbyref07_Check.l0 k 0 a0_0 a0_1 a0_2 l0_3) = some r := by rw [if_pos rfl] at H; exact H
   clear H
   have H := H1
   clear H1
   have H' := Aside0.mk H
   clear H
   go_enter Tryd.func12, Tryd.ntmps12
   go_wp2_with (first | ((with_reducible refine gate_dst (N := 1) rfl ?_); refine box_event (by rfl) (N := 1) (by rfl) (cs := #[.string a0_0, .int .i64 a0_1, .int .i64 a0_2, .slice A0_3 l0_3.length c0_3]) (t := 34) ?hr ?_; (case hr => first | (go_simp; done) | (go_simp; rfl)); intro gb298 hg w6 hbox hb; have BK298 := Aside0.mk (hbox); have GW298 := qG hg; have GE298 := GW298; replace HB := qH hb; clear hb hbox hg; have z7_0 := bk4 BK298.out) | ((with_reducible refine gate_callee (f := 16) rfl ?_); refine goesL_ (some 8) rfl rfl Tryd.func16 (by kernel_rfl) rfl #[.string a0_0] rfl qL ?_; (with_reducible refine (cubbyref07_Name.calls k a0_0 true _ A2.out).mono ?_); rintro e w' ⟨rfl, ⟨nd, rfl⟩⟩; refine ⟨_, rfl, ?_⟩) | ((with_reducible refine gate_callee (f := 26) rfl ?_); refine goesL_ (some 16) rfl rfl Tryd.func26 (by kernel_rfl) rfl #[.int .i64 a0_1, .int .i64 a0_2, .slice A0_3 l0_3.length c0_3] rfl qL ?_; (with_reducible refine (cubbyref07_Shape.calls k a0_1 a0_2 _ _ l0_3 true _ ?side1 ?side2 A4.out).mono ?_); (case side1 => repeat (first | exact (Kd.C_below HR0_3.out qB) | (with_reducible refine Kd.C_alloc ?_ _) | (with_reducible refine Kd.C_drewN ?_ _) | (with_reducible refine Kd.C_drew ?_))); (case side2 => exact HC0_3.out); rintro e w' ⟨rfl, ⟨nd, rfl⟩⟩; refine ⟨_, rfl, ?_⟩))
   go_loopg [3] k (fun kq v3 w' => ∃ (x3_1 : Int), v3 = .int .i64 x3_1 ∧ Aside0 (cubbyref07_Check.l0 kq x3_1 a0_0 a0_1 a0_2 l0_3 = some r) ∧ Aside0 (kq ≤ k) ∧ Aside0 (w'.heap[gb298]? = some (.cells #[.string a0_0, .int .i64 a0_1, .int .i64 a0_2, (.slice A0_3 l0_3.length c0_3)] 34 (0, 0))) ∧ Aside0 (Below w.heap.size w w'))
   case atStart => exact ⟨(0), qT, H', ⟨Nat.le_refl _⟩, ⟨qK BK298.out⟩, ⟨qB⟩⟩
   case round =>
    clear H'
    try clear c1; try clear c2; try clear p2; try clear c3; try clear c5; try clear z7_0
    obtain ⟨x3_1, rfl, HA, HK1, BK298, HB⟩ := hrel
    cases gk with
    | zero => exact absurd HA.out (by simp [cubbyref07_Check.l0])
    | succ k1 =>
     have H := HA.out
     clear HA
     simp only [cubbyref07_Check.l0] at H
     by_cases c8 : x3_1 < (l0_3.length : Int)
     ·rw [if_pos c8] at H
      have c8b0 := decide_eq_true c8
      clear c8
      have H' := Aside0.mk H
      clear H
      have z9_0 := bk4 BK298.out
      go_wp2
      go_loopg [4] k1 (fun kq v4 w' => ∃ (x4_2 : Int), v4 = .int .i64 x4_2 ∧ Aside0 (cubbyref07_Check.l1 kq x3_1 x4_2 a0_0 a0_1 a0_2 l0_3 = some r) ∧ Aside0 (kq ≤ k1) ∧ Aside0 (w'.heap[gb298]? = some (.cells #[.string a0_0, .int .i64 a0_1, .int .i64 a0_2, (.slice A0_3 l0_3.length c0_3)] 34 (0, 0))) ∧ Aside0 (Below w.heap.size w w'))
      case atStart => exact ⟨(0), qT, H', ⟨Nat.le_refl _⟩, ⟨qK BK298.out⟩, ⟨qB⟩⟩
      case round =>
       clear H'
       try clear c1; try clear c2; try clear p2; try clear c3; try clear c5; try clear c8b0; try clear z7_0; try clear z9_0
       obtain ⟨x4_2, rfl, HA, HK2, BK298, HB⟩ := hrel
       cases gk with
       | zero => exact absurd HA.out (by simp [cubbyref07_Check.l1])
       | succ k2 =>
        have H := HA.out
        clear HA
        simp only [cubbyref07_Check.l1] at H
        by_cases c10 : 0 ≤ x3_1
        ·rw [if_pos c10] at H
         have c10b0 := decide_eq_true c10
         clear c10
         by_cases c11 : x3_1 < (l0_3.length : Int)
         ·rw [if_pos c11] at H
          have c11b0 := decide_eq_true c11
          clear c11
          by_cases c12 : x4_2 < ((rd_LIns l0_3 x3_1).length : Int)
          ·rw [if_pos c12] at H
           have c12b0 := decide_eq_true c12
           clear c12
           by_cases c13 : 0 ≤ x4_2
           ·rw [if_pos c13] at H
            have c13b0 := decide_eq_true c13
            clear c13
            replace H := qb H; obtain ⟨t305, A14, H⟩ := H
            by_cases c15 : t305 = 0
            ·rw [if_pos c15] at H
             obtain ⟨c15b0, c15b1⟩ := qe c15; clear c15
             have H' := Aside0.mk H
             clear H
             have z16_0 := bk4 BK298.out
             have p301 : 0 ≤ (x3_1 : Int) := of_decide_eq_true qA
             have q301 : x3_1 < (l0_3.length : Int) := of_decide_eq_true qA
             obtain ⟨ad301, A301_0, c301_0, e301, hx301_0, hl301_0, hi301_0⟩ := at_LIns HR0_3.out x3_1 p301 q301
             cases e301
             replace hx301_0 := (HB.out.cell (World.block_lt_of_cell? w _ hx301_0)).trans hx301_0
             have HR301_0 := Aside0.mk hi301_0
             have HC301_0 := Aside0.mk hl301_0
             clear hi301_0 hl301_0
             replace p301 := eq_true p301
             replace q301 := eq_true q301
             try go_wp2
             have n0_ := Aside0.mk (blk_drew BK298.out)
             have n1_ := Aside0.mk (below_drew1 HB.out)
             clear BK298
             clear HB
             have BK298 := n0_
             have HB := n1_
             clear n0_ n1_
             have p302 : 0 ≤ (x3_1 : Int) := of_decide_eq_true qA
             have q302 : x3_1 < (l0_3.length : Int) := of_decide_eq_true qA
             obtain ⟨ad302, A302_0, c302_0, e302, hx302_0, hl302_0, hi302_0⟩ := at_LIns HR0_3.out x3_1 p302 q302
             have hw302_0 := hx302_0
             obtain rfl : ad301 = ad302 := (by injection e302)
             replace hx302_0 := (HB.out.cell (World.block_lt_of_cell? w _ hx302_0)).trans hx302_0
             have HR302_0 := Aside0.mk hi302_0
             have HC302_0 := Aside0.mk hl302_0
             clear hi302_0 hl302_0
             replace p302 := eq_true p302
             replace q302 := eq_true q302
             have p303 : 0 ≤ (x4_2 : Int) := of_decide_eq_true qA
             have q303 : x4_2 < ((rd_LIns l0_3 x3_1).length : Int) := of_decide_eq_true qA
             obtain ⟨ad303, A303_5, c303_5, e303, hx303_0, hx303_1, hx303_2, hx303_3, hx303_4, hx303_5, hl303_5, hi303_5⟩ := at_TIns HR302_0.out x4_2 p303 q303
             have hw303_5 := hx303_5
             have hw303_4 := hx303_4
             have hw303_3 := hx303_3
             have hw303_2 := hx303_2
             have hw303_1 := hx303_1
             have hw303_0 := hx303_0
             cases e303
             replace hx303_0 := (HB.out.cell (World.block_lt_of_cell? w _ hx303_0)).trans hx303_0
             replace hx303_1 := (HB.out.cell (World.block_lt_of_cell? w _ hx303_1)).trans hx303_1
             replace hx303_2 := (HB.out.cell (World.block_lt_of_cell? w _ hx303_2)).trans hx303_2
             replace hx303_3 := (HB.out.cell (World.block_lt_of_cell? w _ hx303_3)).trans hx303_3
             replace hx303_4 := (HB.out.cell (World.block_lt_of_cell? w _ hx303_4)).trans hx303_4
             replace hx303_5 := (HB.out.cell (World.block_lt_of_cell? w _ hx303_5)).trans hx303_5
             have HR303_5 := Aside0.mk hi303_5
             have HC303_5 := Aside0.mk hl303_5
             clear hi303_5 hl303_5
             replace p303 := eq_true p303
             replace q303 := eq_true q303
             have p304 : 0 ≤ (x3_1 : Int) := of_decide_eq_true qA
             have q304 : x3_1 < (l0_3.length : Int) := of_decide_eq_true qA
             obtain ⟨ad304, A304_0, c304_0, e304, hx304_0, hl304_0, hi304_0⟩ := at_LIns HR0_3.out x3_1 p304 q304
             have hw304_0 := hx304_0
             obtain rfl : ad301 = ad304 := (by injection e304)
             replace hx304_0 := (HB.out.cell (World.block_lt_of_cell? w _ hx304_0)).trans hx304_0
             have HR304_0 := Aside0.mk hi304_0
             have HC304_0 := Aside0.mk hl304_0
             clear hi304_0 hl304_0
             replace p304 := eq_true p304
             replace q304 := eq_true q304
             have ea_ := Option.some.inj (hx302_0.symm.trans hx304_0)
             injection ea_ with ea_ en_ ec_
             subst ea_
             subst ec_
             clear en_
             refine start_ (n := 24) (S := fun w' => w'.cell? ⟨gb298, 0, none⟩ = some (.string a0_0) ∧ w'.cell? ⟨gb298, 1, none⟩ = some (.int .i64 a0_1) ∧ w'.cell? ⟨gb298, 2, none⟩ = some (.int .i64 a0_2) ∧ w'.cell? ⟨gb298, 3, none⟩ = some (.slice (some ad301) l0_3.length c0_3) ∧ w'.cell? (ad301.add (x3_1).toNat) = some (.slice (some ad303) (rd_LIns l0_3 x3_1).length c302_0) ∧ w'.cell? (ad303.add ((x4_2).toNat * 6)) = some (.int .i64 ((rd_TIns (rd_LIns l0_3 x3_1) x4_2).f0)) ∧ w'.cell? ⟨(ad303.add ((x4_2).toNat * 6)).block, (ad303.add ((x4_2).toNat * 6)).off + 1, none⟩ = some (.int .i64 ((rd_TIns (rd_LIns l0_3 x3_1) x4_2).f1)) ∧ w'.cell? ⟨(ad303.add ((x4_2).toNat * 6)).block, (ad303.add ((x4_2).toNat * 6)).off + 2, none⟩ = some (.int .i64 ((rd_TIns (rd_LIns l0_3 x3_1) x4_2).f2)) ∧ w'.cell? ⟨(ad303.add ((x4_2).toNat * 6)).block, (ad303.add ((x4_2).toNat * 6)).off + 3, none⟩ = some (.int .i64 ((rd_TIns (rd_LIns l0_3 x3_1) x4_2).f3)) ∧ w'.cell? ⟨(ad303.add ((x4_2).toNat * 6)).block, (ad303.add ((x4_2).toNat * 6)).off + 4, none⟩ = some (.string ((rd_TIns (rd_LIns l0_3 x3_1) x4_2).f4)) ∧ w'.cell? ⟨(ad303.add ((x4_2).toNat * 6)).block, (ad303.add ((x4_2).toNat * 6)).off + 5, none⟩ = some (.slice A303_5 ((rd_TIns (rd_LIns l0_3 x3_1) x4_2).f5).length c303_5) ∧ w'.cell? (ad301.add (x3_1).toNat) = some (.slice (some ad303) (rd_LIns l0_3 x3_1).length c302_0)) (ds := []) (bA 24 0) (by kernel_rfl) rfl rfl ⟨(blk_cell BK298.out 0).trans rfl, (blk_cell BK298.out 1).trans rfl, (blk_cell BK298.out 2).trans rfl, (blk_cell BK298.out 3).trans rfl, ((HB.out.cell (World.block_lt_of_cell? w _ hw302_0)).trans hw302_0), ((HB.out.cell (World.block_lt_of_cell? w _ hw303_0)).trans hw303_0), ((HB.out.cell (World.block_lt_of_cell? w _ hw303_1)).trans hw303_1), ((HB.out.cell (World.block_lt_of_cell? w _ hw303_2)).trans hw303_2), ((HB.out.cell (World.block_lt_of_cell? w _ hw303_3)).trans hw303_3), ((HB.out.cell (World.block_lt_of_cell? w _ hw303_4)).trans hw303_4), ((HB.out.cell (World.block_lt_of_cell? w _ hw303_5)).trans hw303_5), ((HB.out.cell (World.block_lt_of_cell? w _ hw304_0)).trans hw304_0)⟩ (fun hHeld => ?_); refine with_tabW cubbyref07_Check.tab11 cubbyref07_Check.bits11 (fun HT_ HW_ => ?_)
             generalize wr.drew = w17 at BK298 HB HR302_0 HR303_5 HR304_0 hx302_0 hx303_0 hx303_1 hx303_2 hx303_3 hx303_4 hx303_5 hx304_0 hHeld ⊢
             refine pu_ (i := 0) (N := some 35) (bA 24 1) ?_
             refine pu_ (i := 2) (N := some 37) (bA 24 5) ?_
             refine pu_ (i := 5) (N := some 40) (bA 24 37) ?_
             refine pu_ (i := 8) (N := some 43) (bA 24 293) ?_
             refine pu_ (i := 10) (N := some 45) (bA 24 1317) ?_
             refine pu_ (i := 13) (N := some 48) (bA 24 9509) ?_
             refine pu_ (i := 14) (N := some 49) (bA 24 25893) ?_
             refine pu_ (i := 16) (N := some 51) (bA 24 91429) ?_
             refine tk_ (i := 1) (N := some 36) (bA 24 91431) ?_
             refine pu_ (i := 3) (N := some 38) (bA 24 91439) ?_
             refine tk_ (i := 4) (N := some 39) (bA 24 91455) ?_
             refine pu_ (i := 6) (N := some 41) (bA 24 91519) ?_
             refine tk_ (i := 7) (N := some 42) (bA 24 91647) ?_
             refine tk_ (i := 9) (N := some 44) (bA 24 92159) ?_
             refine tk_ (i := 11) (N := some 46) (bA 24 94207) ?_
             refine pu_ (i := 12) (N := some 47) (bA 24 98303) ?_
             refine tk_ (i := 15) (N := some 50) (bA 24 131071) ?_
             refine pu_ (i := 17) (N := some 52) (bA 24 262143) ?_
             refine tk_ (i := 18) (N := some 53) (bA 24 524287) ?_
             refine pu_ (i := 19) (N := some 54) (bA 24 1048575) ?_
             refine pu_ (i := 20) (N := some 55) (bA 24 2097151) ?_
             refine pu_ (i := 21) (N := some 56) (bA 24 4194303) ?_
             refine one_ (i := 22) (N := some 57) (bA 24 8388607) rfl rfl (one_of HT_.out (by kernel_rfl)) (by decide) (fun K hK => ?_)
             refine goes_ Tryd.func27 (by kernel_rfl) rfl #[.agg #[.int .i64 ((rd_TIns (rd_LIns l0_3 x3_1) x4_2).f0), .int .i64 ((rd_TIns (rd_LIns l0_3 x3_1) x4_2).f1), .int .i64 ((rd_TIns (rd_LIns l0_3 x3_1) x4_2).f2), .int .i64 ((rd_TIns (rd_LIns l0_3 x3_1) x4_2).f3), .string ((rd_TIns (rd_LIns l0_3 x3_1) x4_2).f4), .slice A303_5 ((rd_TIns (rd_LIns l0_3 x3_1) x4_2).f5).length c303_5], .int .i64 a0_2, .int .i64 (l0_3.length : Int), .bool (x4_2 == (wrap64 (((rd_LIns l0_3 x3_1).length : Int) - 1)))] (by rfl) rfl rfl qL ?_
             with_reducible refine (cubbyref07_One.calls k2 ((rd_TIns (rd_LIns l0_3 x3_1) x4_2).f0) ((rd_TIns (rd_LIns l0_3 x3_1) x4_2).f1) ((rd_TIns (rd_LIns l0_3 x3_1) x4_2).f2) ((rd_TIns (rd_LIns l0_3 x3_1) x4_2).f3) ((rd_TIns (rd_LIns l0_3 x3_1) x4_2).f4) _ _ ((rd_TIns (rd_LIns l0_3 x3_1) x4_2).f5) a0_2 (l0_3.length : Int) (x4_2 == (wrap64 (((rd_LIns l0_3 x3_1).length : Int) - 1))) t305 _ ?side1 ?side2 A14.out).mono ?_
             (case side1 => exact qCB HR303_5.out)
             (case side2 => exact HC303_5.out)
             rintro e w18 ⟨rfl, hb⟩
             refine ⟨_, rfl, ?_⟩
             have n0_ := qW BK298 hb
             have n1_ := qH hb
             clear BK298
             clear HB
             have BK298 := n0_
             have HB := n1_
             clear n0_ n1_
             (try clear hb)
             (try clear hb2)
             (try clear hk)
             (try clear hi)
             refine hK.out _ _ ⟨(blk_cell BK298.out 0).trans rfl, (blk_cell BK298.out 1).trans rfl, (blk_cell BK298.out 2).trans rfl, (blk_cell BK298.out 3).trans rfl, ((HB.out.cell (World.block_lt_of_cell? w _ hw302_0)).trans hw302_0), ((HB.out.cell (World.block_lt_of_cell? w _ hw303_0)).trans hw303_0), ((HB.out.cell (World.block_lt_of_cell? w _ hw303_1)).trans hw303_1), ((HB.out.cell (World.block_lt_of_cell? w _ hw303_2)).trans hw303_2), ((HB.out.cell (World.block_lt_of_cell? w _ hw303_3)).trans hw303_3), ((HB.out.cell (World.block_lt_of_cell? w _ hw303_4)).trans hw303_4), ((HB.out.cell (World.block_lt_of_cell? w _ hw303_5)).trans hw303_5), ((HB.out.cell (World.block_lt_of_cell? w _ hw304_0)).trans hw304_0)⟩ (fun hHeld => ?_)
             clear hK K
             refine norm_ (a' := ?_) ?_ ?_
             rotate_left
             ·show Act.put _ (some 57) _ = _
              simp only [Act.put, List.setIfInBounds_toArray, List.set_cons_zero, List.set_cons_succ, i64_w, i32_w]
              rfl
             refine pu_ (i := 23) (N := some 5) (bA 24 16777215) ?_
             refine done_ (done_of HT_.out (by kernel_rfl)) ?_
             try go_wp2
             go_roundg k2
             case measure => have := HK1.out; have := HK2.out; omega
             case rel => exact ⟨(wrap64 (x4_2 + 1)), qT, H', ⟨by have := HK1.out; have := HK2.out; omega⟩, ⟨qK BK298.out⟩, ⟨qB⟩⟩
            ·rw [if_neg c15] at H
             obtain ⟨c15b0, c15b1⟩ := qn c15
             obtain rfl := Option.some.inj H
             have z19_0 := bk4 BK298.out
             have p301 : 0 ≤ (x3_1 : Int) := of_decide_eq_true qA
             have q301 : x3_1 < (l0_3.length : Int) := of_decide_eq_true qA
             obtain ⟨ad301, A301_0, c301_0, e301, hx301_0, hl301_0, hi301_0⟩ := at_LIns HR0_3.out x3_1 p301 q301
             cases e301
             replace hx301_0 := (HB.out.cell (World.block_lt_of_cell? w _ hx301_0)).trans hx301_0
             have HR301_0 := Aside0.mk hi301_0
             have HC301_0 := Aside0.mk hl301_0
             clear hi301_0 hl301_0
             replace p301 := eq_true p301
             replace q301 := eq_true q301
             try go_wp2
             have n0_ := Aside0.mk (blk_drew BK298.out)
             have n1_ := Aside0.mk (below_drew1 HB.out)
             clear BK298
             clear HB
             have BK298 := n0_
             have HB := n1_
             clear n0_ n1_
             have p302 : 0 ≤ (x3_1 : Int) := of_decide_eq_true qA
             have q302 : x3_1 < (l0_3.length : Int) := of_decide_eq_true qA
             obtain ⟨ad302, A302_0, c302_0, e302, hx302_0, hl302_0, hi302_0⟩ := at_LIns HR0_3.out x3_1 p302 q302
             have hw302_0 := hx302_0
             obtain rfl : ad301 = ad302 := (by injection e302)
             replace hx302_0 := (HB.out.cell (World.block_lt_of_cell? w _ hx302_0)).trans hx302_0
             have HR302_0 := Aside0.mk hi302_0
             have HC302_0 := Aside0.mk hl302_0
             clear hi302_0 hl302_0
             replace p302 := eq_true p302
             replace q302 := eq_true q302
             have p303 : 0 ≤ (x4_2 : Int) := of_decide_eq_true qA
             have q303 : x4_2 < ((rd_LIns l0_3 x3_1).length : Int) := of_decide_eq_true qA
             obtain ⟨ad303, A303_5, c303_5, e303, hx303_0, hx303_1, hx303_2, hx303_3, hx303_4, hx303_5, hl303_5, hi303_5⟩ := at_TIns HR302_0.out x4_2 p303 q303
             have hw303_5 := hx303_5
             have hw303_4 := hx303_4
             have hw303_3 := hx303_3
             have hw303_2 := hx303_2
             have hw303_1 := hx303_1
             have hw303_0 := hx303_0
             cases e303
             replace hx303_0 := (HB.out.cell (World.block_lt_of_cell? w _ hx303_0)).trans hx303_0
             replace hx303_1 := (HB.out.cell (World.block_lt_of_cell? w _ hx303_1)).trans hx303_1
             replace hx303_2 := (HB.out.cell (World.block_lt_of_cell? w _ hx303_2)).trans hx303_2
             replace hx303_3 := (HB.out.cell (World.block_lt_of_cell? w _ hx303_3)).trans hx303_3
             replace hx303_4 := (HB.out.cell (World.block_lt_of_cell? w _ hx303_4)).trans hx303_4
             replace hx303_5 := (HB.out.cell (World.block_lt_of_cell? w _ hx303_5)).trans hx303_5
             have HR303_5 := Aside0.mk hi303_5
             have HC303_5 := Aside0.mk hl303_5
             clear hi303_5 hl303_5
             replace p303 := eq_true p303
             replace q303 := eq_true q303
             have p304 : 0 ≤ (x3_1 : Int) := of_decide_eq_true qA
             have q304 : x3_1 < (l0_3.length : Int) := of_decide_eq_true qA
             obtain ⟨ad304, A304_0, c304_0, e304, hx304_0, hl304_0, hi304_0⟩ := at_LIns HR0_3.out x3_1 p304 q304
             have hw304_0 := hx304_0
             obtain rfl : ad301 = ad304 := (by injection e304)
             replace hx304_0 := (HB.out.cell (World.block_lt_of_cell? w _ hx304_0)).trans hx304_0
             have HR304_0 := Aside0.mk hi304_0
             have HC304_0 := Aside0.mk hl304_0
             clear hi304_0 hl304_0
             replace p304 := eq_true p304
             replace q304 := eq_true q304
             have ea_ := Option.some.inj (hx302_0.symm.trans hx304_0)
             injection ea_ with ea_ en_ ec_
             subst ea_
             subst ec_
             clear en_
             refine start_ (n := 24) (S := fun w' => w'.cell? ⟨gb298, 0, none⟩ = some (.string a0_0) ∧ w'.cell? ⟨gb298, 1, none⟩ = some (.int .i64 a0_1) ∧ w'.cell? ⟨gb298, 2, none⟩ = some (.int .i64 a0_2) ∧ w'.cell? ⟨gb298, 3, none⟩ = some (.slice (some ad301) l0_3.length c0_3) ∧ w'.cell? (ad301.add (x3_1).toNat) = some (.slice (some ad303) (rd_LIns l0_3 x3_1).length c302_0) ∧ w'.cell? (ad303.add ((x4_2).toNat * 6)) = some (.int .i64 ((rd_TIns (rd_LIns l0_3 x3_1) x4_2).f0)) ∧ w'.cell? ⟨(ad303.add ((x4_2).toNat * 6)).block, (ad303.add ((x4_2).toNat * 6)).off + 1, none⟩ = some (.int .i64 ((rd_TIns (rd_LIns l0_3 x3_1) x4_2).f1)) ∧ w'.cell? ⟨(ad303.add ((x4_2).toNat * 6)).block, (ad303.add ((x4_2).toNat * 6)).off + 2, none⟩ = some (.int .i64 ((rd_TIns (rd_LIns l0_3 x3_1) x4_2).f2)) ∧ w'.cell? ⟨(ad303.add ((x4_2).toNat * 6)).block, (ad303.add ((x4_2).toNat * 6)).off + 3, none⟩ = some (.int .i64 ((rd_TIns (rd_LIns l0_3 x3_1) x4_2).f3)) ∧ w'.cell? ⟨(ad303.add ((x4_2).toNat * 6)).block, (ad303.add ((x4_2).toNat * 6)).off + 4, none⟩ = some (.string ((rd_TIns (rd_LIns l0_3 x3_1) x4_2).f4)) ∧ w'.cell? ⟨(ad303.add ((x4_2).toNat * 6)).block, (ad303.add ((x4_2).toNat * 6)).off + 5, none⟩ = some (.slice A303_5 ((rd_TIns (rd_LIns l0_3 x3_1) x4_2).f5).length c303_5) ∧ w'.cell? (ad301.add (x3_1).toNat) = some (.slice (some ad303) (rd_LIns l0_3 x3_1).length c302_0)) (ds := []) (bA 24 0) (by kernel_rfl) rfl rfl ⟨(blk_cell BK298.out 0).trans rfl, (blk_cell BK298.out 1).trans rfl, (blk_cell BK298.out 2).trans rfl, (blk_cell BK298.out 3).trans rfl, ((HB.out.cell (World.block_lt_of_cell? w _ hw302_0)).trans hw302_0), ((HB.out.cell (World.block_lt_of_cell? w _ hw303_0)).trans hw303_0), ((HB.out.cell (World.block_lt_of_cell? w _ hw303_1)).trans hw303_1), ((HB.out.cell (World.block_lt_of_cell? w _ hw303_2)).trans hw303_2), ((HB.out.cell (World.block_lt_of_cell? w _ hw303_3)).trans hw303_3), ((HB.out.cell (World.block_lt_of_cell? w _ hw303_4)).trans hw303_4), ((HB.out.cell (World.block_lt_of_cell? w _ hw303_5)).trans hw303_5), ((HB.out.cell (World.block_lt_of_cell? w _ hw304_0)).trans hw304_0)⟩ (fun hHeld => ?_); refine with_tabW cubbyref07_Check.tab11 cubbyref07_Check.bits11 (fun HT_ HW_ => ?_)
             generalize wr.drew = w20 at BK298 HB HR302_0 HR303_5 HR304_0 hx302_0 hx303_0 hx303_1 hx303_2 hx303_3 hx303_4 hx303_5 hx304_0 hHeld ⊢
             refine pu_ (i := 0) (N := some 35) (bA 24 1) ?_
             refine pu_ (i := 2) (N := some 37) (bA 24 5) ?_
             refine pu_ (i := 5) (N := some 40) (bA 24 37) ?_
             refine pu_ (i := 8) (N := some 43) (bA 24 293) ?_
             refine pu_ (i := 10) (N := some 45) (bA 24 1317) ?_
             refine pu_ (i := 13) (N := some 48) (bA 24 9509) ?_
             refine pu_ (i := 14) (N := some 49) (bA 24 25893) ?_
             refine pu_ (i := 16) (N := some 51) (bA 24 91429) ?_
             refine tk_ (i := 1) (N := some 36) (bA 24 91431) ?_
             refine pu_ (i := 3) (N := some 38) (bA 24 91439) ?_
             refine tk_ (i := 4) (N := some 39) (bA 24 91455) ?_
             refine pu_ (i := 6) (N := some 41) (bA 24 91519) ?_
             refine tk_ (i := 7) (N := some 42) (bA 24 91647) ?_
             refine tk_ (i := 9) (N := some 44) (bA 24 92159) ?_
             refine tk_ (i := 11) (N := some 46) (bA 24 94207) ?_
             refine pu_ (i := 12) (N := some 47) (bA 24 98303) ?_
             refine tk_ (i := 15) (N := some 50) (bA 24 131071) ?_
             refine pu_ (i := 17) (N := some 52) (bA 24 262143) ?_
             refine tk_ (i := 18) (N := some 53) (bA 24 524287) ?_
             refine pu_ (i := 19) (N := some 54) (bA 24 1048575) ?_
             refine pu_ (i := 20) (N := some 55) (bA 24 2097151) ?_
             refine pu_ (i := 21) (N := some 56) (bA 24 4194303) ?_
             refine one_ (i := 22) (N := some 57) (bA 24 8388607) rfl rfl (one_of HT_.out (by kernel_rfl)) (by decide) (fun K hK => ?_)
             refine goes_ Tryd.func27 (by kernel_rfl) rfl #[.agg #[.int .i64 ((rd_TIns (rd_LIns l0_3 x3_1) x4_2).f0), .int .i64 ((rd_TIns (rd_LIns l0_3 x3_1) x4_2).f1), .int .i64 ((rd_TIns (rd_LIns l0_3 x3_1) x4_2).f2), .int .i64 ((rd_TIns (rd_LIns l0_3 x3_1) x4_2).f3), .string ((rd_TIns (rd_LIns l0_3 x3_1) x4_2).f4), .slice A303_5 ((rd_TIns (rd_LIns l0_3 x3_1) x4_2).f5).length c303_5], .int .i64 a0_2, .int .i64 (l0_3.length : Int), .bool (x4_2 == (wrap64 (((rd_LIns l0_3 x3_1).length : Int) - 1)))] (by rfl) rfl rfl qL ?_
             with_reducible refine (cubbyref07_One.calls k2 ((rd_TIns (rd_LIns l0_3 x3_1) x4_2).f0) ((rd_TIns (rd_LIns l0_3 x3_1) x4_2).f1) ((rd_TIns (rd_LIns l0_3 x3_1) x4_2).f2) ((rd_TIns (rd_LIns l0_3 x3_1) x4_2).f3) ((rd_TIns (rd_LIns l0_3 x3_1) x4_2).f4) _ _ ((rd_TIns (rd_LIns l0_3 x3_1) x4_2).f5) a0_2 (l0_3.length : Int) (x4_2 == (wrap64 (((rd_LIns l0_3 x3_1).length : Int) - 1))) t305 _ ?side1 ?side2 A14.out).mono ?_
             (case side1 => exact qCB HR303_5.out)
             (case side2 => exact HC303_5.out)
             rintro e w21 ⟨rfl, hb⟩
             refine ⟨_, rfl, ?_⟩
             have n0_ := qW BK298 hb
             have n1_ := qH hb
             clear BK298
             clear HB
             have BK298 := n0_
             have HB := n1_
             clear n0_ n1_
             (try clear hb)
             (try clear hb2)
             (try clear hk)
             (try clear hi)
             refine hK.out _ _ ⟨(blk_cell BK298.out 0).trans rfl, (blk_cell BK298.out 1).trans rfl, (blk_cell BK298.out 2).trans rfl, (blk_cell BK298.out 3).trans rfl, ((HB.out.cell (World.block_lt_of_cell? w _ hw302_0)).trans hw302_0), ((HB.out.cell (World.block_lt_of_cell? w _ hw303_0)).trans hw303_0), ((HB.out.cell (World.block_lt_of_cell? w _ hw303_1)).trans hw303_1), ((HB.out.cell (World.block_lt_of_cell? w _ hw303_2)).trans hw303_2), ((HB.out.cell (World.block_lt_of_cell? w _ hw303_3)).trans hw303_3), ((HB.out.cell (World.block_lt_of_cell? w _ hw303_4)).trans hw303_4), ((HB.out.cell (World.block_lt_of_cell? w _ hw303_5)).trans hw303_5), ((HB.out.cell (World.block_lt_of_cell? w _ hw304_0)).trans hw304_0)⟩ (fun hHeld => ?_)
             clear hK K
             refine norm_ (a' := ?_) ?_ ?_
             rotate_left
             ·show Act.put _ (some 57) _ = _
              simp only [Act.put, List.setIfInBounds_toArray, List.set_cons_zero, List.set_cons_succ, i64_w, i32_w]
              rfl
             refine pu_ (i := 23) (N := some 5) (bA 24 16777215) ?_
             refine done_ (done_of HT_.out (by kernel_rfl)) ?_
             try go_wp2
             go_ret
             exact ⟨qE, qB⟩
           ·rw [if_neg c13] at H
            exact absurd H (by simp)
          ·rw [if_neg c12] at H
           have c12b0 := decide_eq_false c12
           clear c12
           have H' := Aside0.mk H
           clear H
           have z22_0 := bk4 BK298.out
           have p301 : 0 ≤ (x3_1 : Int) := of_decide_eq_true qA
           have q301 : x3_1 < (l0_3.length : Int) := of_decide_eq_true qA
           obtain ⟨ad301, A301_0, c301_0, e301, hx301_0, hl301_0, hi301_0⟩ := at_LIns HR0_3.out x3_1 p301 q301
           cases e301
           replace hx301_0 := (HB.out.cell (World.block_lt_of_cell? w _ hx301_0)).trans hx301_0
           have HR301_0 := Aside0.mk hi301_0
           have HC301_0 := Aside0.mk hl301_0
           clear hi301_0 hl301_0
           replace p301 := eq_true p301
           replace q301 := eq_true q301
           go_wp2
           go_roundg k2
           case measure => have := HK1.out; have := HK2.out; omega
           case rel => exact ⟨(wrap64 (x3_1 + 1)), qT, H', ⟨by have := HK1.out; have := HK2.out; omega⟩, ⟨qK BK298.out⟩, ⟨qB⟩⟩
         ·rw [if_neg c11] at H
          exact absurd H (by simp)
        ·rw [if_neg c10] at H
         exact absurd H (by simp)
     ·rw [if_neg c8] at H
      have c8b0 := decide_eq_false c8
      clear c8
      obtain rfl := Option.some.inj H
      have z23_0 := bk4 BK298.out
      go_wp2
      go_ret
      exact ⟨qE, qB⟩
  ·replace c5 := Bool.eq_false_iff.mpr c5
   subst c5
   have H1 : (some 71) = some r := by rw [if_neg (show ¬ (false = true) by decide)] at H; exact H
   clear H
   have H := H1
   clear H1
   obtain rfl := Option.some.inj H
   go_enter Tryd.func12, Tryd.ntmps12
   go_wp2_with (first | ((with_reducible refine gate_dst (N := 1) rfl ?_); refine box_event (by rfl) (N := 1) (by rfl) (cs := #[.string a0_0, .int .i64 a0_1, .int .i64 a0_2, .slice A0_3 l0_3.length c0_3]) (t := 34) ?hr ?_; (case hr => first | (go_simp; done) | (go_simp; rfl)); intro gb298 hg w24 hbox hb; have BK298 := Aside0.mk (hbox); have GW298 := qG hg; have GE298 := GW298; replace HB := qH hb; clear hb hbox hg; have z25_0 := bk4 BK298.out) | ((with_reducible refine gate_callee (f := 16) rfl ?_); refine goesL_ (some 8) rfl rfl Tryd.func16 (by kernel_rfl) rfl #[.string a0_0] rfl qL ?_; (with_reducible refine (cubbyref07_Name.calls k a0_0 true _ A2.out).mono ?_); rintro e w' ⟨rfl, ⟨nd, rfl⟩⟩; refine ⟨_, rfl, ?_⟩) | ((with_reducible refine gate_callee (f := 26) rfl ?_); refine goesL_ (some 16) rfl rfl Tryd.func26 (by kernel_rfl) rfl #[.int .i64 a0_1, .int .i64 a0_2, .slice A0_3 l0_3.length c0_3] rfl qL ?_; (with_reducible refine (cubbyref07_Shape.calls k a0_1 a0_2 _ _ l0_3 false _ ?side1 ?side2 A4.out).mono ?_); (case side1 => repeat (first | exact (Kd.C_below HR0_3.out qB) | (with_reducible refine Kd.C_alloc ?_ _) | (with_reducible refine Kd.C_drewN ?_ _) | (with_reducible refine Kd.C_drew ?_))); (case side2 => exact HC0_3.out); rintro e w' ⟨rfl, ⟨nd, rfl⟩⟩; refine ⟨_, rfl, ?_⟩))
   go_ret
   exact ⟨qE, qB⟩
 ·replace c3 := Bool.eq_false_iff.mpr c3
  subst c3
  have H1 : (some 70) = some r := by rw [if_neg (show ¬ (false = true) by decide)] at H; exact H
  clear H
  have H := H1
  clear H1
  obtain rfl := Option.some.inj H
  go_enter Tryd.func12, Tryd.ntmps12
  go_wp2_with (first | ((with_reducible refine gate_dst (N := 1) rfl ?_); refine box_event (by rfl) (N := 1) (by rfl) (cs := #[.string a0_0, .int .i64 a0_1, .int .i64 a0_2, .slice A0_3 l0_3.length c0_3]) (t := 34) ?hr ?_; (case hr => first | (go_simp; done) | (go_simp; rfl)); intro gb298 hg w26 hbox hb; have BK298 := Aside0.mk (hbox); have GW298 := qG hg; have GE298 := GW298; replace HB := qH hb; clear hb hbox hg; have z27_0 := bk4 BK298.out) | ((with_reducible refine gate_callee (f := 16) rfl ?_); refine goesL_ (some 8) rfl rfl Tryd.func16 (by kernel_rfl) rfl #[.string a0_0] rfl qL ?_; (with_reducible refine (cubbyref07_Name.calls k a0_0 false _ A2.out).mono ?_); rintro e w' ⟨rfl, ⟨nd, rfl⟩⟩; refine ⟨_, rfl, ?_⟩))
  go_ret
  exact ⟨qE, qB⟩

end Go.Proofs.YtbipipbfiekbgaaDoor.Q
