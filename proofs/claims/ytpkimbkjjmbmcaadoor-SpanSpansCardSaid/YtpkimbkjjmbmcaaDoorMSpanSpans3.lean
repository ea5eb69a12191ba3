/- SpanSpans: parts of the proofs, put together. -/
import Derived.OneCell
import Derived.Test.YtpkimbkjjmbmcaaDoorMSpanSpans1
import Derived.Test.YtpkimbkjjmbmcaaDoorMSpanSpans2
namespace Go.Proofs.YtpkimbkjjmbmcaaDoor.Q
open Go.RowKit Go.Proofs.YtpkimbkjjmbmcaaDoorW.PrintWords Go.Proofs.YtpkimbkjjmbmcaaDoorW.PrintLast Go.Proofs.YtpkimbkjjmbmcaaDoorW.PrintMore
attribute [local go_sem] max2_int min2_int max_two min_two max_three min_three max_four min_four
set_option linter.unusedVariables false
set_option linter.unusedSimpArgs false

def cubbyref11_ahead.l0 : Nat → Int → Int → List Int → Int → ByteArray → Int → Int → List (List (SIns)) → Option (List Int)
 | 0, _, _, _, _, _, _, _, _ => none
 | k + 1, x2, x3, x9, x10, x226000, x226001, x226002, x226003 => if x10 ≥ x3 then (if 0 ≤ x2 then (if x2 < (x226003.length : Int) then (if 0 ≤ x10 then (if x10 < ((rd_LIns x226003 x2).length : Int) then ((cubbyref11_through.f k ((rd_TIns (rd_LIns x226003 x2) x10).f0) ((rd_TIns (rd_LIns x226003 x2) x10).f1) ((rd_TIns (rd_LIns x226003 x2) x10).f2) ((rd_TIns (rd_LIns x226003 x2) x10).f3) ((rd_TIns (rd_LIns x226003 x2) x10).f4) ((rd_TIns (rd_LIns x226003 x2) x10).f5) x9 x226002).bind fun t232 => (cubbyref11_ahead.l0 k x2 x3 t232 (wrap64 (x10 - 1)) x226000 x226001 x226002 x226003)) else (none)) else (none)) else (none)) else (none)) else (some x9)
def cubbyref11_ahead.f (k : Nat) (a0_0 : ByteArray) (a0_1 : Int) (a0_2 : Int) (l0_3 : List (List (SIns))) (l1 : List (List Int)) (a2 : Int) (a3 : Int) : Option (List Int) := (cubbyref11_behind.f k a0_0 a0_1 a0_2 l0_3 l1 a2).bind fun t226 => (if 0 ≤ a2 then (if a2 < (l0_3.length : Int) then (cubbyref11_ahead.l0 k a2 a3 t226 (wrap64 (((rd_LIns l0_3 a2).length : Int) - 1)) a0_0 a0_1 a0_2 l0_3) else (none)) else (none))
def cubbyref11_ahead.T5 : Bool × List (List Nat × List Nat) := (true, [([], []), ([0], [0]), ([], []), ([1, 2], [1, 2]), ([3], [3]), ([], []), ([4, 5], [4, 5]), ([6], [6]), ([], []), ([], []), ([9], [9]), ([7, 8, 10], [7, 8, 10]), ([11, 11, 0, 1, 2, 3, 4, 5, 6, 7, 8, 9, 10, 11], [8, 11])])
def cubbyref11_ahead.B5 : List Nat := [0, 1, 0, 7, 15, 0, 63, 127, 0, 0, 512, 2047, 4095]
theorem cubbyref11_ahead.tab5 : rtab .any (opsOf Tryd.f49 5) = cubbyref11_ahead.T5 := by kernel_rfl
theorem cubbyref11_ahead.bits5 : waitsOk cubbyref11_ahead.T5.2 cubbyref11_ahead.B5 = true := by kernel_rfl
set_option maxHeartbeats 8000000 in
set_option maxRecDepth 100000 in
theorem cubbyref11_ahead.calls (k : Nat) (a0_0 : ByteArray) (a0_1 : Int) (a0_2 : Int) (A0_3 : Option Addr) (c0_3 : Nat) (l0_3 : List (List (SIns))) (A1 : Option Addr) (c1 : Nat) (l1 : List (List Int)) (a2 : Int) (a3 : Int) (r : List Int) (w : World) (hr0_3 : Kd.C (Kd.slice 38 kIns) w A0_3 l0_3.length l0_3) (hc0_3 : l0_3.length ≤ c0_3) (hr1 : Kd.C (Kd.slice 3 (Kd.int .i64)) w A1 l1.length l1) (hc1 : l1.length ≤ c1) (h : cubbyref11_ahead.f k a0_0 a0_1 a0_2 l0_3 l1 a2 a3 = some r) :
 Calls Tryd.prog 49 #[.agg #[.string a0_0, .int .i64 a0_1, .int .i64 a0_2, .slice A0_3 l0_3.length c0_3], .slice A1 l1.length c1, .int .i64 a2, .int .i64 a3] w fun e w' => ∃ v0_ : Value, e = .returned (v0_) ∧ Kd.R (Kd.int .i64) 3 w' w.heap.size (fun _ => True) v0_ r ∧ Below w.heap.size w w' := by
 have hu24 := Tryd.underlying24
 have hu38 := Tryd.underlying38
 have HR0_3 := zA hr0_3
 have HC0_3 := zA hc0_3
 clear hr0_3 hc0_3
 have HR1 := zA hr1
 have HC1 := zA hc1
 clear hr1 hc1
 have HB := zA (Below.refl w.heap.size w)
 have H := h; clear h; unfold cubbyref11_ahead.f at H
 replace H := qb H; obtain ⟨t226, A5, H⟩ := H
 by_cases c6 : 0 ≤ a2
 ·rw [zC c6] at H
  have c6b0 := zF c6
  clear c6
  by_cases c7 : a2 < (l0_3.length : Int)
  ·rw [zC c7] at H
   have c7b0 := zF c7
   clear c7
   have H' := zA H
   clear H
   go_enter Tryd.func49, Tryd.ntmps49
   go_wp2_with (first | ((with_reducible refine gate_dst (N := 4) rfl ?_); refine box_event (by rfl) (N := 4) (by rfl) (cs := #[.string a0_0, .int .i64 a0_1, .int .i64 a0_2, .slice A0_3 l0_3.length c0_3]) (t := 24) ?hr ?_; (case hr => go_simp <;> rfl); intro gb225 hg w8 hbox hb; have BK225 := zA (hbox); have GW225 := qG hg; have GE225 := GW225; replace HB := qH hb; clear hb hbox hg; have z9_0 := bk4 BK225.out) | ((with_reducible refine gate_callee (f := 89) rfl ?_); refine goesL_ (some 14) rfl rfl Tryd.func89 (by kernel_rfl) rfl #[.agg #[.string a0_0, .int .i64 a0_1, .int .i64 a0_2, .slice A0_3 l0_3.length c0_3], .slice A1 l1.length c1, .int .i64 a2] rfl qL ?_; (with_reducible refine (cubbyref11_behind.calls k a0_0 a0_1 a0_2 _ _ l0_3 _ _ l1 a2 t226 _ ?side1 ?side2 ?side3 ?side4 A5.out).mono ?_); (case side1 => exact qCB HR0_3.out); (case side2 => exact HC0_3.out); (case side3 => exact qCB HR1.out); (case side4 => exact HC1.out); rintro e w10 ⟨v227, rfl, ho0, hb⟩; refine ⟨_, rfl, ?_⟩; have HO228 := zA (Kd.R_lower ho0 (below_size qB)); replace BK225 := qW BK225 hb; replace HB := qH hb; (try clear hb); (try clear ho0); have z11_0 := bk4 BK225.out; have p229 : 0 ≤ (a2 : Int) := zB qA; have q229 : a2 < (l0_3.length : Int) := zB qA; obtain ⟨ad229, A229_0, c229_0, e229, hx229_0, hl229_0, hi229_0⟩ := at_LIns HR0_3.out a2 p229 q229; cases e229; replace hx229_0 := (HB.out.cell (zE w _ hx229_0)).trans hx229_0; have HR229_0 := zA hi229_0; have HC229_0 := zA hl229_0; clear hi229_0 hl229_0; replace p229 := eq_true p229; replace q229 := eq_true q229))
   go_loopg [9, 10] k (fun kq v9 v10 w' => ∃ (x9_1 : List Int) (x10_1 : Int), v10 = .int .i64 x10_1 ∧ Aside0 (cubbyref11_ahead.l0 kq a2 a3 x9_1 x10_1 a0_0 a0_1 a0_2 l0_3 = some r) ∧ Aside0 (kq ≤ k) ∧ Aside0 (Kd.R (Kd.int .i64) 3 w' w.heap.size (fun _ => True) v9 x9_1) ∧ Aside0 (w'.heap[gb225]? = some (.cells #[.string a0_0, .int .i64 a0_1, .int .i64 a0_2, (.slice (some ad229) l0_3.length c0_3)] 24 (0, 0))) ∧ Aside0 (Below w.heap.size w w'))
   case atStart => exact ⟨(t226), (wrap64 (((rd_LIns l0_3 a2).length : Int) - 1)), qT, H', ⟨Nat.le_refl _⟩, ⟨qR HO228.out⟩, ⟨qK BK225.out⟩, ⟨qB⟩⟩
   case round =>
    clear H'
    obtain ⟨x9_1, x10_1, rfl, HA, HK1, HO_9, BK225, HB⟩ := hrel
    cases gk with
    | zero => exact absurd HA.out (by simp [cubbyref11_ahead.l0])
    | succ k1 =>
     have H := HA.out
     clear HA
     simp only [cubbyref11_ahead.l0] at H
     by_cases c12 : x10_1 ≥ a3
     ·rw [zC c12] at H
      have c12b0 : decide (a3 ≤ x10_1) = true := zF c12
      clear c12
      by_cases c13 : 0 ≤ a2
      ·rw [zC c13] at H
       have c13b0 := zF c13
       clear c13
       by_cases c14 : a2 < (l0_3.length : Int)
       ·rw [zC c14] at H
        have c14b0 := zF c14
        clear c14
        by_cases c15 : 0 ≤ x10_1
        ·rw [zC c15] at H
         have c15b0 := zF c15
         clear c15
         by_cases c16 : x10_1 < ((rd_LIns l0_3 a2).length : Int)
         ·rw [zC c16] at H
          have c16b0 := zF c16
          clear c16
          replace H := qb H; obtain ⟨t232, A17, H⟩ := H
          have H' := zA H
          clear H
          try go_wp2
          have n0_ := zA (Kd.R_drew HO_9.out)
          have n1_ := zA (blk_drew BK225.out)
          have n2_ := zA (below_drew1 HB.out)
          clear HO_9
          clear BK225
          clear HB
          have HO_9 := n0_
          have BK225 := n1_
          have HB := n2_
          clear n0_ n1_ n2_
          have p230 : 0 ≤ (a2 : Int) := zB qA
          have q230 : a2 < (l0_3.length : Int) := zB qA
          obtain ⟨ad230, A230_0, c230_0, e230, hx230_0, hl230_0, hi230_0⟩ := at_LIns HR0_3.out a2 p230 q230
          have hw230_0 := hx230_0
          obtain rfl : ad229 = ad230 := (by injection e230)
          replace hx230_0 := (HB.out.cell (zE w _ hx230_0)).trans hx230_0
          have HR230_0 := zA hi230_0
          have HC230_0 := zA hl230_0
          clear hi230_0 hl230_0
          replace p230 := eq_true p230
          replace q230 := eq_true q230
          have p231 : 0 ≤ (x10_1 : Int) := zB qA
          have q231 : x10_1 < ((rd_LIns l0_3 a2).length : Int) := zB qA
          obtain ⟨ad231, A231_5, c231_5, e231, hx231_0, hx231_1, hx231_2, hx231_3, hx231_4, hx231_5, hl231_5, hi231_5⟩ := at_TIns HR230_0.out x10_1 p231 q231
          have hw231_5 := hx231_5
          have hw231_4 := hx231_4
          have hw231_3 := hx231_3
          have hw231_2 := hx231_2
          have hw231_1 := hx231_1
          have hw231_0 := hx231_0
          cases e231
          replace hx231_0 := (HB.out.cell (zE w _ hx231_0)).trans hx231_0
          replace hx231_1 := (HB.out.cell (zE w _ hx231_1)).trans hx231_1
          replace hx231_2 := (HB.out.cell (zE w _ hx231_2)).trans hx231_2
          replace hx231_3 := (HB.out.cell (zE w _ hx231_3)).trans hx231_3
          replace hx231_4 := (HB.out.cell (zE w _ hx231_4)).trans hx231_4
          replace hx231_5 := (HB.out.cell (zE w _ hx231_5)).trans hx231_5
          have HR231_5 := zA hi231_5
          have HC231_5 := zA hl231_5
          clear hi231_5 hl231_5
          replace p231 := eq_true p231
          replace q231 := eq_true q231
          obtain ⟨Ao19, co19, eo19⟩ := Kd.R_slice HO_9.out
          (first | subst eo19 | (injection eo19 with f1_ f2_ f3_; have f4_ := f1_.symm; have f5_ := f3_.symm; clear f1_ f2_ f3_; subst f4_; subst f5_))
          refine start_ (n := 13) (S := fun w' => w'.cell? ⟨gb225, 0, none⟩ = some (.string a0_0) ∧ w'.cell? ⟨gb225, 1, none⟩ = some (.int .i64 a0_1) ∧ w'.cell? ⟨gb225, 2, none⟩ = some (.int .i64 a0_2) ∧ w'.cell? ⟨gb225, 3, none⟩ = some (.slice (some ad229) l0_3.length c0_3) ∧ w'.cell? (ad229.add (a2).toNat) = some (.slice (some ad231) (rd_LIns l0_3 a2).length c230_0) ∧ w'.cell? (ad231.add ((x10_1).toNat * 6)) = some (.int .i64 ((rd_TIns (rd_LIns l0_3 a2) x10_1).f0)) ∧ w'.cell? ⟨(ad231.add ((x10_1).toNat * 6)).block, (ad231.add ((x10_1).toNat * 6)).off + 1, none⟩ = some (.int .i64 ((rd_TIns (rd_LIns l0_3 a2) x10_1).f1)) ∧ w'.cell? ⟨(ad231.add ((x10_1).toNat * 6)).block, (ad231.add ((x10_1).toNat * 6)).off + 2, none⟩ = some (.int .i64 ((rd_TIns (rd_LIns l0_3 a2) x10_1).f2)) ∧ w'.cell? ⟨(ad231.add ((x10_1).toNat * 6)).block, (ad231.add ((x10_1).toNat * 6)).off + 3, none⟩ = some (.int .i64 ((rd_TIns (rd_LIns l0_3 a2) x10_1).f3)) ∧ w'.cell? ⟨(ad231.add ((x10_1).toNat * 6)).block, (ad231.add ((x10_1).toNat * 6)).off + 4, none⟩ = some (.string ((rd_TIns (rd_LIns l0_3 a2) x10_1).f4)) ∧ w'.cell? ⟨(ad231.add ((x10_1).toNat * 6)).block, (ad231.add ((x10_1).toNat * 6)).off + 5, none⟩ = some (.slice A231_5 ((rd_TIns (rd_LIns l0_3 a2) x10_1).f5).length c231_5)) (ds := []) (bA 13 0) (by kernel_rfl) rfl rfl ⟨(blk_cell BK225.out 0).trans rfl, (blk_cell BK225.out 1).trans rfl, (blk_cell BK225.out 2).trans rfl, (blk_cell BK225.out 3).trans rfl, ((HB.out.cell (zE w _ hw230_0)).trans hw230_0), ((HB.out.cell (zE w _ hw231_0)).trans hw231_0), ((HB.out.cell (zE w _ hw231_1)).trans hw231_1), ((HB.out.cell (zE w _ hw231_2)).trans hw231_2), ((HB.out.cell (zE w _ hw231_3)).trans hw231_3), ((HB.out.cell (zE w _ hw231_4)).trans hw231_4), ((HB.out.cell (zE w _ hw231_5)).trans hw231_5)⟩ (fun hHeld => ?_); refine with_tabW cubbyref11_ahead.tab5 cubbyref11_ahead.bits5 (fun HT_ HW_ => ?_)
          generalize wr.drew = w18 at HO_9 BK225 HB HR230_0 HR231_5 hx230_0 hx231_0 hx231_1 hx231_2 hx231_3 hx231_4 hx231_5 hHeld ⊢
          refine pu_ (i := 0) (N := some 27) (bA 13 1) ?_
          refine pu_ (i := 2) (N := some 29) (bA 13 5) ?_
          refine pu_ (i := 5) (N := some 32) (bA 13 37) ?_
          refine pu_ (i := 8) (N := some 35) (bA 13 293) ?_
          refine pu_ (i := 9) (N := some 36) (bA 13 805) ?_
          refine tk_ (i := 1) (N := some 28) (bA 13 807) ?_
          refine pu_ (i := 3) (N := some 30) (bA 13 815) ?_
          refine tk_ (i := 4) (N := some 31) (bA 13 831) ?_
          refine pu_ (i := 6) (N := some 33) (bA 13 895) ?_
          refine tk_ (i := 7) (N := some 34) (bA 13 1023) ?_
          refine tk_ (i := 10) (N := some 37) (bA 13 2047) ?_
          refine one_ (i := 11) (N := some 38) (bA 13 4095) rfl rfl (one_of HT_.out (by kernel_rfl)) (by decide) (fun K hK => ?_)
          refine goes_ Tryd.func90 (by kernel_rfl) rfl #[.agg #[.int .i64 ((rd_TIns (rd_LIns l0_3 a2) x10_1).f0), .int .i64 ((rd_TIns (rd_LIns l0_3 a2) x10_1).f1), .int .i64 ((rd_TIns (rd_LIns l0_3 a2) x10_1).f2), .int .i64 ((rd_TIns (rd_LIns l0_3 a2) x10_1).f3), .string ((rd_TIns (rd_LIns l0_3 a2) x10_1).f4), .slice A231_5 ((rd_TIns (rd_LIns l0_3 a2) x10_1).f5).length c231_5], .slice Ao19 x9_1.length co19, .int .i64 a0_2] (by rfl) rfl rfl qL ?_
          with_reducible refine (cubbyref11_through.calls k1 ((rd_TIns (rd_LIns l0_3 a2) x10_1).f0) ((rd_TIns (rd_LIns l0_3 a2) x10_1).f1) ((rd_TIns (rd_LIns l0_3 a2) x10_1).f2) ((rd_TIns (rd_LIns l0_3 a2) x10_1).f3) ((rd_TIns (rd_LIns l0_3 a2) x10_1).f4) _ _ ((rd_TIns (rd_LIns l0_3 a2) x10_1).f5) _ _ x9_1 a0_2 t232 _ ?side1 ?side2 ?side3 ?side4 A17.out).mono ?_
          (case side1 => exact qCB HR231_5.out)
          (case side2 => exact HC231_5.out)
          (case side3 => repeat (first | exact (Kd.R_reads' HO_9.out).2.2 | (with_reducible refine Kd.C_alloc ?_ _) | (with_reducible refine Kd.C_drewN ?_ _) | (with_reducible refine Kd.C_drew ?_)))
          (case side4 => exact (Kd.R_reads' HO_9.out).2.1)
          rintro e w20 ⟨v233, rfl, ho0, hb⟩
          refine ⟨_, rfl, ?_⟩
          have n0_ := zA (Kd.R_elder' (qR HO_9.out) (Kd.R_base ho0) hb)
          have n1_ := zA (Kd.R_lower (Kd.R_new' ho0 (Kd.R_lt (qR HO_9.out))) (below_size qB))
          have n2_ := qW BK225 hb
          have n3_ := qH hb
          clear HO_9
          clear BK225
          clear HB
          have HO_9 := n0_
          have HO234 := n1_
          have BK225 := n2_
          have HB := n3_
          clear n0_ n1_ n2_ n3_
          (try clear hb)
          (try clear hb2)
          (try clear hk)
          (try clear hi)
          (try clear ho0)
          refine hK.out _ _ ⟨(blk_cell BK225.out 0).trans rfl, (blk_cell BK225.out 1).trans rfl, (blk_cell BK225.out 2).trans rfl, (blk_cell BK225.out 3).trans rfl, ((HB.out.cell (zE w _ hw230_0)).trans hw230_0), ((HB.out.cell (zE w _ hw231_0)).trans hw231_0), ((HB.out.cell (zE w _ hw231_1)).trans hw231_1), ((HB.out.cell (zE w _ hw231_2)).trans hw231_2), ((HB.out.cell (zE w _ hw231_3)).trans hw231_3), ((HB.out.cell (zE w _ hw231_4)).trans hw231_4), ((HB.out.cell (zE w _ hw231_5)).trans hw231_5)⟩ (fun hHeld => ?_)
          clear hK K
          refine norm_ (a' := ?_) ?_ ?_
          rotate_left
          ·show Act.put _ (some 38) _ = _
           simp only [Act.put, List.setIfInBounds_toArray, List.set_cons_zero, List.set_cons_succ, i64_w, i32_w]
           rfl
          refine pu_ (i := 12) (N := some 9) (bA 13 8191) ?_
          refine done_ (done_of HT_.out (by kernel_rfl)) ?_
          try go_wp2
          go_roundg k1
          case measure => have := HK1.out; omega
          case rel => exact ⟨(t232), (wrap64 (x10_1 - 1)), qT, H', ⟨by have := HK1.out; omega⟩, ⟨by (with_reducible repeat (first | apply Kd.R_alloc | apply Kd.R_drewN | apply Kd.R_drew)); exact Kd.R_mono HO234.out (fun _ hk => trivial)⟩, ⟨qK BK225.out⟩, ⟨qB⟩⟩
         ·rw [zD c16] at H
          exact absurd H (by simp)
        ·rw [zD c15] at H
         exact absurd H (by simp)
       ·rw [zD c14] at H
        exact absurd H (by simp)
      ·rw [zD c13] at H
       exact absurd H (by simp)
     ·rw [zD c12] at H
      have c12b0 : decide (a3 ≤ x10_1) = false := zG c12
      clear c12
      obtain rfl := zI H
      go_wp2
      go_ret
      exact ⟨_, qE, qR HO_9.out, qB⟩
  ·rw [zD c7] at H
   exact absurd H (by simp)
 ·rw [zD c6] at H
  exact absurd H (by simp)

mutual
def cubbyref11_In.l0 : Nat → List (List Int) → Int → ByteArray → Int → Int → List (List (SIns)) → Option ((List (List Int)))
 | 0, _, _, _, _, _, _ => none
 | k + 1, x3, x4, x236000, x236001, x236002, x236003 => if x4 ≤ (wrap64 ((wrap64 ((x236003.length : Int) * x236002)) + 1)) then (cubbyref11_In.l1 k x3 x4 (([] : List (List Int))) true 0 x236000 x236001 x236002 x236003) else (some x3)
def cubbyref11_In.l1 : Nat → List (List Int) → Int → List (List Int) → Bool → Int → ByteArray → Int → Int → List (List (SIns)) → Option ((List (List Int)))
 | 0, _, _, _, _, _, _, _, _, _ => none
 | k + 1, x3, x4, x5, x6, x7, x236000, x236001, x236002, x236003 => if x7 < (x236003.length : Int) then ((cubbyref11_ahead.f k x236000 x236001 x236002 x236003 x3 x7 0).bind fun t243 => (if x6 = true then (if 0 ≤ x7 then (if x7 < (x3.length : Int) then (if x5.length < 5864062014805 then (cubbyref11_In.l1 k x3 x4 (x5 ++ [t243]) ((t243.length : Int) == ((rd_LInt x3 x7).length : Int)) (wrap64 (x7 + 1)) x236000 x236001 x236002 x236003) else (none)) else (none)) else (none)) else (if x5.length < 5864062014805 then (cubbyref11_In.l1 k x3 x4 (x5 ++ [t243]) false (wrap64 (x7 + 1)) x236000 x236001 x236002 x236003) else (none)))) else (if x6 = true then (some x5) else (cubbyref11_In.l0 k x5 (wrap64 (x4 + 1)) x236000 x236001 x236002 x236003))
end
def cubbyref11_In.f (k : Nat) (a0_0 : ByteArray) (a0_1 : Int) (a0_2 : Int) (l0_3 : List (List (SIns))) : Option ((List (List Int))) := (cubbyref07_Check.f k a0_0 a0_1 a0_2 l0_3).bind fun t236 => (if t236 = 0 then (if 0 ≤ (l0_3.length : Int) then (if ((l0_3.length : Int) : Int).toNat ≤ 11728124029610 then (cubbyref11_In.l0 k (List.replicate ((l0_3.length : Int) : Int).toNat []) 0 a0_0 a0_1 a0_2 l0_3) else (none)) else (none)) else (some ([] : List (List Int))))
set_option maxHeartbeats 8000000 in
set_option maxRecDepth 100000 in
theorem cubbyref11_In.calls (k : Nat) (a0_0 : ByteArray) (a0_1 : Int) (a0_2 : Int) (A0_3 : Option Addr) (c0_3 : Nat) (l0_3 : List (List (SIns))) (r : List (List Int)) (w : World) (hr0_3 : Kd.C (Kd.slice 38 kIns) w A0_3 l0_3.length l0_3) (hc0_3 : l0_3.length ≤ c0_3) (h : cubbyref11_In.f k a0_0 a0_1 a0_2 l0_3 = some r) :
 Calls Tryd.prog 50 #[.agg #[.string a0_0, .int .i64 a0_1, .int .i64 a0_2, .slice A0_3 l0_3.length c0_3]] w fun e w' => ∃ v0_ : Value, e = .returned (v0_) ∧ Kd.S (Kd.slice 3 (Kd.int .i64)) 35 w' w.heap.size (fun _ => True) v0_ r ∧ Below w.heap.size w w' := by
 have hu24 := Tryd.underlying24
 have HR0_3 := zA hr0_3
 have HC0_3 := zA hc0_3
 clear hr0_3 hc0_3
 have HB := zA (Below.refl w.heap.size w)
 have H := h; clear h; unfold cubbyref11_In.f at H
 replace H := qb H; obtain ⟨t236, A2, H⟩ := H
 by_cases c3 : t236 = 0
 ·rw [zC c3] at H
  obtain ⟨c3b0, c3b1⟩ := qe c3; clear c3
  by_cases c4 : 0 ≤ (l0_3.length : Int)
  ·rw [zC c4] at H
   have c4b0 := eq_true c4
   have c4b1 := zF c4
   clear c4
   by_cases c5 : ((l0_3.length : Int) : Int).toNat ≤ 11728124029610
   ·rw [zC c5] at H
    have c5b0 := eq_true c5
    have c5b1 := zF c5
    clear c5
    obtain ⟨y237, hy237⟩ : ∃ y_ : List (List Int), y_ = (List.replicate ((l0_3.length : Int) : Int).toNat []) := ⟨_, rfl⟩
    replace H : (cubbyref11_In.l0 k y237 0 a0_0 a0_1 a0_2 l0_3) = some r := by (try rw [hy237]); first | with_reducible exact H | exact (zJ _ _).symm.trans H | exact H
    have Ny237 := zA hy237
    clear hy237
    have H' := zA H
    clear H
    go_enter Tryd.func50, Tryd.ntmps50
    go_wp2_with (first | ((with_reducible refine gate_dst (N := 1) rfl ?_); (try (refine gate_guard (by rfl) ?_; dsimp only)); refine box_event (by rfl) (N := 1) (by rfl) (cs := #[.string a0_0, .int .i64 a0_1, .int .i64 a0_2, .slice A0_3 l0_3.length c0_3]) (t := 24) ?hr ?_; (case hr => go_simp <;> rfl); intro gb235 hg w6 hbox hb; have BK235 := zA (hbox); have GW235 := qG hg; have GE235 := GW235; replace HB := qH hb; clear hb hbox hg; have z7_0 := bk4 BK235.out) | ((with_reducible refine gate_callee (f := 48) rfl ?_); refine goesL_ (some 10) rfl rfl Tryd.func48 (by kernel_rfl) rfl #[.agg #[.string a0_0, .int .i64 a0_1, .int .i64 a0_2, .slice A0_3 l0_3.length c0_3]] rfl qL ?_; (with_reducible refine (cubbyref07_Check.calls k a0_0 a0_1 a0_2 _ _ l0_3 t236 _ ?side1 ?side2 A2.out).mono ?_); (case side1 => exact qCB HR0_3.out); (case side2 => exact HC0_3.out); rintro e w8 ⟨rfl, hb⟩; refine ⟨_, rfl, ?_⟩; replace BK235 := qW BK235 hb; replace HB := qH hb; (try clear hb); have z9_0 := bk4 BK235.out) | ((with_reducible refine gate_dst (N := 15) rfl ?_); (try (refine gate_guard (by rfl) ?_; dsimp only)); refine Kd.S_make (Kd.slice 3 (Kd.int .i64)) _ 35 rfl (N := 15) rfl 30 _ _ rfl (l0_3.length : Int) rfl rfl Tryd.underlying30 (.slice none 0 0) 24 info35 rfl (by decide) (by omega) [] (ok := fun _ => True) (okp := fun _ => True) ⟨_, rfl, Kd.R_nil _ _ _ _ _⟩ (fun _ hk => hk) trivial (zB qA) (Nat.le_trans (Nat.mul_le_mul_right _ (zB qA : (l0_3.length : Int).toNat ≤ 11728124029610)) (by omega)) (Below.refl _ _) (Nat.le_refl _) ?_; intro v238 w10 ho11 hb hg_ hnew_; clear hg_ hnew_; (first | rw [← Ny237.out] at ho11 | (simp only [Int.reduceToNat] at ho11; rw [← Ny237.out] at ho11)); have HO239 := zA (Kd.S_lower ho11 (below_size qB)); replace BK235 := qW BK235 hb; replace HB := qH hb; clear hb ho11))
    go_loopg [3, 4] k (fun kq v3 v4 w' => ∃ (x3_1 : List (List Int)) (x4_1 : Int), v4 = .int .i64 x4_1 ∧ Aside0 (cubbyref11_In.l0 kq x3_1 x4_1 a0_0 a0_1 a0_2 l0_3 = some r) ∧ Aside0 (kq ≤ k) ∧ Aside0 (Kd.S (Kd.slice 3 (Kd.int .i64)) 35 w' w.heap.size (fun _ => True) v3 x3_1) ∧ Aside0 (w'.heap[gb235]? = some (.cells #[.string a0_0, .int .i64 a0_1, .int .i64 a0_2, (.slice A0_3 l0_3.length c0_3)] 24 (0, 0))) ∧ Aside0 (Below w.heap.size w w'))
    case atStart => exact ⟨(y237), (0), qT, H', ⟨Nat.le_refl _⟩, ⟨qS HO239.out⟩, ⟨qK BK235.out⟩, ⟨qB⟩⟩
    case round =>
     clear H'
     obtain ⟨x3_1, x4_1, rfl, HA, HK1, HO_3, BK235, HB⟩ := hrel
     cases gk with
     | zero => exact absurd HA.out (by simp [cubbyref11_In.l0])
     | succ k1 =>
      have H := HA.out
      clear HA
      simp only [cubbyref11_In.l0] at H
      by_cases c12 : x4_1 ≤ (wrap64 ((wrap64 ((l0_3.length : Int) * a0_2)) + 1))
      ·rw [zC c12] at H
       have c12b0 := zF c12
       clear c12
       obtain ⟨y240, hy240⟩ : ∃ y_ : List (List Int), y_ = (([] : List (List Int))) := ⟨_, rfl⟩
       replace H : (cubbyref11_In.l1 k1 x3_1 x4_1 y240 true 0 a0_0 a0_1 a0_2 l0_3) = some r := by (try rw [hy240]); first | with_reducible exact H | exact (zJ _ _).symm.trans H | exact H
       have Ny240 := zA hy240
       clear hy240
       have H' := zA H
       clear H
       have z13_0 := bk4 BK235.out
       go_wp2_with (first | ((with_reducible refine gate_dst (N := 27) rfl ?_); (try (refine gate_guard (by rfl) ?_; dsimp only)); refine Kd.S_lit (Kd.slice 3 (Kd.int .i64)) _ 35 (by rfl) (N := 27) (by rfl) (xs := ([] : List (List Int))) (inner := []) (ok := fun _ => True) (okp := fun _ => True) ?hr ?hp (fun _ hk => hk) trivial (Below.refl _ _) (Nat.le_refl _) (by simp) ?_; (case hr => go_simp <;> rfl); (case hp => exact (Reps.none _ _)); intro v241 w14 ho15 hb hg_ hnew_; clear hg_ hnew_; (first | rw [← Ny240.out] at ho15 | (simp only [Int.reduceToNat] at ho15; rw [← Ny240.out] at ho15)); have HO242 := zA (Kd.S_lower (Kd.S_new' ho15 (Kd.S_lt (qS HO_3.out))) (below_size qB)); replace HO_3 := zA (Kd.S_elder' (qS HO_3.out) (Kd.S_base ho15) hb); replace BK235 := qW BK235 hb; replace HB := qH hb; clear hb ho15))
       go_loopg [5, 6, 7] k1 (fun kq v5 v6 v7 w' => ∃ (x5_2 : List (List Int)) (x6_2 : Bool) (x7_2 : Int), v6 = .bool x6_2 ∧ v7 = .int .i64 x7_2 ∧ Aside0 (cubbyref11_In.l1 kq x3_1 x4_1 x5_2 x6_2 x7_2 a0_0 a0_1 a0_2 l0_3 = some r) ∧ Aside0 (kq ≤ k1) ∧ Aside0 (Kd.S (Kd.slice 3 (Kd.int .i64)) 35 w' w.heap.size (fun k_ => some k_ ≠ (v5 : Value).ownBlock) u3 x3_1) ∧ Aside0 (Kd.S (Kd.slice 3 (Kd.int .i64)) 35 w' w.heap.size (fun k_ => some k_ ≠ (u3 : Value).ownBlock) v5 x5_2) ∧ Aside0 (w'.heap[gb235]? = some (.cells #[.string a0_0, .int .i64 a0_1, .int .i64 a0_2, (.slice A0_3 l0_3.length c0_3)] 24 (0, 0))) ∧ Aside0 (Below w.heap.size w w'))
       case atStart => exact ⟨(y240), (true), (0), qT, qT, H', ⟨Nat.le_refl _⟩, ⟨by (with_reducible repeat (first | apply Kd.S_alloc | apply Kd.S_drewN | apply Kd.S_drew)); exact Kd.S_mono HO_3.out (fun _ hk => hk.2)⟩, ⟨by (with_reducible repeat (first | apply Kd.S_alloc | apply Kd.S_drewN | apply Kd.S_drew)); exact Kd.S_mono HO242.out (fun _ hk => hk.2)⟩, ⟨qK BK235.out⟩, ⟨qB⟩⟩
       case round =>
        clear H'
        obtain ⟨x5_2, x6_2, x7_2, rfl, rfl, HA, HK2, HO_3, HO_5, BK235, HB⟩ := hrel
        cases gk with
        | zero => exact absurd HA.out (by simp [cubbyref11_In.l1])
        | succ k2 =>
         have H := HA.out
         clear HA
         simp only [cubbyref11_In.l1] at H
         by_cases c16 : x7_2 < (l0_3.length : Int)
         ·rw [zC c16] at H
          have c16b0 := zF c16
          clear c16
          replace H := qb H; obtain ⟨t243, A17, H⟩ := H
          by_cases c18 : x6_2 = true
          ·subst c18
           have H1 : (if 0 ≤ x7_2 then (if x7_2 < (x3_1.length : Int) then (if x5_2.length < 5864062014805 then (cubbyref11_In.l1 k2 x3_1 x4_1 (x5_2 ++ [t243]) ((t243.length : Int) == ((rd_LInt x3_1 x7_2).length : Int)) (wrap64 (x7_2 + 1)) a0_0 a0_1 a0_2 l0_3) else (none)) else (none)) else (none)) = some r := by rw [zC rfl] at H; exact H
           clear H
           have H := H1
           clear H1
           by_cases c19 : 0 ≤ x7_2
           ·rw [zC c19] at H
            have c19b0 := zF c19
            clear c19
            by_cases c20 : x7_2 < (x3_1.length : Int)
            ·rw [zC c20] at H
             have c20b0 := zF c20
             clear c20
             by_cases c21 : x5_2.length < 5864062014805
             ·rw [zC c21] at H
              have LMc21 := zA c21
              clear c21
              obtain ⟨y247, hy247⟩ : ∃ y_ : List (List Int), y_ = (x5_2 ++ [t243]) := ⟨_, rfl⟩
              replace H : (cubbyref11_In.l1 k2 x3_1 x4_1 y247 ((t243.length : Int) == ((rd_LInt x3_1 x7_2).length : Int)) (wrap64 (x7_2 + 1)) a0_0 a0_1 a0_2 l0_3) = some r := by (try rw [hy247]); first | with_reducible exact H | exact (zJ _ _).symm.trans H | exact H
              have Ny247 := zA hy247
              clear hy247
              have H' := zA H
              clear H
              have z22_0 := bk4 BK235.out
              obtain ⟨Ao23, co23, eo23⟩ := Kd.S_slice HO_3.out
              subst eo23
              go_wp2_with (first | ((with_reducible refine gate_callee (f := 49) rfl ?_); refine goesL_ (some 38) rfl rfl Tryd.func49 (by kernel_rfl) rfl #[.agg #[.string a0_0, .int .i64 a0_1, .int .i64 a0_2, .slice A0_3 l0_3.length c0_3], .slice Ao23 x3_1.length co23, .int .i64 x7_2, .int .i64 0] rfl qL ?_; (with_reducible refine (cubbyref11_ahead.calls k2 a0_0 a0_1 a0_2 _ _ l0_3 _ _ x3_1 x7_2 0 t243 _ ?side1 ?side2 ?side3 ?side4 A17.out).mono ?_); (case side1 => exact qCB HR0_3.out); (case side2 => exact HC0_3.out); (case side3 => repeat (first | exact (Kd.S_reads' HO_3.out).2.2 | (with_reducible refine Kd.C_alloc ?_ _) | (with_reducible refine Kd.C_drewN ?_ _) | (with_reducible refine Kd.C_drew ?_))); (case side4 => exact (Kd.S_reads' HO_3.out).2.1); rintro e w24 ⟨v244, rfl, ho0, hb⟩; refine ⟨_, rfl, ?_⟩; replace HO_3 := zA (Kd.S_elder' (qS HO_3.out) (Kd.R_base ho0) hb); replace HO_5 := zA (Kd.S_elder' (qS HO_5.out) (Kd.R_base ho0) hb); have HO245 := zA (Kd.R_lower ho0 (below_size qB)); replace BK235 := qW BK235 hb; replace HB := qH hb; (try clear hb); (try clear ho0); obtain ⟨Ao25, co25, eo25⟩ := Kd.R_slice HO245.out; subst eo25; have p246 : 0 ≤ (x7_2 : Int) := zB qA; have q246 : x7_2 < (x3_1.length : Int) := zB qA; obtain ⟨ad246, A246_0, c246_0, e246, hx246_0, hl246_0, hi246_0⟩ := at_LInt (Kd.S_reads' HO_3.out).2.2 x7_2 p246 q246; cases e246; obtain ⟨ce246, hce246, hMe246, hcc246⟩ := Kd.S_get HO_3.out [] x7_2 p246 (by first | exact q246 | exact zB qA | (have e_ := (Kd.S_reads' HO_3.out).1; omega)); obtain ⟨ve246_0, rfl, ge246_0⟩ := hMe246; have hv246_0 := hcc246 0 _ rfl; rw [Nat.add_zero, show ((Kd.slice 3 (Kd.int .i64))).sz = 1 from rfl, Nat.mul_one] at hv246_0; replace hv246_0 := zI (hv246_0.symm.trans hx246_0); rw [hv246_0] at ge246_0; have HL246_0 := zA (show Kd.R (Kd.int .i64) 3 _ _ _ _ (rd_LInt x3_1 x7_2) from ge246_0); clear hv246_0 ge246_0; clear hcc246 hce246; have HR246_0 := zA hi246_0; have HC246_0 := zA hl246_0; clear hi246_0 hl246_0; replace p246 := eq_true p246; replace q246 := eq_true q246) | ((with_reducible refine gate_builtin (b := .append) (xs := #[.tmp 50, .tmp 52]) rfl ?_); (try (refine gate_guard (by rfl) ?_; dsimp only)); at_builtin; refine Kd.S_append (Kd.slice 3 (Kd.int .i64)) (w0 := w) w.heap.size rfl (.tmp 50) (.tmp 52) 30 35 (.slice none 0 0) 24 rfl Tryd.underlying30 info35 rfl (by decide) (by omega) u5 x5_2 t243 [.slice Ao25 t243.length co25] (fun k_ => some k_ ≠ (.slice (some ad246) x3_1.length co23 : Value).ownBlock) (fun k_ => some k_ = (.slice Ao25 t243.length co25 : Value).ownBlock) rfl rfl ?aP (fun k_ hk_ => ((Kd.R_mono (ok' := fun k_ => ((fun k_ => some k_ ≠ (.slice (some ad246) x3_1.length co23 : Value).ownBlock)) k_ ∧ some k_ ≠ (u5 : Value).ownBlock) (Kd.R_apart' (Kd.R_apart' (HO245.out) (Kd.S_typed HO_3.out) (by decide)) (Kd.S_typed HO_5.out) (by decide)) (fun k_ hk => ⟨hk.1.2, hk.2⟩))).1 k_ hk_.symm) ?aF ?aO ?aB ?aS ?aL ?_; (case aP => exact Kd.M_row (Kd.R_mono (Kd.R_tight rfl (Kd.R_mono (ok' := fun k_ => ((fun k_ => some k_ ≠ (.slice (some ad246) x3_1.length co23 : Value).ownBlock)) k_ ∧ some k_ ≠ (u5 : Value).ownBlock) (Kd.R_apart' (Kd.R_apart' (HO245.out) (Kd.S_typed HO_3.out) (by decide)) (Kd.S_typed HO_5.out) (by decide)) (fun k_ hk => ⟨hk.1.2, hk.2⟩))) (fun _ h_ => h_))); (case aB => exact qB); (case aF => exact (fun k_ hk => Kd.fresh' (Kd.S_lt (qS HO_3.out)) k_ hk)); (case aO => exact (by (with_reducible repeat (first | apply Kd.S_alloc | apply Kd.S_drewN | apply Kd.S_drew)); exact Kd.S_mono HO_5.out (fun k_ hk => ⟨hk.1, fun e_ => hk.2 e_⟩))); (case aS => exact (below_size qB)); (case aL => have := LMc21.out; omega); intro v248 w26 ho hb hg hat; rw [← Ny247.out] at ho; replace HO_3 := zA (Kd.S_after (ok := (fun k_ => some k_ ≠ (.slice Ao25 t243.length co25 : Value).ownBlock)) (by (with_reducible repeat (first | apply Kd.S_alloc | apply Kd.S_drewN | apply Kd.S_drew)); exact Kd.S_mono HO_3.out (fun _ hk => ⟨hk.2, hk.1⟩)) hg hat); replace BK235 := zA (blk_grown (qK BK235.out) hg (Kd.S_ne HO_5.out BK235.out (by decide))); replace HL246_0 := zA (Kd.R_after (ok := (fun k_ => some k_ ≠ (.slice (some ad246) x3_1.length co23 : Value).ownBlock ∧ some k_ ≠ (.slice Ao25 t243.length co25 : Value).ownBlock)) (by (with_reducible repeat (first | apply Kd.R_alloc | apply Kd.R_drewN | apply Kd.R_drew)); exact Kd.R_mono HL246_0.out (fun _ hk => ⟨⟨hk.2, hk.1.2⟩, hk.1.1⟩)) hg hat); replace HB := zA (hb); have HO249 := zA (ho); clear HO_5 HO245; clear ho hb hg hat))
              go_roundg k2
              case measure => have := HK1.out; have := HK2.out; omega
              case rel => exact ⟨(y247), (((t243.length : Int) == ((rd_LInt x3_1 x7_2).length : Int))), (wrap64 (x7_2 + 1)), qT, qT, H', ⟨by have := HK1.out; have := HK2.out; omega⟩, ⟨by (with_reducible repeat (first | apply Kd.S_alloc | apply Kd.S_drewN | apply Kd.S_drew)); exact Kd.S_mono HO_3.out (fun _ hk => hk.2)⟩, ⟨qS HO249.out⟩, ⟨qK BK235.out⟩, ⟨qB⟩⟩
             ·rw [zD c21] at H
              exact absurd H (by simp)
            ·rw [zD c20] at H
             exact absurd H (by simp)
           ·rw [zD c19] at H
            exact absurd H (by simp)
          ·replace c18 := Bool.eq_false_iff.mpr c18
           subst c18
           have H1 : (if x5_2.length < 5864062014805 then (cubbyref11_In.l1 k2 x3_1 x4_1 (x5_2 ++ [t243]) false (wrap64 (x7_2 + 1)) a0_0 a0_1 a0_2 l0_3) else (none)) = some r := by rw [zD (show ¬ (false = true) by decide)] at H; exact H
           clear H
           have H := H1
           clear H1
           by_cases c27 : x5_2.length < 5864062014805
           ·rw [zC c27] at H
            have LMc27 := zA c27
            clear c27
            obtain ⟨y250, hy250⟩ : ∃ y_ : List (List Int), y_ = (x5_2 ++ [t243]) := ⟨_, rfl⟩
            replace H : (cubbyref11_In.l1 k2 x3_1 x4_1 y250 false (wrap64 (x7_2 + 1)) a0_0 a0_1 a0_2 l0_3) = some r := by (try rw [hy250]); first | with_reducible exact H | exact (zJ _ _).symm.trans H | exact H
            have Ny250 := zA hy250
            clear hy250
            have H' := zA H
            clear H
            have z28_0 := bk4 BK235.out
            obtain ⟨Ao29, co29, eo29⟩ := Kd.S_slice HO_3.out
            subst eo29
            go_wp2_with (first | ((with_reducible refine gate_callee (f := 49) rfl ?_); refine goesL_ (some 38) rfl rfl Tryd.func49 (by kernel_rfl) rfl #[.agg #[.string a0_0, .int .i64 a0_1, .int .i64 a0_2, .slice A0_3 l0_3.length c0_3], .slice Ao29 x3_1.length co29, .int .i64 x7_2, .int .i64 0] rfl qL ?_; (with_reducible refine (cubbyref11_ahead.calls k2 a0_0 a0_1 a0_2 _ _ l0_3 _ _ x3_1 x7_2 0 t243 _ ?side1 ?side2 ?side3 ?side4 A17.out).mono ?_); (case side1 => exact qCB HR0_3.out); (case side2 => exact HC0_3.out); (case side3 => repeat (first | exact (Kd.S_reads' HO_3.out).2.2 | (with_reducible refine Kd.C_alloc ?_ _) | (with_reducible refine Kd.C_drewN ?_ _) | (with_reducible refine Kd.C_drew ?_))); (case side4 => exact (Kd.S_reads' HO_3.out).2.1); rintro e w30 ⟨v244, rfl, ho0, hb⟩; refine ⟨_, rfl, ?_⟩; replace HO_3 := zA (Kd.S_elder' (qS HO_3.out) (Kd.R_base ho0) hb); replace HO_5 := zA (Kd.S_elder' (qS HO_5.out) (Kd.R_base ho0) hb); have HO245 := zA (Kd.R_lower ho0 (below_size qB)); replace BK235 := qW BK235 hb; replace HB := qH hb; (try clear hb); (try clear ho0); obtain ⟨Ao32, co32, eo32⟩ := Kd.R_slice HO245.out; subst eo32) | ((with_reducible refine gate_builtin (b := .append) (xs := #[.tmp 50, .tmp 52]) rfl ?_); (try (refine gate_guard (by rfl) ?_; dsimp only)); at_builtin; refine Kd.S_append (Kd.slice 3 (Kd.int .i64)) (w0 := w) w.heap.size rfl (.tmp 50) (.tmp 52) 30 35 (.slice none 0 0) 24 rfl Tryd.underlying30 info35 rfl (by decide) (by omega) u5 x5_2 t243 [.slice Ao32 t243.length co32] (fun k_ => some k_ ≠ (.slice Ao29 x3_1.length co29 : Value).ownBlock) (fun k_ => some k_ = (.slice Ao32 t243.length co32 : Value).ownBlock) rfl rfl ?aP (fun k_ hk_ => ((Kd.R_mono (ok' := fun k_ => ((fun k_ => some k_ ≠ (.slice Ao29 x3_1.length co29 : Value).ownBlock)) k_ ∧ some k_ ≠ (u5 : Value).ownBlock) (Kd.R_apart' (Kd.R_apart' (HO245.out) (Kd.S_typed HO_3.out) (by decide)) (Kd.S_typed HO_5.out) (by decide)) (fun k_ hk => ⟨hk.1.2, hk.2⟩))).1 k_ hk_.symm) ?aF ?aO ?aB ?aS ?aL ?_; (case aP => exact Kd.M_row (Kd.R_mono (Kd.R_tight rfl (Kd.R_mono (ok' := fun k_ => ((fun k_ => some k_ ≠ (.slice Ao29 x3_1.length co29 : Value).ownBlock)) k_ ∧ some k_ ≠ (u5 : Value).ownBlock) (Kd.R_apart' (Kd.R_apart' (HO245.out) (Kd.S_typed HO_3.out) (by decide)) (Kd.S_typed HO_5.out) (by decide)) (fun k_ hk => ⟨hk.1.2, hk.2⟩))) (fun _ h_ => h_))); (case aB => exact qB); (case aF => exact (fun k_ hk => Kd.fresh' (Kd.S_lt (qS HO_3.out)) k_ hk)); (case aO => exact (by (with_reducible repeat (first | apply Kd.S_alloc | apply Kd.S_drewN | apply Kd.S_drew)); exact Kd.S_mono HO_5.out (fun k_ hk => ⟨hk.1, fun e_ => hk.2 e_⟩))); (case aS => exact (below_size qB)); (case aL => have := LMc27.out; omega); intro v251 w31 ho hb hg hat; rw [← Ny250.out] at ho; replace HO_3 := zA (Kd.S_after (ok := (fun k_ => some k_ ≠ (.slice Ao32 t243.length co32 : Value).ownBlock)) (by (with_reducible repeat (first | apply Kd.S_alloc | apply Kd.S_drewN | apply Kd.S_drew)); exact Kd.S_mono HO_3.out (fun _ hk => ⟨hk.2, hk.1⟩)) hg hat); replace BK235 := zA (blk_grown (qK BK235.out) hg (Kd.S_ne HO_5.out BK235.out (by decide))); replace HB := zA (hb); have HO252 := zA (ho); clear HO_5 HO245; clear ho hb hg hat))
            go_roundg k2
            case measure => have := HK1.out; have := HK2.out; omega
            case rel => exact ⟨(y250), (false), (wrap64 (x7_2 + 1)), qT, qT, H', ⟨by have := HK1.out; have := HK2.out; omega⟩, ⟨by (with_reducible repeat (first | apply Kd.S_alloc | apply Kd.S_drewN | apply Kd.S_drew)); exact Kd.S_mono HO_3.out (fun _ hk => hk.2)⟩, ⟨qS HO252.out⟩, ⟨qK BK235.out⟩, ⟨qB⟩⟩
           ·rw [zD c27] at H
            exact absurd H (by simp)
         ·rw [zD c16] at H
          have c16b0 := zG c16
          clear c16
          by_cases c33 : x6_2 = true
          ·subst c33
           have H1 : (some x5_2) = some r := by rw [zC rfl] at H; exact H
           clear H
           have H := H1
           clear H1
           obtain rfl := zI H
           have z34_0 := bk4 BK235.out
           go_wp2
           go_ret
           exact ⟨_, qE, by (with_reducible repeat (first | apply Kd.S_alloc | apply Kd.S_drewN | apply Kd.S_drew)); exact Kd.S_mono HO_5.out (fun _ hk => trivial), qB⟩
          ·replace c33 := Bool.eq_false_iff.mpr c33
           subst c33
           have H1 : (cubbyref11_In.l0 k2 x5_2 (wrap64 (x4_1 + 1)) a0_0 a0_1 a0_2 l0_3) = some r := by rw [zD (show ¬ (false = true) by decide)] at H; exact H
           clear H
           have H := H1
           clear H1
           have H' := zA H
           clear H
           have z35_0 := bk4 BK235.out
           go_wp2
           go_roundg k2
           case measure => have := HK1.out; have := HK2.out; omega
           case rel => exact ⟨(x5_2), (wrap64 (x4_1 + 1)), qT, H', ⟨by have := HK1.out; have := HK2.out; omega⟩, ⟨by (with_reducible repeat (first | apply Kd.S_alloc | apply Kd.S_drewN | apply Kd.S_drew)); exact Kd.S_mono HO_5.out (fun _ hk => trivial)⟩, ⟨qK BK235.out⟩, ⟨qB⟩⟩
      ·rw [zD c12] at H
       have c12b0 := zG c12
       clear c12
       obtain rfl := zI H
       have z36_0 := bk4 BK235.out
       go_wp2
       go_ret
       exact ⟨_, qE, qS HO_3.out, qB⟩
   ·rw [zD c5] at H
    exact absurd H (by simp)
  ·rw [zD c4] at H
   exact absurd H (by simp)
 ·rw [zD c3] at H
  obtain ⟨c3b0, c3b1⟩ := qn c3
  obtain rfl := zI H
  go_enter Tryd.func50, Tryd.ntmps50
  go_wp2_with (first | ((with_reducible refine gate_dst (N := 1) rfl ?_); (try (refine gate_guard (by rfl) ?_; dsimp only)); refine box_event (by rfl) (N := 1) (by rfl) (cs := #[.string a0_0, .int .i64 a0_1, .int .i64 a0_2, .slice A0_3 l0_3.length c0_3]) (t := 24) ?hr ?_; (case hr => go_simp <;> rfl); intro gb235 hg w37 hbox hb; have BK235 := zA (hbox); have GW235 := qG hg; have GE235 := GW235; replace HB := qH hb; clear hb hbox hg; have z38_0 := bk4 BK235.out) | ((with_reducible refine gate_callee (f := 48) rfl ?_); refine goesL_ (some 10) rfl rfl Tryd.func48 (by kernel_rfl) rfl #[.agg #[.string a0_0, .int .i64 a0_1, .int .i64 a0_2, .slice A0_3 l0_3.length c0_3]] rfl qL ?_; (with_reducible refine (cubbyref07_Check.calls k a0_0 a0_1 a0_2 _ _ l0_3 t236 _ ?side1 ?side2 A2.out).mono ?_); (case side1 => exact qCB HR0_3.out); (case side2 => exact HC0_3.out); rintro e w39 ⟨rfl, hb⟩; refine ⟨_, rfl, ?_⟩; replace BK235 := qW BK235 hb; replace HB := qH hb; (try clear hb)))
  go_ret
  exact ⟨_, qE, by first | exact Kd.S_nil _ _ _ _ _ | exact Kd.N_nil _ _ _ _ _ | exact Kd.V_nil _ _ _ _ _ | exact Kd.Q_nil _ _ _ _ _ | exact Kd.R_nil _ _ _ _ _, qB⟩

def cubbyref11_Check.l0 : Nat → List Int → Int → ByteArray → Int → Int → List (List (SIns)) → Option (Int)
 | 0, _, _, _, _, _, _ => none
 | k + 1, x4, x5, x254000, x254001, x254002, x254003 => if x5 < (x4.length : Int) then (if 0 ≤ x5 then (if (rd x4 x5) ≥ x254001 then (some 110) else (cubbyref11_Check.l0 k x4 (wrap64 (x5 + 1)) x254000 x254001 x254002 x254003)) else (none)) else (some 0)
def cubbyref11_Check.f (k : Nat) (a0_0 : ByteArray) (a0_1 : Int) (a0_2 : Int) (l0_3 : List (List (SIns))) : Option (Int) := (cubbyref07_Check.f k a0_0 a0_1 a0_2 l0_3).bind fun t254 => (if t254 = 0 then ((cubbyref11_In.f k a0_0 a0_1 a0_2 l0_3).bind fun t255 => (if 0 < (t255.length : Int) then (cubbyref11_Check.l0 k (rd_LInt t255 0) 0 a0_0 a0_1 a0_2 l0_3) else (none))) else (some t254))
set_option maxHeartbeats 8000000 in
set_option maxRecDepth 100000 in
theorem cubbyref11_Check.calls (k : Nat) (a0_0 : ByteArray) (a0_1 : Int) (a0_2 : Int) (A0_3 : Option Addr) (c0_3 : Nat) (l0_3 : List (List (SIns))) (r : Int) (w : World) (hr0_3 : Kd.C (Kd.slice 38 kIns) w A0_3 l0_3.length l0_3) (hc0_3 : l0_3.length ≤ c0_3) (h : cubbyref11_Check.f k a0_0 a0_1 a0_2 l0_3 = some r) :
 Calls Tryd.prog 38 #[.agg #[.string a0_0, .int .i64 a0_1, .int .i64 a0_2, .slice A0_3 l0_3.length c0_3]] w fun e w' => e = .returned (.int .i64 r) ∧ Below w.heap.size w w' := by
 have hu24 := Tryd.underlying24
 have HR0_3 := zA hr0_3
 have HC0_3 := zA hc0_3
 clear hr0_3 hc0_3
 have HB := zA (Below.refl w.heap.size w)
 have H := h; clear h; unfold cubbyref11_Check.f at H
 replace H := qb H; obtain ⟨t254, A2, H⟩ := H
 by_cases c3 : t254 = 0
 ·rw [zC c3] at H
  obtain ⟨c3b0, c3b1⟩ := qe c3; clear c3
  replace H := qb H; obtain ⟨t255, A4, H⟩ := H
  by_cases c5 : 0 < (t255.length : Int)
  ·rw [zC c5] at H
   have c5b0 := zF c5
   have c5b1 : decide (0 < t255.length) = true := zF (by omega)
   clear c5
   have H' := zA H
   clear H
   go_enter Tryd.func38, Tryd.ntmps38
   go_wp2_with (first | ((with_reducible refine gate_dst (N := 1) rfl ?_); refine box_event (by rfl) (N := 1) (by rfl) (cs := #[.string a0_0, .int .i64 a0_1, .int .i64 a0_2, .slice A0_3 l0_3.length c0_3]) (t := 24) ?hr ?_; (case hr => go_simp <;> rfl); intro gb253 hg w6 hbox hb; have BK253 := zA (hbox); have GW253 := qG hg; have GE253 := GW253; replace HB := qH hb; clear hb hbox hg; have z7_0 := bk4 BK253.out) | (go_at_call 48; (with_reducible refine (cubbyref07_Check.calls k a0_0 a0_1 a0_2 _ _ l0_3 t254 _ ?side1 ?side2 A2.out).mono ?_); (case side1 => exact qCB HR0_3.out); (case side2 => exact HC0_3.out); rintro e w8 ⟨rfl, hb⟩; replace BK253 := qW BK253 hb; replace HB := qH hb; (try clear hb); have z9_0 := bk4 BK253.out) | (go_at_call 50; (with_reducible refine (cubbyref11_In.calls k a0_0 a0_1 a0_2 _ _ l0_3 t255 _ ?side1 ?side2 A4.out).mono ?_); (case side1 => exact qCB HR0_3.out); (case side2 => exact HC0_3.out); rintro e w10 ⟨v256, rfl, ho0, hb⟩; have HO257 := zA (Kd.S_lower ho0 (below_size qB)); replace BK253 := qW BK253 hb; replace HB := qH hb; (try clear hb); (try clear ho0); obtain ⟨Ao11, co11, eo11⟩ := Kd.S_slice HO257.out; subst eo11; have p258 : 0 ≤ (0 : Int) := (by omega); have q258 : 0 < (t255.length : Int) := zB qA; obtain ⟨ad258, A258_0, c258_0, e258, hx258_0, hl258_0, hi258_0⟩ := at_LInt (Kd.S_reads' HO257.out).2.2 0 p258 q258; cases e258; obtain ⟨ce258, hce258, hMe258, hcc258⟩ := Kd.S_get HO257.out [] 0 p258 (by first | exact q258 | exact zB qA | (have e_ := (Kd.S_reads' HO257.out).1; omega)); obtain ⟨ve258_0, rfl, ge258_0⟩ := hMe258; have hv258_0 := hcc258 0 _ rfl; rw [Nat.add_zero, show ((Kd.slice 3 (Kd.int .i64))).sz = 1 from rfl, Nat.mul_one] at hv258_0; replace hv258_0 := zI (hv258_0.symm.trans hx258_0); rw [hv258_0] at ge258_0; have HL258_0 := zA (show Kd.R (Kd.int .i64) 3 _ _ _ _ (rd_LInt t255 0) from ge258_0); clear hv258_0 ge258_0; clear hcc258 hce258; have qi258 : (0 < t255.length) = True := eq_true (by omega); (try rw [show ((0 : Int)).toNat = 0 from rfl] at hx258_0); (try rw [Addr.add_zero'] at hx258_0); have HR258_0 := zA hi258_0; have HC258_0 := zA hl258_0; clear hi258_0 hl258_0; replace p258 := eq_true p258; replace q258 := eq_true q258))
   repeat (go_quiet (first | ((with_reducible refine gate_dst (N := 1) rfl ?_); refine box_event (by rfl) (N := 1) (by rfl) (cs := #[.string a0_0, .int .i64 a0_1, .int .i64 a0_2, .slice A0_3 l0_3.length c0_3]) (t := 24) ?hr ?_; (case hr => go_simp <;> rfl); intro gb253 hg w6 hbox hb; have BK253 := zA (hbox); have GW253 := qG hg; have GE253 := GW253; replace HB := qH hb; clear hb hbox hg; have z7_0 := bk4 BK253.out) | (go_at_call 48; (with_reducible refine (cubbyref07_Check.calls k a0_0 a0_1 a0_2 _ _ l0_3 t254 _ ?side1 ?side2 A2.out).mono ?_); (case side1 => exact qCB HR0_3.out); (case side2 => exact HC0_3.out); rintro e w8 ⟨rfl, hb⟩; replace BK253 := qW BK253 hb; replace HB := qH hb; (try clear hb); have z9_0 := bk4 BK253.out) | (go_at_call 50; (with_reducible refine (cubbyref11_In.calls k a0_0 a0_1 a0_2 _ _ l0_3 t255 _ ?side1 ?side2 A4.out).mono ?_); (case side1 => exact qCB HR0_3.out); (case side2 => exact HC0_3.out); rintro e w10 ⟨v256, rfl, ho0, hb⟩; have HO257 := zA (Kd.S_lower ho0 (below_size qB)); replace BK253 := qW BK253 hb; replace HB := qH hb; (try clear hb); (try clear ho0); obtain ⟨Ao11, co11, eo11⟩ := Kd.S_slice HO257.out; subst eo11; have p258 : 0 ≤ (0 : Int) := (by omega); have q258 : 0 < (t255.length : Int) := zB qA; obtain ⟨ad258, A258_0, c258_0, e258, hx258_0, hl258_0, hi258_0⟩ := at_LInt (Kd.S_reads' HO257.out).2.2 0 p258 q258; cases e258; obtain ⟨ce258, hce258, hMe258, hcc258⟩ := Kd.S_get HO257.out [] 0 p258 (by first | exact q258 | exact zB qA | (have e_ := (Kd.S_reads' HO257.out).1; omega)); obtain ⟨ve258_0, rfl, ge258_0⟩ := hMe258; have hv258_0 := hcc258 0 _ rfl; rw [Nat.add_zero, show ((Kd.slice 3 (Kd.int .i64))).sz = 1 from rfl, Nat.mul_one] at hv258_0; replace hv258_0 := zI (hv258_0.symm.trans hx258_0); rw [hv258_0] at ge258_0; have HL258_0 := zA (show Kd.R (Kd.int .i64) 3 _ _ _ _ (rd_LInt t255 0) from ge258_0); clear hv258_0 ge258_0; clear hcc258 hce258; have qi258 : (0 < t255.length) = True := eq_true (by omega); (try rw [show ((0 : Int)).toNat = 0 from rfl] at hx258_0); (try rw [Addr.add_zero'] at hx258_0); have HR258_0 := zA hi258_0; have HC258_0 := zA hl258_0; clear hi258_0 hl258_0; replace p258 := eq_true p258; replace q258 := eq_true q258)); try go_wp2_with (first | ((with_reducible refine gate_dst (N := 1) rfl ?_); refine box_event (by rfl) (N := 1) (by rfl) (cs := #[.string a0_0, .int .i64 a0_1, .int .i64 a0_2, .slice A0_3 l0_3.length c0_3]) (t := 24) ?hr ?_; (case hr => go_simp <;> rfl); intro gb253 hg w6 hbox hb; have BK253 := zA (hbox); have GW253 := qG hg; have GE253 := GW253; replace HB := qH hb; clear hb hbox hg; have z7_0 := bk4 BK253.out) | (go_at_call 48; (with_reducible refine (cubbyref07_Check.calls k a0_0 a0_1 a0_2 _ _ l0_3 t254 _ ?side1 ?side2 A2.out).mono ?_); (case side1 => exact qCB HR0_3.out); (case side2 => exact HC0_3.out); rintro e w8 ⟨rfl, hb⟩; replace BK253 := qW BK253 hb; replace HB := qH hb; (try clear hb); have z9_0 := bk4 BK253.out) | (go_at_call 50; (with_reducible refine (cubbyref11_In.calls k a0_0 a0_1 a0_2 _ _ l0_3 t255 _ ?side1 ?side2 A4.out).mono ?_); (case side1 => exact qCB HR0_3.out); (case side2 => exact HC0_3.out); rintro e w10 ⟨v256, rfl, ho0, hb⟩; have HO257 := zA (Kd.S_lower ho0 (below_size qB)); replace BK253 := qW BK253 hb; replace HB := qH hb; (try clear hb); (try clear ho0); obtain ⟨Ao11, co11, eo11⟩ := Kd.S_slice HO257.out; subst eo11; have p258 : 0 ≤ (0 : Int) := (by omega); have q258 : 0 < (t255.length : Int) := zB qA; obtain ⟨ad258, A258_0, c258_0, e258, hx258_0, hl258_0, hi258_0⟩ := at_LInt (Kd.S_reads' HO257.out).2.2 0 p258 q258; cases e258; obtain ⟨ce258, hce258, hMe258, hcc258⟩ := Kd.S_get HO257.out [] 0 p258 (by first | exact q258 | exact zB qA | (have e_ := (Kd.S_reads' HO257.out).1; omega)); obtain ⟨ve258_0, rfl, ge258_0⟩ := hMe258; have hv258_0 := hcc258 0 _ rfl; rw [Nat.add_zero, show ((Kd.slice 3 (Kd.int .i64))).sz = 1 from rfl, Nat.mul_one] at hv258_0; replace hv258_0 := zI (hv258_0.symm.trans hx258_0); rw [hv258_0] at ge258_0; have HL258_0 := zA (show Kd.R (Kd.int .i64) 3 _ _ _ _ (rd_LInt t255 0) from ge258_0); clear hv258_0 ge258_0; clear hcc258 hce258; have qi258 : (0 < t255.length) = True := eq_true (by omega); (try rw [show ((0 : Int)).toNat = 0 from rfl] at hx258_0); (try rw [Addr.add_zero'] at hx258_0); have HR258_0 := zA hi258_0; have HC258_0 := zA hl258_0; clear hi258_0 hl258_0; replace p258 := eq_true p258; replace q258 := eq_true q258)))
   go_loopg [5] k (fun kq v5 w' => ∃ (x5_1 : Int), v5 = .int .i64 x5_1 ∧ Aside0 (cubbyref11_Check.l0 kq (rd_LInt t255 0) x5_1 a0_0 a0_1 a0_2 l0_3 = some r) ∧ Aside0 (kq ≤ k) ∧ Aside0 (w'.heap[gb253]? = some (.cells #[.string a0_0, .int .i64 a0_1, .int .i64 a0_2, (.slice A0_3 l0_3.length c0_3)] 24 (0, 0))) ∧ Aside0 (Kd.C (Kd.int .i64) w' A258_0 (rd_LInt t255 0).length (rd_LInt t255 0)) ∧ Aside0 (Below w.heap.size w w'))
   case atStart => exact ⟨(0), qT, H', ⟨Nat.le_refl _⟩, ⟨qK BK253.out⟩, ⟨by repeat (first | (with_reducible exact HR258_0.out) | (with_reducible refine Kd.C_alloc ?_ _) | (with_reducible refine Kd.C_drewN ?_ _) | (with_reducible refine Kd.C_drew ?_) | exact HR258_0.out)⟩, ⟨qB⟩⟩
   case round =>
    clear H'
    obtain ⟨x5_1, rfl, HA, HK1, BK253, HR258_0, HB⟩ := hrel
    cases gk with
    | zero => exact absurd HA.out (by simp [cubbyref11_Check.l0])
    | succ k1 =>
     have H := HA.out
     clear HA
     simp only [cubbyref11_Check.l0] at H
     by_cases c12 : x5_1 < ((rd_LInt t255 0).length : Int)
     ·rw [zC c12] at H
      have c12b0 := zF c12
      clear c12
      by_cases c13 : 0 ≤ x5_1
      ·rw [zC c13] at H
       have c13b0 := zF c13
       clear c13
       by_cases c14 : (rd (rd_LInt t255 0) x5_1) ≥ a0_1
       ·rw [zC c14] at H
        have c14b0 : decide (a0_1 ≤ (rd (rd_LInt t255 0) x5_1)) = true := zF c14
        clear c14
        obtain rfl := zI H
        have p259 : 0 ≤ (x5_1 : Int) := zB qA
        have q259 : x5_1 < ((rd_LInt t255 0).length : Int) := zB qA
        obtain ⟨ad259, e259, hx259_0⟩ := Kd.at_int HR258_0.out x5_1 p259 q259
        cases e259
        (try replace hx259_0 := (HB.out.cell (zE w _ hx259_0)).trans hx259_0)
        replace p259 := eq_true p259
        replace q259 := eq_true q259
        have z15_0 := bk4 BK253.out
        go_wp2
        repeat (go_quiet (fail); try go_wp2)
        go_ret
        exact ⟨qE, qB⟩
       ·rw [zD c14] at H
        have c14b0 : decide (a0_1 ≤ (rd (rd_LInt t255 0) x5_1)) = false := zG c14
        clear c14
        have H' := zA H
        clear H
        have p259 : 0 ≤ (x5_1 : Int) := zB qA
        have q259 : x5_1 < ((rd_LInt t255 0).length : Int) := zB qA
        obtain ⟨ad259, e259, hx259_0⟩ := Kd.at_int HR258_0.out x5_1 p259 q259
        cases e259
        (try replace hx259_0 := (HB.out.cell (zE w _ hx259_0)).trans hx259_0)
        replace p259 := eq_true p259
        replace q259 := eq_true q259
        have z16_0 := bk4 BK253.out
        go_wp2
        repeat (go_quiet (fail); try go_wp2)
        go_roundg k1
        case measure => have := HK1.out; omega
        case rel => exact ⟨(wrap64 (x5_1 + 1)), qT, H', ⟨by have := HK1.out; omega⟩, ⟨qK BK253.out⟩, ⟨by repeat (first | (with_reducible exact HR258_0.out) | (with_reducible refine Kd.C_alloc ?_ _) | (with_reducible refine Kd.C_drewN ?_ _) | (with_reducible refine Kd.C_drew ?_) | exact HR258_0.out)⟩, ⟨qB⟩⟩
      ·rw [zD c13] at H
       exact absurd H (by simp)
     ·rw [zD c12] at H
      have c12b0 := zG c12
      clear c12
      obtain rfl := zI H
      go_wp2
      repeat (go_quiet (fail); try go_wp2)
      go_ret
      exact ⟨qE, qB⟩
  ·rw [zD c5] at H
   exact absurd H (by simp)
 ·rw [zD c3] at H
  obtain ⟨c3b0, c3b1⟩ := qn c3
  obtain rfl := zI H
  go_enter Tryd.func38, Tryd.ntmps38
  go_wp2_with (first | ((with_reducible refine gate_dst (N := 1) rfl ?_); refine box_event (by rfl) (N := 1) (by rfl) (cs := #[.string a0_0, .int .i64 a0_1, .int .i64 a0_2, .slice A0_3 l0_3.length c0_3]) (t := 24) ?hr ?_; (case hr => go_simp <;> rfl); intro gb253 hg w17 hbox hb; have BK253 := zA (hbox); have GW253 := qG hg; have GE253 := GW253; replace HB := qH hb; clear hb hbox hg; have z18_0 := bk4 BK253.out) | (go_at_call 48; (with_reducible refine (cubbyref07_Check.calls k a0_0 a0_1 a0_2 _ _ l0_3 t254 _ ?side1 ?side2 A2.out).mono ?_); (case side1 => exact qCB HR0_3.out); (case side2 => exact HC0_3.out); rintro e w19 ⟨rfl, hb⟩; replace BK253 := qW BK253 hb; replace HB := qH hb; (try clear hb)))
  repeat (go_quiet (first | ((with_reducible refine gate_dst (N := 1) rfl ?_); refine box_event (by rfl) (N := 1) (by rfl) (cs := #[.string a0_0, .int .i64 a0_1, .int .i64 a0_2, .slice A0_3 l0_3.length c0_3]) (t := 24) ?hr ?_; (case hr => go_simp <;> rfl); intro gb253 hg w17 hbox hb; have BK253 := zA (hbox); have GW253 := qG hg; have GE253 := GW253; replace HB := qH hb; clear hb hbox hg; have z18_0 := bk4 BK253.out) | (go_at_call 48; (with_reducible refine (cubbyref07_Check.calls k a0_0 a0_1 a0_2 _ _ l0_3 t254 _ ?side1 ?side2 A2.out).mono ?_); (case side1 => exact qCB HR0_3.out); (case side2 => exact HC0_3.out); rintro e w19 ⟨rfl, hb⟩; replace BK253 := qW BK253 hb; replace HB := qH hb; (try clear hb))); try go_wp2_with (first | ((with_reducible refine gate_dst (N := 1) rfl ?_); refine box_event (by rfl) (N := 1) (by rfl) (cs := #[.string a0_0, .int .i64 a0_1, .int .i64 a0_2, .slice A0_3 l0_3.length c0_3]) (t := 24) ?hr ?_; (case hr => go_simp <;> rfl); intro gb253 hg w17 hbox hb; have BK253 := zA (hbox); have GW253 := qG hg; have GE253 := GW253; replace HB := qH hb; clear hb hbox hg; have z18_0 := bk4 BK253.out) | (go_at_call 48; (with_reducible refine (cubbyref07_Check.calls k a0_0 a0_1 a0_2 _ _ l0_3 t254 _ ?side1 ?side2 A2.out).mono ?_); (case side1 => exact qCB HR0_3.out); (case side2 => exact HC0_3.out); rintro e w19 ⟨rfl, hb⟩; replace BK253 := qW BK253 hb; replace HB := qH hb; (try clear hb))))
  go_ret
  exact ⟨qE, qB⟩

mutual
def cubbylaw12_heavy.j0 : Nat → Bool → ByteArray → Int → Int → List (List (SIns)) → Option (Bool)
 | 0, _, _, _, _, _ => none
 | k + 1, x24, x261000, x261001, x261002, x261003 => if x24 = true then (some true) else (cubbylaw12_heavy.l0 k 0 0 x261000 x261001 x261002 x261003)
def cubbylaw12_heavy.l0 : Nat → Int → Int → ByteArray → Int → Int → List (List (SIns)) → Option (Bool)
 | 0, _, _, _, _, _, _ => none
 | k + 1, x3, x4, x261000, x261001, x261002, x261003 => if x4 < (x261003.length : Int) then (if 0 ≤ x4 then (cubbylaw12_heavy.l0 k (wrap64 (x3 + ((rd_LIns x261003 x4).length : Int))) (wrap64 (x4 + 1)) x261000 x261001 x261002 x261003) else (none)) else (some (decide (x3 > 60)))
end
def cubbylaw12_heavy.f (k : Nat) (a0_0 : ByteArray) (a0_1 : Int) (a0_2 : Int) (l0_3 : List (List (SIns))) : Option (Bool) := if (a0_0.size : Int) > 100 then (cubbylaw12_heavy.j0 k true a0_0 a0_1 a0_2 l0_3) else (if (l0_3.length : Int) > 8 then (cubbylaw12_heavy.j0 k true a0_0 a0_1 a0_2 l0_3) else (if a0_2 > 24 then (cubbylaw12_heavy.j0 k true a0_0 a0_1 a0_2 l0_3) else ((cubbyref11_Check.f k a0_0 a0_1 a0_2 l0_3).bind fun t261 => (cubbylaw12_heavy.j0 k (t261 != 0) a0_0 a0_1 a0_2 l0_3))))
set_option maxHeartbeats 8000000 in
set_option maxRecDepth 100000 in
theorem cubbylaw12_heavy.calls (k : Nat) (a0_0 : ByteArray) (a0_1 : Int) (a0_2 : Int) (A0_3 : Option Addr) (c0_3 : Nat) (l0_3 : List (List (SIns))) (r : Bool) (w : World) (hr0_3 : Kd.C (Kd.slice 38 kIns) w A0_3 l0_3.length l0_3) (hc0_3 : l0_3.length ≤ c0_3) (h : cubbylaw12_heavy.f k a0_0 a0_1 a0_2 l0_3 = some r) :
 Calls Tryd.prog 11 #[.agg #[.string a0_0, .int .i64 a0_1, .int .i64 a0_2, .slice A0_3 l0_3.length c0_3]] w fun e w' => e = .returned (.bool r) ∧ Below w.heap.size w w' := by
 have hu24 := Tryd.underlying24
 have HR0_3 := zA hr0_3
 have HC0_3 := zA hc0_3
 clear hr0_3 hc0_3
 have HB := zA (Below.refl w.heap.size w)
 have H := h; clear h; unfold cubbylaw12_heavy.f at H
 have HC2 := zA H
 clear H
 go_enter Tryd.func11, Tryd.ntmps11
 go_upto_region 1 with (first | ((with_reducible refine gate_dst (N := 1) rfl ?_); (try (refine gate_guard (by rfl) ?_; dsimp only)); refine box_event (by rfl) (N := 1) (by rfl) (cs := #[.string a0_0, .int .i64 a0_1, .int .i64 a0_2, .slice A0_3 l0_3.length c0_3]) (t := 24) ?hr ?_; (case hr => go_simp <;> rfl); intro gb260 hg w3 hbox hb; have BK260 := zA (hbox); have GW260 := qG hg; have GE260 := GW260; replace HB := qH hb; clear hb hbox hg))
 (try simp only [Act.put, List.setIfInBounds_toArray, List.set_cons_zero, List.set_cons_succ])
 go_cut [24] (fun v24 wc => ∃ (kq : Nat) (x24_1 : Bool), v24 = .bool x24_1 ∧ Aside0 (cubbylaw12_heavy.j0 kq x24_1 a0_0 a0_1 a0_2 l0_3 = some r) ∧ Aside0 (kq ≤ k) ∧ Aside0 (wc.heap[gb260]? = some (.cells #[.string a0_0, .int .i64 a0_1, .int .i64 a0_2, (.slice A0_3 l0_3.length c0_3)] 24 (0, 0))) ∧ Aside0 (Below w.heap.size w wc))
 case first =>
  have H := HC2.out
  clear HC2
  by_cases c4 : (a0_0.size : Int) > 100
  ·rw [zC c4] at H
   have c4b0 : decide (100 < (a0_0.size : Int)) = true := zF c4
   have c4b1 : decide (100 < a0_0.size) = true := zF (by omega)
   clear c4
   (first | rw [c4b0] | (simp only [i64_w, i32_w]; rw [c4b0]) | skip)
   have H' := zA H
   clear H
   have z5_0 := bk4 BK260.out
   go_wp2
   go_meet
   case rel => exact ⟨_, (true), qT, H', ⟨qO⟩, ⟨qK BK260.out⟩, ⟨qB⟩⟩
  ·rw [zD c4] at H
   have c4b0 : decide (100 < (a0_0.size : Int)) = false := zG c4
   have c4b1 : decide (100 < a0_0.size) = false := zG (by omega)
   clear c4
   (first | rw [c4b0] | (simp only [i64_w, i32_w]; rw [c4b0]) | skip)
   by_cases c6 : (l0_3.length : Int) > 8
   ·rw [zC c6] at H
    have c6b0 : decide (8 < (l0_3.length : Int)) = true := zF c6
    have c6b1 : decide (8 < l0_3.length) = true := zF (by omega)
    clear c6
    have H' := zA H
    clear H
    have z7_0 := bk4 BK260.out
    go_wp2
    go_meet
    case rel => exact ⟨_, (true), qT, H', ⟨qO⟩, ⟨qK BK260.out⟩, ⟨qB⟩⟩
   ·rw [zD c6] at H
    have c6b0 : decide (8 < (l0_3.length : Int)) = false := zG c6
    have c6b1 : decide (8 < l0_3.length) = false := zG (by omega)
    clear c6
    by_cases c8 : a0_2 > 24
    ·rw [zC c8] at H
     have c8b0 : decide (24 < a0_2) = true := zF c8
     clear c8
     have H' := zA H
     clear H
     have z9_0 := bk4 BK260.out
     go_wp2
     go_meet
     case rel => exact ⟨_, (true), qT, H', ⟨qO⟩, ⟨qK BK260.out⟩, ⟨qB⟩⟩
    ·rw [zD c8] at H
     have c8b0 : decide (24 < a0_2) = false := zG c8
     clear c8
     replace H := qb H; obtain ⟨t261, A10, H⟩ := H
     have H' := zA H
     clear H
     have z11_0 := bk4 BK260.out
     go_wp2_with (first | (go_at_call 38; (with_reducible refine (cubbyref11_Check.calls k a0_0 a0_1 a0_2 _ _ l0_3 t261 _ ?side1 ?side2 A10.out).mono ?_); (case side1 => exact qCB HR0_3.out); (case side2 => exact HC0_3.out); (try clear A10); rintro e w12 ⟨rfl, hb⟩; replace BK260 := qW BK260 hb; replace HB := qH hb; (try clear hb)))
     go_meet
     case rel => exact ⟨_, ((t261 != 0)), qT, H', ⟨qO⟩, ⟨qK BK260.out⟩, ⟨qB⟩⟩
 case rest =>
  clear HC2
  obtain ⟨kq, x24_1, rfl, HA, HJ1, BK260, HB⟩ := hcut
  cases kq with
  | zero => exact absurd HA.out (by simp [cubbylaw12_heavy.j0])
  | succ kj1 =>
   have H := HA.out
   clear HA
   simp only [cubbylaw12_heavy.j0] at H
   by_cases c13 : x24_1 = true
   ·subst c13
    have H1 : (some true) = some r := by rw [zC rfl] at H; exact H
    clear H
    have H := H1
    clear H1
    obtain rfl := zI H
    go_wp2
    go_ret
    exact ⟨qE, qB⟩
   ·replace c13 := Bool.eq_false_iff.mpr c13
    subst c13
    have H1 : (cubbylaw12_heavy.l0 kj1 0 0 a0_0 a0_1 a0_2 l0_3) = some r := by rw [zD (show ¬ (false = true) by decide)] at H; exact H
    clear H
    have H := H1
    clear H1
    have H' := zA H
    clear H
    go_wp2
    go_loopg [3, 4] kj1 (fun kq v3 v4 w' => ∃ (x3_2 : Int) (x4_2 : Int), v3 = .int .i64 x3_2 ∧ v4 = .int .i64 x4_2 ∧ Aside0 (cubbylaw12_heavy.l0 kq x3_2 x4_2 a0_0 a0_1 a0_2 l0_3 = some r) ∧ Aside0 (kq ≤ kj1) ∧ Aside0 (w'.heap[gb260]? = some (.cells #[.string a0_0, .int .i64 a0_1, .int .i64 a0_2, (.slice A0_3 l0_3.length c0_3)] 24 (0, 0))) ∧ Aside0 (Below w.heap.size w w'))
    case atStart => exact ⟨(0), (0), qT, qT, H', ⟨Nat.le_refl _⟩, ⟨qK BK260.out⟩, ⟨qB⟩⟩
    case round =>
     clear H'
     obtain ⟨x3_2, x4_2, rfl, rfl, HA, HK2, BK260, HB⟩ := hrel
     cases gk with
     | zero => exact absurd HA.out (by simp [cubbylaw12_heavy.l0])
     | succ k2 =>
      have H := HA.out
      clear HA
      simp only [cubbylaw12_heavy.l0] at H
      by_cases c14 : x4_2 < (l0_3.length : Int)
      ·rw [zC c14] at H
       have c14b0 := zF c14
       clear c14
       by_cases c15 : 0 ≤ x4_2
       ·rw [zC c15] at H
        have c15b0 := zF c15
        clear c15
        have H' := zA H
        clear H
        have z16_0 := bk4 BK260.out
        have p262 : 0 ≤ (x4_2 : Int) := zB qA
        have q262 : x4_2 < (l0_3.length : Int) := zB qA
        obtain ⟨ad262, A262_0, c262_0, e262, hx262_0, hl262_0, hi262_0⟩ := at_LIns HR0_3.out x4_2 p262 q262
        cases e262
        replace hx262_0 := (HB.out.cell (zE w _ hx262_0)).trans hx262_0
        have HR262_0 := zA hi262_0
        have HC262_0 := zA hl262_0
        clear hi262_0 hl262_0
        replace p262 := eq_true p262
        replace q262 := eq_true q262
        go_wp2
        go_roundg k2
        case measure => have := HJ1.out; have := HK2.out; omega
        case rel => exact ⟨(wrap64 (x3_2 + ((rd_LIns l0_3 x4_2).length : Int))), (wrap64 (x4_2 + 1)), qT, qT, H', ⟨by have := HJ1.out; have := HK2.out; omega⟩, ⟨qK BK260.out⟩, ⟨qB⟩⟩
       ·rw [zD c15] at H
        exact absurd H (by simp)
      ·rw [zD c14] at H
       have c14b0 := zG c14
       clear c14
       obtain rfl := zI H
       have z17_0 := bk4 BK260.out
       go_wp2
       go_ret
       exact ⟨qE, qB⟩

def cubbyref10_Ints.l0 : Nat → List Int → List Int → Int → Option (Bool)
 | 0, _, _, _ => none
 | k + 1, x0, x1, x5 => if x5 < (x0.length : Int) then (if 0 ≤ x5 then (if x5 < (x1.length : Int) then (if (rd x0 x5) = (rd x1 x5) then (cubbyref10_Ints.l0 k x0 x1 (wrap64 (x5 + 1))) else (some false)) else (none)) else (none)) else (some true)
def cubbyref10_Ints.f (k : Nat) (l0 : List Int) (l1 : List Int) : Option (Bool) := if (l0.length : Int) = (l1.length : Int) then (cubbyref10_Ints.l0 k l0 l1 0) else (some false)
set_option maxHeartbeats 8000000 in
set_option maxRecDepth 100000 in
theorem cubbyref10_Ints.calls (k : Nat) (A0 : Option Addr) (c0 : Nat) (l0 : List Int) (A1 : Option Addr) (c1 : Nat) (l1 : List Int) (r : Bool) (w : World) (hr0 : Kd.C (Kd.int .i64) w A0 l0.length l0) (hc0 : l0.length ≤ c0) (hr1 : Kd.C (Kd.int .i64) w A1 l1.length l1) (hc1 : l1.length ≤ c1) (h : cubbyref10_Ints.f k l0 l1 = some r) :
 Calls Tryd.prog 16 #[.slice A0 l0.length c0, .slice A1 l1.length c1] w fun e w' => e = .returned (.bool r) ∧ Drawn0 w w' := by
 have HR0 := zA hr0
 have HC0 := zA hc0
 clear hr0 hc0
 have HR1 := zA hr1
 have HC1 := zA hc1
 clear hr1 hc1
 have H := h; clear h; unfold cubbyref10_Ints.f at H
 by_cases c3 : (l0.length : Int) = (l1.length : Int)
 ·rw [zC c3] at H
  obtain ⟨c3b0, c3b1⟩ := qe c3
  have c3b2 : (l0.length == l1.length) = true := by first | simpa using c3 | (simp at c3 ⊢; omega)
  clear c3
  have H' := zA H
  clear H
  go_enter Tryd.func16, Tryd.ntmps16
  go_wp2
  repeat (go_quiet (fail); try go_wp2)
  go_loopg [5] k (fun kq v5 w' => ∃ (x5_1 : Int), v5 = .int .i64 x5_1 ∧ Aside0 (cubbyref10_Ints.l0 kq l0 l1 x5_1 = some r) ∧ Aside0 (kq ≤ k) ∧ Drawn0 w w')
  case atStart => exact ⟨(0), qT, H', ⟨Nat.le_refl _⟩, qD⟩
  case round =>
   clear H'
   obtain ⟨x5_1, rfl, HA, HK1, ⟨m1, rfl⟩⟩ := hrel
   cases gk with
   | zero => exact absurd HA.out (by simp [cubbyref10_Ints.l0])
   | succ k1 =>
    have H := HA.out
    clear HA
    simp only [cubbyref10_Ints.l0] at H
    by_cases c4 : x5_1 < (l0.length : Int)
    ·rw [zC c4] at H
     have c4b0 := zF c4
     clear c4
     by_cases c5 : 0 ≤ x5_1
     ·rw [zC c5] at H
      have c5b0 := zF c5
      clear c5
      by_cases c6 : x5_1 < (l1.length : Int)
      ·rw [zC c6] at H
       have c6b0 := zF c6
       clear c6
       by_cases c7 : (rd l0 x5_1) = (rd l1 x5_1)
       ·rw [zC c7] at H
        obtain ⟨c7b0, c7b1⟩ := qe c7; clear c7
        have H' := zA H
        clear H
        have p460 : 0 ≤ (x5_1 : Int) := zB qA
        have q460 : x5_1 < (l0.length : Int) := zB qA
        obtain ⟨ad460, e460, hx460_0⟩ := Kd.at_int HR0.out x5_1 p460 q460
        cases e460
        replace p460 := eq_true p460
        replace q460 := eq_true q460
        have p461 : 0 ≤ (x5_1 : Int) := zB qA
        have q461 : x5_1 < (l1.length : Int) := zB qA
        obtain ⟨ad461, e461, hx461_0⟩ := Kd.at_int HR1.out x5_1 p461 q461
        cases e461
        replace p461 := eq_true p461
        replace q461 := eq_true q461
        go_wp2
        repeat (go_quiet (fail); try go_wp2)
        go_roundg k1
        case measure => have := HK1.out; omega
        case rel => exact ⟨(wrap64 (x5_1 + 1)), qT, H', ⟨by have := HK1.out; omega⟩, qD⟩
       ·rw [zD c7] at H
        obtain ⟨c7b0, c7b1⟩ := qn c7
        obtain rfl := zI H
        have p460 : 0 ≤ (x5_1 : Int) := zB qA
        have q460 : x5_1 < (l0.length : Int) := zB qA
        obtain ⟨ad460, e460, hx460_0⟩ := Kd.at_int HR0.out x5_1 p460 q460
        cases e460
        replace p460 := eq_true p460
        replace q460 := eq_true q460
        have p461 : 0 ≤ (x5_1 : Int) := zB qA
        have q461 : x5_1 < (l1.length : Int) := zB qA
        obtain ⟨ad461, e461, hx461_0⟩ := Kd.at_int HR1.out x5_1 p461 q461
        cases e461
        replace p461 := eq_true p461
        replace q461 := eq_true q461
        go_wp2
        repeat (go_quiet (fail); try go_wp2)
        go_ret
        exact ⟨by first | rfl | (simp; done) | (simp [*]; done), qD⟩
      ·rw [zD c6] at H
       exact absurd H (by simp)
     ·rw [zD c5] at H
      exact absurd H (by simp)
    ·rw [zD c4] at H
     have c4b0 := zG c4
     clear c4
     obtain rfl := zI H
     go_wp2
     repeat (go_quiet (fail); try go_wp2)
     go_ret
     exact ⟨by first | rfl | (simp; done) | (simp [*]; done), qD⟩
 ·rw [zD c3] at H
  obtain ⟨c3b0, c3b1⟩ := qn c3
  have c3b2 : (l0.length == l1.length) = false := by first | simpa using c3 | (simp at c3 ⊢; omega)
  obtain rfl := zI H
  go_enter Tryd.func16, Tryd.ntmps16
  go_wp2
  repeat (go_quiet (fail); try go_wp2)
  go_ret
  exact ⟨by first | rfl | (simp; done) | (simp [*]; done), qD⟩

def ir_Targets.f (a0_0 : Int) (a0_1 : Int) (a0_2 : Int) (a0_3 : Int) (a0_4 : ByteArray) (l0_5 : List Int) : Option (List Int) := if a0_0 = 12 then (some (([a0_2] : List Int))) else (if a0_0 = 13 then (some (([a0_3, a0_1] : List Int))) else (some ([] : List Int)))
set_option maxHeartbeats 8000000 in
set_option maxRecDepth 100000 in
theorem ir_Targets.calls (a0_0 : Int) (a0_1 : Int) (a0_2 : Int) (a0_3 : Int) (a0_4 : ByteArray) (A0_5 : Option Addr) (c0_5 : Nat) (l0_5 : List Int) (r : List Int) (w : World) (hr0_5 : Kd.C (Kd.int .i64) w A0_5 l0_5.length l0_5) (hc0_5 : l0_5.length ≤ c0_5) (h : ir_Targets.f a0_0 a0_1 a0_2 a0_3 a0_4 l0_5 = some r) :
 Calls Tryd.prog 120 #[.agg #[.int .i64 a0_0, .int .i64 a0_1, .int .i64 a0_2, .int .i64 a0_3, .string a0_4, .slice A0_5 l0_5.length c0_5]] w fun e w' => ∃ v0_ : Value, e = .returned (v0_) ∧ Kd.R (Kd.int .i64) 3 w' w.heap.size (fun _ => True) v0_ r ∧ Below w.heap.size w w' := by
 have hu38 := Tryd.underlying38
 have HR0_5 := zA hr0_5
 have HC0_5 := zA hc0_5
 clear hr0_5 hc0_5
 have HB := zA (Below.refl w.heap.size w)
 have H := h; clear h; unfold ir_Targets.f at H
 by_cases c2 : a0_0 = 12
 ·rw [zC c2] at H
  obtain ⟨c2b0, c2b1⟩ := qe c2; clear c2
  obtain ⟨y268, hy268⟩ : ∃ y_ : List Int, y_ = (([a0_2] : List Int)) := ⟨_, rfl⟩
  replace H : (some y268) = some r := by (try rw [hy268]); first | with_reducible exact H | exact (zJ _ _).symm.trans H | exact H
  have Ny268 := zA hy268
  clear hy268
  obtain rfl := zI H
  go_enter Tryd.func120, Tryd.ntmps120
  go_wp2_with (first | ((with_reducible refine gate_dst (N := 1) rfl ?_); refine box_event (by rfl) (N := 1) (by rfl) (cs := #[.int .i64 a0_0, .int .i64 a0_1, .int .i64 a0_2, .int .i64 a0_3, .string a0_4, .slice A0_5 l0_5.length c0_5]) (t := 38) ?hr ?_; (case hr => go_simp <;> rfl); intro gb267 hg w3 hbox hb; have BK267 := zA (hbox); have GW267 := qG hg; have GE267 := GW267; replace HB := qH hb; clear hb hbox hg; have z4_0 := bk6 BK267.out) | ((with_reducible refine gate_dst (N := 9) rfl ?_); refine Kd.R_lit (Kd.int .i64) _ 3 (by rfl) (N := 9) (by rfl) (xs := ([a0_2] : List Int)) (inner := [.int .i64 a0_2]) (ok := fun _ => True) (okp := fun _ => True) ?hr ?hp (fun _ hk => hk) trivial (Below.refl _ _) (Nat.le_refl _) (by simp) ?_; (case hr => go_simp <;> rfl); (case hp => exact (Reps.one (show Kd.M (Kd.int .i64) _ _ _ a0_2 [.int .i64 a0_2] from rfl) (Reps.none _ _))); intro v269 w5 ho6 hb hg_ hnew_; clear hg_ hnew_; (first | rw [← Ny268.out] at ho6 | (simp only [Int.reduceToNat] at ho6; rw [← Ny268.out] at ho6)); have HO270 := zA (Kd.R_lower ho6 (below_size qB)); replace BK267 := qW BK267 hb; replace HB := qH hb; clear hb ho6))
  go_ret
  exact ⟨_, qE, qR HO270.out, qB⟩
 ·rw [zD c2] at H
  obtain ⟨c2b0, c2b1⟩ := qn c2
  by_cases c7 : a0_0 = 13
  ·rw [zC c7] at H
   obtain ⟨c7b0, c7b1⟩ := qe c7; clear c7
   obtain ⟨y271, hy271⟩ : ∃ y_ : List Int, y_ = (([a0_3, a0_1] : List Int)) := ⟨_, rfl⟩
   replace H : (some y271) = some r := by (try rw [hy271]); first | with_reducible exact H | exact (zJ _ _).symm.trans H | exact H
   have Ny271 := zA hy271
   clear hy271
   obtain rfl := zI H
   go_enter Tryd.func120, Tryd.ntmps120
   go_wp2_with (first | ((with_reducible refine gate_dst (N := 1) rfl ?_); refine box_event (by rfl) (N := 1) (by rfl) (cs := #[.int .i64 a0_0, .int .i64 a0_1, .int .i64 a0_2, .int .i64 a0_3, .string a0_4, .slice A0_5 l0_5.length c0_5]) (t := 38) ?hr ?_; (case hr => go_simp <;> rfl); intro gb267 hg w8 hbox hb; have BK267 := zA (hbox); have GW267 := qG hg; have GE267 := GW267; replace HB := qH hb; clear hb hbox hg; have z9_0 := bk6 BK267.out) | ((with_reducible refine gate_dst (N := 16) rfl ?_); refine Kd.R_lit (Kd.int .i64) _ 3 (by rfl) (N := 16) (by rfl) (xs := ([a0_3, a0_1] : List Int)) (inner := [.int .i64 a0_3, .int .i64 a0_1]) (ok := fun _ => True) (okp := fun _ => True) ?hr ?hp (fun _ hk => hk) trivial (Below.refl _ _) (Nat.le_refl _) (by simp) ?_; (case hr => go_simp <;> rfl); (case hp => exact (Reps.one (show Kd.M (Kd.int .i64) _ _ _ a0_3 [.int .i64 a0_3] from rfl) (Reps.one (show Kd.M (Kd.int .i64) _ _ _ a0_1 [.int .i64 a0_1] from rfl) (Reps.none _ _)))); intro v272 w10 ho11 hb hg_ hnew_; clear hg_ hnew_; (first | rw [← Ny271.out] at ho11 | (simp only [Int.reduceToNat] at ho11; rw [← Ny271.out] at ho11)); have HO273 := zA (Kd.R_lower ho11 (below_size qB)); replace BK267 := qW BK267 hb; replace HB := qH hb; clear hb ho11))
   go_ret
   exact ⟨_, qE, qR HO273.out, qB⟩
  ·rw [zD c7] at H
   obtain ⟨c7b0, c7b1⟩ := qn c7
   obtain rfl := zI H
   go_enter Tryd.func120, Tryd.ntmps120
   go_wp2_with (first | ((with_reducible refine gate_dst (N := 1) rfl ?_); refine box_event (by rfl) (N := 1) (by rfl) (cs := #[.int .i64 a0_0, .int .i64 a0_1, .int .i64 a0_2, .int .i64 a0_3, .string a0_4, .slice A0_5 l0_5.length c0_5]) (t := 38) ?hr ?_; (case hr => go_simp <;> rfl); intro gb267 hg w12 hbox hb; have BK267 := zA (hbox); have GW267 := qG hg; have GE267 := GW267; replace HB := qH hb; clear hb hbox hg; have z13_0 := bk6 BK267.out))
   go_ret
   exact ⟨_, qE, by first | exact Kd.R_nil _ _ _ _ _ | exact Kd.N_nil _ _ _ _ _ | exact Kd.V_nil _ _ _ _ _ | exact Kd.Q_nil _ _ _ _ _ | exact Kd.S_nil _ _ _ _ _, qB⟩

def slices_Index_int_int.l0 : Nat → List Int → Int → Int → Int → Option (Int)
 | 0, _, _, _, _ => none
 | k + 1, x0, x1, x7, x8 => if x8 < x7 then (if 0 ≤ x8 then (if x8 < (x0.length : Int) then (if x1 = (rd x0 x8) then (some x8) else (slices_Index_int_int.l0 k x0 x1 x7 (wrap64 (x8 + 1)))) else (none)) else (none)) else (some (-1))
def slices_Index_int_int.f (k : Nat) (l0 : List Int) (a1 : Int) : Option (Int) := slices_Index_int_int.l0 k l0 a1 (l0.length : Int) 0
set_option maxHeartbeats 8000000 in
set_option maxRecDepth 100000 in
theorem slices_Index_int_int.calls (k : Nat) (A0 : Option Addr) (c0 : Nat) (l0 : List Int) (a1 : Int) (r : Int) (w : World) (hr0 : Kd.C (Kd.int .i64) w A0 l0.length l0) (hc0 : l0.length ≤ c0) (h : slices_Index_int_int.f k l0 a1 = some r) :
 Calls Tryd.prog 156 #[.slice A0 l0.length c0, .int .i64 a1] w fun e w' => e = .returned (.int .i64 r) ∧ Drawn0 w w' := by
 have HR0 := zA hr0
 have HC0 := zA hc0
 clear hr0 hc0
 have H := h; clear h; unfold slices_Index_int_int.f at H
 have H' := zA H
 clear H
 go_enter Tryd.func156, Tryd.ntmps156
 go_wp2
 go_loopg [8] k (fun kq v8 w' => ∃ (x8_1 : Int), v8 = .int .i64 x8_1 ∧ Aside0 (slices_Index_int_int.l0 kq l0 a1 (l0.length : Int) x8_1 = some r) ∧ Aside0 (kq ≤ k) ∧ Drawn0 w w')
 case atStart => exact ⟨(0), qT, H', ⟨Nat.le_refl _⟩, qD⟩
 case round =>
  clear H'
  obtain ⟨x8_1, rfl, HA, HK1, ⟨m1, rfl⟩⟩ := hrel
  cases gk with
  | zero => exact absurd HA.out (by simp [slices_Index_int_int.l0])
  | succ k1 =>
   have H := HA.out
   clear HA
   simp only [slices_Index_int_int.l0] at H
   by_cases c3 : x8_1 < (l0.length : Int)
   ·rw [zC c3] at H
    have c3b0 := zF c3
    clear c3
    by_cases c4 : 0 ≤ x8_1
    ·rw [zC c4] at H
     have c4b0 := zF c4
     clear c4
     by_cases c5 : x8_1 < (l0.length : Int)
     ·rw [zC c5] at H
      have c5b0 := zF c5
      clear c5
      by_cases c6 : a1 = (rd l0 x8_1)
      ·rw [zC c6] at H
       obtain ⟨c6b0, c6b1⟩ := qe c6; clear c6
       obtain rfl := zI H
       have p298 : 0 ≤ (x8_1 : Int) := zB qA
       have q298 : x8_1 < (l0.length : Int) := zB qA
       obtain ⟨ad298, e298, hx298_0⟩ := Kd.at_int HR0.out x8_1 p298 q298
       cases e298
       replace p298 := eq_true p298
       replace q298 := eq_true q298
       go_wp2
       go_ret
       exact ⟨by first | rfl | (simp; done) | (simp [*]; done), qD⟩
      ·rw [zD c6] at H
       obtain ⟨c6b0, c6b1⟩ := qn c6
       have H' := zA H
       clear H
       have p298 : 0 ≤ (x8_1 : Int) := zB qA
       have q298 : x8_1 < (l0.length : Int) := zB qA
       obtain ⟨ad298, e298, hx298_0⟩ := Kd.at_int HR0.out x8_1 p298 q298
       cases e298
       replace p298 := eq_true p298
       replace q298 := eq_true q298
       go_wp2
       go_roundg k1
       case measure => have := HK1.out; omega
       case rel => exact ⟨(wrap64 (x8_1 + 1)), qT, H', ⟨by have := HK1.out; omega⟩, qD⟩
     ·rw [zD c5] at H
      exact absurd H (by simp)
    ·rw [zD c4] at H
     exact absurd H (by simp)
   ·rw [zD c3] at H
    have c3b0 := zG c3
    clear c3
    obtain rfl := zI H
    go_wp2
    go_ret
    exact ⟨by first | rfl | (simp; done) | (simp [*]; done), qD⟩

def slices_Contains_int_int.f (k : Nat) (l0 : List Int) (a1 : Int) : Option (Bool) := (slices_Index_int_int.f k l0 a1).bind fun t299 => (some (decide (t299 ≥ 0)))
set_option maxHeartbeats 8000000 in
set_option maxRecDepth 100000 in
theorem slices_Contains_int_int.calls (k : Nat) (A0 : Option Addr) (c0 : Nat) (l0 : List Int) (a1 : Int) (r : Bool) (w : World) (hr0 : Kd.C (Kd.int .i64) w A0 l0.length l0) (hc0 : l0.length ≤ c0) (h : slices_Contains_int_int.f k l0 a1 = some r) :
 Calls Tryd.prog 121 #[.slice A0 l0.length c0, .int .i64 a1] w fun e w' => e = .returned (.bool r) ∧ Drawn0 w w' := by
 have HR0 := zA hr0
 have HC0 := zA hc0
 clear hr0 hc0
 have H := h; clear h; unfold slices_Contains_int_int.f at H
 replace H := qb H; obtain ⟨t299, A3, H⟩ := H
 obtain rfl := zI H
 go_enter Tryd.func121, Tryd.ntmps121
 go_wp2_with (first | ((with_reducible refine gate_callee (f := 156) rfl ?_); refine goesL_ (some 7) rfl rfl Tryd.func156 (by kernel_rfl) rfl #[.slice A0 l0.length c0, .int .i64 a1] rfl qL ?_; (with_reducible refine (slices_Index_int_int.calls k _ _ l0 a1 t299 _ ?side1 ?side2 A3.out).mono ?_); (case side1 => repeat (first | exact HR0.out | (with_reducible refine Kd.C_alloc ?_ _) | (with_reducible refine Kd.C_drewN ?_ _) | (with_reducible refine Kd.C_drew ?_))); (case side2 => exact HC0.out); rintro e w' ⟨rfl, ⟨nd, rfl⟩⟩; refine ⟨_, rfl, ?_⟩))
 go_ret
 exact ⟨by first | rfl | (simp; done) | (simp [*]; done), qD⟩

mutual
def flow_Succs.j0 : Nat → List (List (SIns)) → Int → Bool → Option (List Int)
 | 0, _, _, _ => none
 | k + 1, x0, x1, x24 => if x24 = true then (some ([] : List Int)) else (if 0 ≤ x1 then (if x1 < (x0.length : Int) then (if 0 ≤ (wrap64 (((rd_LIns x0 x1).length : Int) - 1)) then (if (wrap64 (((rd_LIns x0 x1).length : Int) - 1)) < ((rd_LIns x0 x1).length : Int) then ((ir_Targets.f ((rd_TIns (rd_LIns x0 x1) (wrap64 (((rd_LIns x0 x1).length : Int) - 1))).f0) ((rd_TIns (rd_LIns x0 x1) (wrap64 (((rd_LIns x0 x1).length : Int) - 1))).f1) ((rd_TIns (rd_LIns x0 x1) (wrap64 (((rd_LIns x0 x1).length : Int) - 1))).f2) ((rd_TIns (rd_LIns x0 x1) (wrap64 (((rd_LIns x0 x1).length : Int) - 1))).f3) ((rd_TIns (rd_LIns x0 x1) (wrap64 (((rd_LIns x0 x1).length : Int) - 1))).f4) ((rd_TIns (rd_LIns x0 x1) (wrap64 (((rd_LIns x0 x1).length : Int) - 1))).f5)).bind fun t303 => (flow_Succs.l0 k x0 ([] : List Int) t303 (t303.length : Int) 0)) else (none)) else (none)) else (none)) else (none))
def flow_Succs.l0 : Nat → List (List (SIns)) → List Int → List Int → Int → Int → Option (List Int)
 | 0, _, _, _, _, _ => none
 | k + 1, x0, x6, x35, x36, x37 => if x37 < x36 then (if 0 ≤ x37 then (if x37 < (x35.length : Int) then (if (rd x35 x37) ≥ 0 then (if (rd x35 x37) < (x0.length : Int) then ((slices_Contains_int_int.f k x6 (rd x35 x37)).bind fun t307 => (if t307 = true then (flow_Succs.l0 k x0 x6 x35 x36 (wrap64 (x37 + 1))) else (if x6.length < 17592186044416 then (flow_Succs.l0 k x0 (x6 ++ [rd x35 x37]) x35 x36 (wrap64 (x37 + 1))) else (none)))) else (flow_Succs.l0 k x0 x6 x35 x36 (wrap64 (x37 + 1)))) else (flow_Succs.l0 k x0 x6 x35 x36 (wrap64 (x37 + 1)))) else (none)) else (none)) else (some x6)
end
def flow_Succs.f (k : Nat) (l0 : List (List (SIns))) (a1 : Int) : Option (List Int) := if a1 < 0 then (flow_Succs.j0 k l0 a1 true) else (if a1 ≥ (l0.length : Int) then (flow_Succs.j0 k l0 a1 true) else (if 0 ≤ a1 then (if a1 < (l0.length : Int) then (flow_Succs.j0 k l0 a1 (((rd_LIns l0 a1).length : Int) == 0)) else (none)) else (none)))
set_option maxHeartbeats 8000000 in
set_option maxRecDepth 100000 in
theorem flow_Succs.calls (k : Nat) (A0 : Option Addr) (c0 : Nat) (l0 : List (List (SIns))) (a1 : Int) (r : List Int) (w : World) (hr0 : Kd.C (Kd.slice 38 kIns) w A0 l0.length l0) (hc0 : l0.length ≤ c0) (h : flow_Succs.f k l0 a1 = some r) :
 Calls Tryd.prog 81 #[.slice A0 l0.length c0, .int .i64 a1] w fun e w' => ∃ v0_ : Value, e = .returned (v0_) ∧ Kd.R (Kd.int .i64) 3 w' w.heap.size (fun _ => True) v0_ r ∧ Below w.heap.size w w' := by
 have hu38 := Tryd.underlying38
 have HR0 := zA hr0
 have HC0 := zA hc0
 clear hr0 hc0
 have HB := zA (Below.refl w.heap.size w)
 have H := h; clear h; unfold flow_Succs.f at H
 have HC3 := zA H
 clear H
 go_enter Tryd.func81, Tryd.ntmps81
 go_upto_region 1 with (fail)
 go_cut [24] (fun v24 wc => ∃ (kq : Nat) (x24_2 : Bool), v24 = .bool x24_2 ∧ Aside0 (flow_Succs.j0 kq l0 a1 x24_2 = some r) ∧ Aside0 (kq ≤ k) ∧ Aside0 (Below w.heap.size w wc))
 case first =>
  have H := HC3.out
  clear HC3
  by_cases c4 : a1 < 0
  ·rw [zC c4] at H
   have c4b0 := zF c4
   clear c4
   (first | rw [c4b0] | (simp only [i64_w, i32_w]; rw [c4b0]) | skip)
   have H' := zA H
   clear H
   go_wp2
   go_meet
   case rel => exact ⟨_, (true), qT, H', ⟨qO⟩, ⟨qB⟩⟩
  ·rw [zD c4] at H
   have c4b0 := zG c4
   clear c4
   (first | rw [c4b0] | (simp only [i64_w, i32_w]; rw [c4b0]) | skip)
   by_cases c5 : a1 ≥ (l0.length : Int)
   ·rw [zC c5] at H
    have c5b0 : decide ((l0.length : Int) ≤ a1) = true := zF c5
    clear c5
    have H' := zA H
    clear H
    go_wp2
    go_meet
    case rel => exact ⟨_, (true), qT, H', ⟨qO⟩, ⟨qB⟩⟩
   ·rw [zD c5] at H
    have c5b0 : decide ((l0.length : Int) ≤ a1) = false := zG c5
    clear c5
    by_cases c6 : 0 ≤ a1
    ·rw [zC c6] at H
     have c6b0 := zF c6
     clear c6
     by_cases c7 : a1 < (l0.length : Int)
     ·rw [zC c7] at H
      have c7b0 := zF c7
      clear c7
      have H' := zA H
      clear H
      have p300 : 0 ≤ (a1 : Int) := zB qA
      have q300 : a1 < (l0.length : Int) := zB qA
      obtain ⟨ad300, A300_0, c300_0, e300, hx300_0, hl300_0, hi300_0⟩ := at_LIns HR0.out a1 p300 q300
      cases e300
      replace hx300_0 := (HB.out.cell (zE w _ hx300_0)).trans hx300_0
      have HR300_0 := zA hi300_0
      have HC300_0 := zA hl300_0
      clear hi300_0 hl300_0
      replace p300 := eq_true p300
      replace q300 := eq_true q300
      go_wp2
      go_meet
      case rel => exact ⟨_, ((((rd_LIns l0 a1).length : Int) == 0)), qT, H', ⟨qO⟩, ⟨qB⟩⟩
     ·rw [zD c7] at H
      exact absurd H (by simp)
    ·rw [zD c6] at H
     exact absurd H (by simp)
 case rest =>
  clear HC3
  obtain ⟨kq, x24_2, rfl, HA, HJ2, HB⟩ := hcut
  cases kq with
  | zero => exact absurd HA.out (by simp [flow_Succs.j0])
  | succ kj2 =>
   have H := HA.out
   clear HA
   simp only [flow_Succs.j0] at H
   by_cases c8 : x24_2 = true
   ·subst c8
    have H1 : (some ([] : List Int)) = some r := by rw [zC rfl] at H; exact H
    clear H
    have H := H1
    clear H1
    obtain rfl := zI H
    go_wp2
    go_ret
    exact ⟨_, qE, by first | exact Kd.R_nil _ _ _ _ _ | exact Kd.N_nil _ _ _ _ _ | exact Kd.V_nil _ _ _ _ _ | exact Kd.Q_nil _ _ _ _ _ | exact Kd.S_nil _ _ _ _ _, qB⟩
   ·replace c8 := Bool.eq_false_iff.mpr c8
    subst c8
    have H1 : (if 0 ≤ a1 then (if a1 < (l0.length : Int) then (if 0 ≤ (wrap64 (((rd_LIns l0 a1).length : Int) - 1)) then (if (wrap64 (((rd_LIns l0 a1).length : Int) - 1)) < ((rd_LIns l0 a1).length : Int) then ((ir_Targets.f ((rd_TIns (rd_LIns l0 a1) (wrap64 (((rd_LIns l0 a1).length : Int) - 1))).f0) ((rd_TIns (rd_LIns l0 a1) (wrap64 (((rd_LIns l0 a1).length : Int) - 1))).f1) ((rd_TIns (rd_LIns l0 a1) (wrap64 (((rd_LIns l0 a1).length : Int) - 1))).f2) ((rd_TIns (rd_LIns l0 a1) (wrap64 (((rd_LIns l0 a1).length : Int) - 1))).f3) ((rd_TIns (rd_LIns l0 a1) (wrap64 (((rd_LIns l0 a1).length : Int) - 1))).f4) ((rd_TIns (rd_LIns l0 a1) (wrap64 (((rd_LIns l0 a1).length : Int) - 1))).f5)).bind fun t303 => (flow_Succs.l0 kj2 l0 ([] : List Int) t303 (t303.length : Int) 0)) else (none)) else (none)) else (none)) else (none)) = some r := by rw [zD (show ¬ (false = true) by decide)] at H; exact H
    clear H
    have H := H1
    clear H1
    by_cases c9 : 0 ≤ a1
    ·rw [zC c9] at H
     have c9b0 := zF c9
     clear c9
     by_cases c10 : a1 < (l0.length : Int)
     ·rw [zC c10] at H
      have c10b0 := zF c10
      clear c10
      obtain ⟨ji11, hji11⟩ : ∃ j_ : Int, (wrap64 (((rd_LIns l0 a1).length : Int) - 1)) = j_ := ⟨_, rfl⟩
      replace H : (if 0 ≤ (ji11) then (if (ji11) < ((rd_LIns l0 a1).length : Int) then ((ir_Targets.f ((rd_TIns (rd_LIns l0 a1) (ji11)).f0) ((rd_TIns (rd_LIns l0 a1) (ji11)).f1) ((rd_TIns (rd_LIns l0 a1) (ji11)).f2) ((rd_TIns (rd_LIns l0 a1) (ji11)).f3) ((rd_TIns (rd_LIns l0 a1) (ji11)).f4) ((rd_TIns (rd_LIns l0 a1) (ji11)).f5)).bind fun t303 => (flow_Succs.l0 kj2 l0 ([] : List Int) t303 (t303.length : Int) 0)) else (none)) else (none)) = some r := by first | (rw [hji11] at H; exact H) | (simp only [hji11] at H ⊢; exact H)
      have hji11w : (IntKind.i64.wrap (((rd_LIns l0 a1).length : Int) - 1)) = ji11 := (i64_w _).trans hji11
      by_cases c12 : 0 ≤ (ji11)
      ·rw [zC c12] at H
       have c12b0 := zF c12
       clear c12
       by_cases c13 : (ji11) < ((rd_LIns l0 a1).length : Int)
       ·rw [zC c13] at H
        have c13b0 := zF c13
        clear c13
        replace H := qb H; obtain ⟨t303, A14, H⟩ := H
        have H' := zA H
        clear H
        have p301 : 0 ≤ (a1 : Int) := zB qA
        have q301 : a1 < (l0.length : Int) := zB qA
        obtain ⟨ad301, A301_0, c301_0, e301, hx301_0, hl301_0, hi301_0⟩ := at_LIns HR0.out a1 p301 q301
        cases e301
        replace hx301_0 := (HB.out.cell (zE w _ hx301_0)).trans hx301_0
        have HR301_0 := zA hi301_0
        have HC301_0 := zA hl301_0
        clear hi301_0 hl301_0
        replace p301 := eq_true p301
        replace q301 := eq_true q301
        have p302 : 0 ≤ ((ji11) : Int) := zB qA
        have q302 : (ji11) < ((rd_LIns l0 a1).length : Int) := zB qA
        obtain ⟨ad302, A302_5, c302_5, e302, hx302_0, hx302_1, hx302_2, hx302_3, hx302_4, hx302_5, hl302_5, hi302_5⟩ := at_TIns HR301_0.out (ji11) p302 q302
        cases e302
        replace hx302_0 := (HB.out.cell (zE w _ hx302_0)).trans hx302_0
        replace hx302_1 := (HB.out.cell (zE w _ hx302_1)).trans hx302_1
        replace hx302_2 := (HB.out.cell (zE w _ hx302_2)).trans hx302_2
        replace hx302_3 := (HB.out.cell (zE w _ hx302_3)).trans hx302_3
        replace hx302_4 := (HB.out.cell (zE w _ hx302_4)).trans hx302_4
        replace hx302_5 := (HB.out.cell (zE w _ hx302_5)).trans hx302_5
        have HR302_5 := zA hi302_5
        have HC302_5 := zA hl302_5
        clear hi302_5 hl302_5
        replace p302 := eq_true p302
        replace q302 := eq_true q302
        go_wp2_with (first | ((with_reducible refine gate_callee (f := 120) rfl ?_); refine goesL_ (some 35) rfl rfl Tryd.func120 (by kernel_rfl) rfl #[.agg #[.int .i64 ((rd_TIns (rd_LIns l0 a1) (ji11)).f0), .int .i64 ((rd_TIns (rd_LIns l0 a1) (ji11)).f1), .int .i64 ((rd_TIns (rd_LIns l0 a1) (ji11)).f2), .int .i64 ((rd_TIns (rd_LIns l0 a1) (ji11)).f3), .string ((rd_TIns (rd_LIns l0 a1) (ji11)).f4), .slice A302_5 ((rd_TIns (rd_LIns l0 a1) (ji11)).f5).length c302_5]] rfl (by (try simp only [List.map_toArray, List.map_cons, List.map_nil]); first | done | (simp only [hji11]; rfl) | rfl | (simp only [List.length_drop, List.length_take]; rfl)) ?_; (with_reducible refine (ir_Targets.calls ((rd_TIns (rd_LIns l0 a1) (ji11)).f0) ((rd_TIns (rd_LIns l0 a1) (ji11)).f1) ((rd_TIns (rd_LIns l0 a1) (ji11)).f2) ((rd_TIns (rd_LIns l0 a1) (ji11)).f3) ((rd_TIns (rd_LIns l0 a1) (ji11)).f4) _ _ ((rd_TIns (rd_LIns l0 a1) (ji11)).f5) t303 _ ?side1 ?side2 A14.out).mono ?_); (case side1 => exact qCB HR302_5.out); (case side2 => exact HC302_5.out); rintro e w15 ⟨v304, rfl, ho0, hb⟩; refine ⟨_, rfl, ?_⟩; have HO305 := zA (Kd.R_lower ho0 (below_size qB)); replace HB := qH hb; (try clear hb); (try clear ho0); obtain ⟨Ao16, co16, eo16⟩ := Kd.R_slice HO305.out; subst eo16))
        go_loopg [6, 37] kj2 (fun kq v6 v37 w' => ∃ (x6_2 : List Int) (x37_2 : Int), v37 = .int .i64 x37_2 ∧ Aside0 (flow_Succs.l0 kq l0 x6_2 t303 (t303.length : Int) x37_2 = some r) ∧ Aside0 (kq ≤ kj2) ∧ Aside0 (Kd.R (Kd.int .i64) 3 w' w.heap.size (fun k_ => some k_ ≠ ((.slice Ao16 t303.length co16) : Value).ownBlock) v6 x6_2) ∧ Aside0 (Kd.R (Kd.int .i64) 3 w' w.heap.size (fun k_ => some k_ ≠ (v6 : Value).ownBlock) (.slice Ao16 t303.length co16) t303) ∧ Aside0 (Below w.heap.size w w'))
        case atStart => exact ⟨(([] : List Int)), (0), qT, H', ⟨Nat.le_refl _⟩, ⟨by first | exact Kd.R_nil _ _ _ _ _ | exact Kd.N_nil _ _ _ _ _ | exact Kd.V_nil _ _ _ _ _ | exact Kd.Q_nil _ _ _ _ _ | exact Kd.S_nil _ _ _ _ _⟩, ⟨by (with_reducible repeat (first | apply Kd.R_alloc | apply Kd.R_drewN | apply Kd.R_drew)); exact Kd.R_mono HO305.out (fun _ hk => (by simp [Value.ownBlock]))⟩, ⟨qB⟩⟩
        case round =>
         clear H'
         obtain ⟨x6_2, x37_2, rfl, HA, HK2, HO_6, HO_35, HB⟩ := hrel
         cases gk with
         | zero => exact absurd HA.out (by simp [flow_Succs.l0])
         | succ k2 =>
          have H := HA.out
          clear HA
          simp only [flow_Succs.l0] at H
          by_cases c17 : x37_2 < (t303.length : Int)
          ·rw [zC c17] at H
           have c17b0 := zF c17
           clear c17
           by_cases c18 : 0 ≤ x37_2
           ·rw [zC c18] at H
            have c18b0 := zF c18
            clear c18
            by_cases c19 : x37_2 < (t303.length : Int)
            ·rw [zC c19] at H
             have c19b0 := zF c19
             clear c19
             by_cases c20 : (rd t303 x37_2) ≥ 0
             ·rw [zC c20] at H
              have c20b0 : decide (0 ≤ (rd t303 x37_2)) = true := zF c20
              clear c20
              by_cases c21 : (rd t303 x37_2) < (l0.length : Int)
              ·rw [zC c21] at H
               have c21b0 := zF c21
               clear c21
               replace H := qb H; obtain ⟨t307, A22, H⟩ := H
               by_cases c23 : t307 = true
               ·subst c23
                have H1 : (flow_Succs.l0 k2 l0 x6_2 t303 (t303.length : Int) (wrap64 (x37_2 + 1))) = some r := by rw [zC rfl] at H; exact H
                clear H
                have H := H1
                clear H1
                have H' := zA H
                clear H
                have p306 : 0 ≤ (x37_2 : Int) := zB qA
                have q306 : x37_2 < (t303.length : Int) := zB qA
                obtain ⟨ad306, e306, hx306_0⟩ := Kd.at_int (Kd.R_reads' HO_35.out).2.2 x37_2 p306 q306
                cases e306
                replace p306 := eq_true p306
                replace q306 := eq_true q306
                obtain ⟨Ao24, co24, eo24⟩ := Kd.R_slice HO_6.out
                subst eo24
                go_wp2_with (first | (go_at_call 121; (with_reducible refine (slices_Contains_int_int.calls k2 _ _ x6_2 (rd t303 x37_2) true _ ?side1 ?side2 A22.out).mono ?_); (case side1 => repeat (first | exact (Kd.R_reads' HO_6.out).2.2 | (with_reducible refine Kd.C_alloc ?_ _) | (with_reducible refine Kd.C_drewN ?_ _) | (with_reducible refine Kd.C_drew ?_))); (case side2 => exact (Kd.R_reads' HO_6.out).2.1); (try clear A22); rintro e w' ⟨rfl, ⟨nd, rfl⟩⟩))
                go_roundg k2
                case measure => have := HJ2.out; have := HK2.out; omega
                case rel => exact ⟨(x6_2), (wrap64 (x37_2 + 1)), qT, H', ⟨by have := HJ2.out; have := HK2.out; omega⟩, ⟨qR HO_6.out⟩, ⟨qR HO_35.out⟩, ⟨qB⟩⟩
               ·replace c23 := Bool.eq_false_iff.mpr c23
                subst c23
                have H1 : (if x6_2.length < 17592186044416 then (flow_Succs.l0 k2 l0 (x6_2 ++ [rd t303 x37_2]) t303 (t303.length : Int) (wrap64 (x37_2 + 1))) else (none)) = some r := by rw [zD (show ¬ (false = true) by decide)] at H; exact H
                clear H
                have H := H1
                clear H1
                by_cases c25 : x6_2.length < 17592186044416
                ·rw [zC c25] at H
                 have LMc25 := zA c25
                 clear c25
                 obtain ⟨y308, hy308⟩ : ∃ y_ : List Int, y_ = (x6_2 ++ [rd t303 x37_2]) := ⟨_, rfl⟩
                 replace H : (flow_Succs.l0 k2 l0 y308 t303 (t303.length : Int) (wrap64 (x37_2 + 1))) = some r := by (try rw [hy308]); first | with_reducible exact H | exact (zJ _ _).symm.trans H | exact H
                 have Ny308 := zA hy308
                 clear hy308
                 have H' := zA H
                 clear H
                 have p306 : 0 ≤ (x37_2 : Int) := zB qA
                 have q306 : x37_2 < (t303.length : Int) := zB qA
                 obtain ⟨ad306, e306, hx306_0⟩ := Kd.at_int (Kd.R_reads' HO_35.out).2.2 x37_2 p306 q306
                 cases e306
                 replace p306 := eq_true p306
                 replace q306 := eq_true q306
                 obtain ⟨Ao26, co26, eo26⟩ := Kd.R_slice HO_6.out
                 subst eo26
                 go_wp2_with (first | (go_at_call 121; (with_reducible refine (slices_Contains_int_int.calls k2 _ _ x6_2 (rd t303 x37_2) false _ ?side1 ?side2 A22.out).mono ?_); (case side1 => repeat (first | exact (Kd.R_reads' HO_6.out).2.2 | (with_reducible refine Kd.C_alloc ?_ _) | (with_reducible refine Kd.C_drewN ?_ _) | (with_reducible refine Kd.C_drew ?_))); (case side2 => exact (Kd.R_reads' HO_6.out).2.1); (try clear A22); rintro e w' ⟨rfl, ⟨nd, rfl⟩⟩) | ((with_reducible refine gate_builtin (b := .append) (xs := #[.tmp 55, .tmp 57]) rfl ?_); (try (refine gate_guard (by rfl) ?_; dsimp only)); at_builtin; refine Kd.R_append (Kd.int .i64) (w0 := w) w.heap.size rfl (.tmp 55) (.tmp 57) 35 3 (.int .i64 0) 8 rfl Tryd.underlying35 info3 rfl (by decide) (by omega) (.slice Ao26 x6_2.length co26) x6_2 (rd t303 x37_2) [.int .i64 (rd t303 x37_2)] (fun k_ => some k_ ≠ (.slice (some ad306) t303.length co16 : Value).ownBlock) (fun _ => False) rfl rfl ?aP (fun _ hk => hk.elim) ?aF ?aO ?aB ?aS ?aL ?_; (case aP => exact rfl); (case aB => exact qB); (case aF => exact (fun k_ hk => Kd.fresh' (Kd.R_lt (qR HO_35.out)) k_ hk)); (case aO => exact (qR HO_6.out)); (case aS => exact (below_size qB)); (case aL => have := LMc25.out; omega); intro v309 w27 ho hb hg hat; rw [← Ny308.out] at ho; replace HO_35 := zA (Kd.R_after (ok := (fun _ => True)) (by (with_reducible repeat (first | apply Kd.R_alloc | apply Kd.R_drewN | apply Kd.R_drew)); exact Kd.R_mono HO_35.out (fun _ hk => ⟨trivial, hk⟩)) hg hat); replace HB := zA (hb); have HO310 := zA (ho); clear HO_6; clear ho hb hg hat))
                 go_roundg k2
                 case measure => have := HJ2.out; have := HK2.out; omega
                 case rel => exact ⟨(y308), (wrap64 (x37_2 + 1)), qT, H', ⟨by have := HJ2.out; have := HK2.out; omega⟩, ⟨qR HO310.out⟩, ⟨by (with_reducible repeat (first | apply Kd.R_alloc | apply Kd.R_drewN | apply Kd.R_drew)); exact Kd.R_mono HO_35.out (fun _ hk => hk.2)⟩, ⟨qB⟩⟩
                ·rw [zD c25] at H
                 exact absurd H (by simp)
              ·rw [zD c21] at H
               have c21b0 := zG c21
               clear c21
               have H' := zA H
               clear H
               have p306 : 0 ≤ (x37_2 : Int) := zB qA
               have q306 : x37_2 < (t303.length : Int) := zB qA
               obtain ⟨ad306, e306, hx306_0⟩ := Kd.at_int (Kd.R_reads' HO_35.out).2.2 x37_2 p306 q306
               cases e306
               replace p306 := eq_true p306
               replace q306 := eq_true q306
               go_wp2
               go_roundg k2
               case measure => have := HJ2.out; have := HK2.out; omega
               case rel => exact ⟨(x6_2), (wrap64 (x37_2 + 1)), qT, H', ⟨by have := HJ2.out; have := HK2.out; omega⟩, ⟨qR HO_6.out⟩, ⟨qR HO_35.out⟩, ⟨qB⟩⟩
             ·rw [zD c20] at H
              have c20b0 : decide (0 ≤ (rd t303 x37_2)) = false := zG c20
              clear c20
              have H' := zA H
              clear H
              have p306 : 0 ≤ (x37_2 : Int) := zB qA
              have q306 : x37_2 < (t303.length : Int) := zB qA
              obtain ⟨ad306, e306, hx306_0⟩ := Kd.at_int (Kd.R_reads' HO_35.out).2.2 x37_2 p306 q306
              cases e306
              replace p306 := eq_true p306
              replace q306 := eq_true q306
              go_wp2
              go_roundg k2
              case measure => have := HJ2.out; have := HK2.out; omega
              case rel => exact ⟨(x6_2), (wrap64 (x37_2 + 1)), qT, H', ⟨by have := HJ2.out; have := HK2.out; omega⟩, ⟨qR HO_6.out⟩, ⟨qR HO_35.out⟩, ⟨qB⟩⟩
            ·rw [zD c19] at H
             exact absurd H (by simp)
           ·rw [zD c18] at H
            exact absurd H (by simp)
          ·rw [zD c17] at H
           have c17b0 := zG c17
           clear c17
           obtain rfl := zI H
           go_wp2
           go_ret
           exact ⟨_, by first | rfl | (simp [errW_none, errW_some] <;> rfl) | (simp only [← hji11]; first | rfl | (simp [errW_none, errW_some] <;> rfl)) | (simp [*, errW_none, errW_some] <;> rfl), by (with_reducible repeat (first | apply Kd.R_alloc | apply Kd.R_drewN | apply Kd.R_drew)); exact Kd.R_mono HO_6.out (fun _ hk => trivial), qB⟩
       ·rw [zD c13] at H
        exact absurd H (by simp)
      ·rw [zD c12] at H
       exact absurd H (by simp)
     ·rw [zD c10] at H
      exact absurd H (by simp)
    ·rw [zD c9] at H
     exact absurd H (by simp)

def slices_Reverse_int_int.l0 : Nat → List Int → Int → Int → Option (List Int)
 | 0, _, _, _ => none
 | k + 1, x0, x2, x3 => if x2 < x3 then (if 0 ≤ x3 then (if x3 < (x0.length : Int) then (if 0 ≤ x2 then (if x2 < (x0.length : Int) then (slices_Reverse_int_int.l0 k ((x0.set (x2 : Int).toNat (rd x0 x3)).set (x3 : Int).toNat (rd x0 x2)) (wrap64 (x2 + 1)) (wrap64 (x3 - 1))) else (none)) else (none)) else (none)) else (none)) else (some x0)
def slices_Reverse_int_int.f (k : Nat) (l0 : List Int) : Option (List Int) := slices_Reverse_int_int.l0 k l0 0 (wrap64 ((l0.length : Int) - 1))
def slices_Reverse_int_int.T3 : Bool × List (List Nat × List Nat) := (true, [([], []), ([], []), ([], []), ([], []), ([], []), ([], []), ([4, 5], [4, 5]), ([6], [6]), ([], []), ([], []), ([8, 9], [8, 9]), ([10], [10]), ([0, 1, 0, 1, 4, 5, 6, 7, 11], [0, 1]), ([12, 7, 0, 1, 4, 5, 6, 7, 11], [7, 12]), ([2, 3, 0, 1, 2, 3, 4, 5, 6, 7, 8, 9, 10, 11, 12, 13], [2, 3]), ([14, 11, 13, 0, 1, 2, 3, 4, 5, 6, 7, 8, 9, 10, 11, 12, 13], [11, 14])])
def slices_Reverse_int_int.B3 : List Nat := [0, 0, 0, 0, 0, 0, 48, 112, 0, 0, 768, 1792, 4083, 8179, 16383, 32767]
theorem slices_Reverse_int_int.tab3 : rtab .any (opsOf Tryd.f82 3) = slices_Reverse_int_int.T3 := by kernel_rfl
theorem slices_Reverse_int_int.bits3 : waitsOk slices_Reverse_int_int.T3.2 slices_Reverse_int_int.B3 = true := by kernel_rfl
set_option maxHeartbeats 8000000 in
set_option maxRecDepth 100000 in
theorem slices_Reverse_int_int.calls (k : Nat) (P0_ : Nat → Prop) (u9000_ : Value) (l0 : List Int) (r : List Int) (w0 w : World) (hB : Below w0.heap.size w0 w) (ho0 : Kd.R (Kd.int .i64) 3 w w0.heap.size P0_ u9000_ l0) (h : slices_Reverse_int_int.f k l0 = some r) :
 Calls Tryd.prog 82 #[u9000_] w fun e w' => e = .returned (.tuple #[]) ∧ Kd.R (Kd.int .i64) 3 w' w0.heap.size (fun k_ => (P0_ k_ ∨ w.heap.size ≤ k_)) u9000_ r ∧ Below w0.heap.size w0 w' ∧ Kept w w' (fun k_ => P0_ k_) := by
 have HO0 := zA (show Kd.R (Kd.int .i64) 3 w w0.heap.size (fun k_ => (P0_ k_ ∨ w.heap.size ≤ k_)) u9000_ l0 from Kd.R_mono ho0 (fun k_ hk => (.inl hk)))
 have HK := zA (Kept.refl w (fun k_ => P0_ k_))
 have HW0 := zA hB.size
 have HB := zA hB
 clear hB
 have H := h; clear h; unfold slices_Reverse_int_int.f at H
 have H' := zA H
 clear H
 obtain ⟨Ao2, co2, eo2⟩ := Kd.R_slice HO0.out
 subst eo2
 go_enter Tryd.func82, Tryd.ntmps82
 go_wp2
 go_loopg [2, 3] k (fun kq v2 v3 w' => ∃ (x0_1 : List Int) (x2_1 : Int) (x3_1 : Int), v2 = .int .i64 x2_1 ∧ v3 = .int .i64 x3_1 ∧ Aside0 (slices_Reverse_int_int.l0 kq x0_1 x2_1 x3_1 = some r) ∧ Aside0 (kq ≤ k) ∧ Aside0 (Kd.R (Kd.int .i64) 3 w' w0.heap.size (fun k_ => (P0_ k_ ∨ w.heap.size ≤ k_)) (.slice Ao2 l0.length co2) x0_1) ∧ Aside0 (Kept w w' (fun k_ => P0_ k_)) ∧ Aside0 (Below w0.heap.size w0 w'))
 case atStart => exact ⟨(l0), (0), (wrap64 ((l0.length : Int) - 1)), qT, qT, H', ⟨Nat.le_refl _⟩, ⟨qR HO0.out⟩, ⟨by repeat (first | (with_reducible first | exact HK.out | apply Kept.alloc | apply Kept.drewN | apply Kept.drew) | exact HK.out)⟩, ⟨qB⟩⟩
 case round =>
  clear H'
  obtain ⟨x0_1, x2_1, x3_1, rfl, rfl, HA, HK1, HO_0, HK, HB⟩ := hrel
  have hl0_1 := (Kd.R_reads' HO_0.out).1
  rw [hl0_1] at HO_0
  (try simp only [hl0_1])
  cases gk with
  | zero => exact absurd HA.out (by simp [slices_Reverse_int_int.l0])
  | succ k1 =>
   have H := HA.out
   clear HA
   simp only [slices_Reverse_int_int.l0] at H
   by_cases c3 : x2_1 < x3_1
   ·rw [zC c3] at H
    have c3b0 := zF c3
    clear c3
    by_cases c4 : 0 ≤ x3_1
    ·rw [zC c4] at H
     have c4b0 := zF c4
     clear c4
     by_cases c5 : x3_1 < (x0_1.length : Int)
     ·rw [zC c5] at H
      have c5b0 := zF c5
      clear c5
      by_cases c6 : 0 ≤ x2_1
      ·rw [zC c6] at H
       have c6b0 := zF c6
       clear c6
       by_cases c7 : x2_1 < (x0_1.length : Int)
       ·rw [zC c7] at H
        have c7b0 := zF c7
        clear c7
        obtain ⟨y366, hy366⟩ : ∃ y_ : List Int, y_ = (x0_1.set (x2_1 : Int).toNat (rd x0_1 x3_1)) := ⟨_, rfl⟩
        replace H : (slices_Reverse_int_int.l0 k1 (y366.set (x3_1 : Int).toNat (rd x0_1 x2_1)) (wrap64 (x2_1 + 1)) (wrap64 (x3_1 - 1))) = some r := by (try rw [hy366]); first | with_reducible exact H | exact (zJ _ _).symm.trans H | exact H
        have Ny366 := zA hy366
        clear hy366
        obtain ⟨y367, hy367⟩ : ∃ y_ : List Int, y_ = (y366.set (x3_1 : Int).toNat (rd x0_1 x2_1)) := ⟨_, rfl⟩
        replace H : (slices_Reverse_int_int.l0 k1 y367 (wrap64 (x2_1 + 1)) (wrap64 (x3_1 - 1))) = some r := by (try rw [hy367]); first | with_reducible exact H | exact (zJ _ _).symm.trans H | exact H
        have Ny367 := zA hy367
        clear hy367
        have H' := zA H
        clear H
        try go_wp2
        have n0_ := zA (Kd.R_drew HO_0.out)
        have n1_ := zA (Kept.drew HK.out)
        have n2_ := zA (below_drew1 HB.out)
        clear HO_0
        clear HK
        clear HB
        have HO_0 := n0_
        have HK := n1_
        have HB := n2_
        clear n0_ n1_ n2_
        have p364 : 0 ≤ (x3_1 : Int) := zB qA
        have q364 : x3_1 < (x0_1.length : Int) := zB qA
        obtain ⟨ad364, e364, hx364_0⟩ := Kd.at_int (Kd.R_reads' HO_0.out).2.2 x3_1 p364 q364
        cases e364
        replace p364 := eq_true p364
        replace q364 := eq_true q364
        have p365 : 0 ≤ (x2_1 : Int) := zB qA
        have q365 : x2_1 < (x0_1.length : Int) := zB qA
        obtain ⟨ad365, e365, hx365_0⟩ := Kd.at_int (Kd.R_reads' HO_0.out).2.2 x2_1 p365 q365
        obtain rfl : ad364 = ad365 := (by injection e365)
        replace p365 := eq_true p365
        replace q365 := eq_true q365
        have p8 : 0 ≤ (x2_1 : Int) := zB qA
        have q8 : (x2_1 : Int) < ((x0_1.length : Int) : Int) := zB qA
        obtain ⟨go8, co8, eo8, gb8, gl8, cl8, HG8⟩ := Kd.R_form HO_0.out (by omega)
        (first | cases eo8 | (injection eo8 with ea_ en_ ec_; (first | subst ea_ | (injection ea_ with ea_; subst ea_)); subst ec_; clear en_))
        have GB8 := zA gb8
        have GG8 := zA HG8
        clear gb8 gl8 HG8
        have HMgo8 := zA (show (P0_ go8 ∨ w.heap.size ≤ go8) from (HO_0.out.1 _ rfl))
        (first | simp only [add_plain] at hx364_0 | skip)
        (first | simp only [add_plain] at hx365_0 | skip)
        obtain ⟨hx8_0, hf8_0⟩ := Kd.R_celln 0 HO_0.out (x2_1 : Int) p8 q8
        replace p8 := eq_true p8
        replace q8 := eq_true q8
        have HP11 := Kd.R_putn HO_0.out (x2_1 : Int) (rd x0_1 x3_1)
        rw [← Ny366.out] at HP11
        have HQ11 := zA HP11
        clear HP11
        have p9 : 0 ≤ (x3_1 : Int) := zB qA
        have q9 : (x3_1 : Int) < ((x0_1.length : Int) : Int) := zB qA
        obtain ⟨hx9_0, hf9_0⟩ := Kd.R_celln 0 HQ11.out (x3_1 : Int) p9 q9
        replace p9 := eq_true p9
        replace q9 := eq_true q9
        have HP12 := Kd.R_putn HQ11.out (x3_1 : Int) (rd x0_1 x2_1)
        rw [← Ny367.out] at HP12
        have HQ12 := zA HP12
        clear HP12
        refine start_ (n := 16) (S := fun w' => w'.cell? ⟨go8, (x3_1).toNat, none⟩ = some (.int .i64 (rd x0_1 x3_1)) ∧ w'.cell? ⟨go8, (x2_1).toNat, none⟩ = some (.int .i64 (rd x0_1 x2_1))) (ds := [13, 15]) (bA 16 0) (by kernel_rfl) rfl rfl ⟨hx364_0, hx365_0⟩ (fun hHeld => ?_); refine with_tabW slices_Reverse_int_int.tab3 slices_Reverse_int_int.bits3 (fun HT_ HW_ => ?_)
        generalize wr.drew = w10 at HO_0 HK HB GG8 HQ11 HQ12 hf8_0 hf9_0 hx364_0 hx365_0 hx8_0 hx9_0 hHeld ⊢
        refine pu_ (i := 0) (N := some 14) (bA 16 1) ?_
        refine pu_ (i := 1) (N := some 15) (bA 16 3) ?_
        refine pu_ (i := 2) (N := some 16) (bA 16 7) ?_
        refine pu_ (i := 3) (N := some 17) (bA 16 15) ?_
        refine pu_ (i := 4) (N := some 18) (bA 16 31) ?_
        refine pu_ (i := 5) (N := some 19) (bA 16 63) ?_
        refine pu_ (i := 6) (N := some 20) (bA 16 127) ?_
        refine pu_ (i := 8) (N := some 22) (bA 16 383) ?_
        refine pu_ (i := 9) (N := some 23) (bA 16 895) ?_
        refine pu_ (i := 10) (N := some 24) (bA 16 1919) ?_
        refine tk_ (i := 7) (N := some 21) (bA 16 2047) ?_
        refine tk_ (i := 11) (N := some 25) (bA 16 4095) ?_
        refine pu_ (i := 12) (N := some 26) (bA 16 8191) ?_
        refine last_ (i := 13) (N := none) (bA 16 16383) rfl rfl (one_of HT_.out (by kernel_rfl)) (by decide) (fun K hK => ?_)
        refine skip_ (w1 := ?_) (by rfl) rfl ?_ ?_
        rotate_left
        ·go_simp
         rfl
        refine hK.out _ _ ?_
        clear hK K
        refine pu_ (i := 14) (N := some 27) (bA 16 32767) ?_
        refine last_ (i := 15) (N := none) (bA 16 65535) rfl rfl (one_of HT_.out (by kernel_rfl)) (by decide) (fun K hK => ?_)
        refine skip_ (w1 := ?_) (by rfl) rfl ?_ ?_
        rotate_left
        ·go_simp
         rfl
        refine hK.out _ _ ?_
        clear hK K
        refine done_ (done_of HT_.out (by kernel_rfl)) ?_
        try go_wp2
        (try simp only [← hl0_1])
        go_roundg k1
        case measure => have := HK1.out; omega
        case rel => exact ⟨(y367), (wrap64 (x2_1 + 1)), (wrap64 (x3_1 - 1)), qT, qT, H', ⟨by have := HK1.out; omega⟩, ⟨by (try simp only [hl0_1]); (with_reducible repeat (first | apply Kd.R_alloc | apply Kd.R_drewN | apply Kd.R_drew)); exact HQ12.out⟩, ⟨by repeat (first | (with_reducible first | exact HK.out | apply Kept.alloc | apply Kept.drewN | apply Kept.drew | refine Kept.setCell ?_ HMgo8.out _ | refine Kept.setCell ?_ HMgo8.out _) | exact HK.out)⟩, ⟨by repeat (first | (with_reducible first | exact HB.out | apply below_alloc | apply pw_below_drewN | apply below_drew1 | refine below_set ?_ GB8.out | refine below_set ?_ GB8.out) | exact HB.out)⟩⟩
       ·rw [zD c7] at H
        exact absurd H (by simp)
      ·rw [zD c6] at H
       exact absurd H (by simp)
     ·rw [zD c5] at H
      exact absurd H (by simp)
    ·rw [zD c4] at H
     exact absurd H (by simp)
   ·rw [zD c3] at H
    have c3b0 := zG c3
    clear c3
    obtain rfl := zI H
    go_wp2
    first | go_end0 | ((try simp only [Exit.inBlock, Exit.then]); refine bodyPost_ret (results_none rfl _ _ _) rfl ?_)
    exact ⟨qE, (by first | exact (qR HO_0.out) | (simp only [hl0_1]; exact (qR HO_0.out))), qB, by repeat (first | (with_reducible first | exact HK.out | apply Kept.alloc | apply Kept.drewN | apply Kept.drew) | exact HK.out)⟩
end Go.Proofs.YtpkimbkjjmbmcaaDoor.Q
namespace Go.Proofs.YtpkimbkjjmbmcaaDoor.Q
open Go.RowKit Go.Proofs.YtpkimbkjjmbmcaaDoorW.PrintWords Go.Proofs.YtpkimbkjjmbmcaaDoorW.PrintLast Go.Proofs.YtpkimbkjjmbmcaaDoorW.PrintMore
set_option linter.unusedVariables false
set_option linter.unusedSimpArgs false
mutual
def flow_Order_1.l0 : Nat → List (List SIns) → Int → List Bool → List Int → List Int → Int → Option (List Bool × List Int)
 | 0, _, _, _, _, _, _ => none
 | k + 1, x, i, met, out, s, j =>
  if j < (s.length : Int) then
   if 0 ≤ j then
    if 0 ≤ rd s j then
     if rd s j < (met.length : Int) then
      if rdOf false met (rd s j) = true then flow_Order_1.l0 k x i met out s (wrap64 (j + 1))
      else (flow_Order_1.f k x (rd s j) met out).bind fun b => flow_Order_1.l0 k x i b.1 b.2 s (wrap64 (j + 1))
     else none
    else none
   else none
  else if out.length < 17592186044416 then some (met, out ++ [i]) else none
def flow_Order_1.f : Nat → List (List SIns) → Int → List Bool → List Int → Option (List Bool × List Int)
 | 0, _, _, _, _ => none
 | k + 1, x, i, met, out =>
  if 0 ≤ i then
   if i < (met.length : Int) then (flow_Succs.f k x i).bind fun s => flow_Order_1.l0 k x i (met.set i.toNat true) out s 0
   else none
  else none
end
structure OrderSt (w0 w : World) (gm gb gv go : Nat) (vm vo : Value) (A : Option Addr) (c : Nat) (x : List (List SIns)) (met : List Bool) (out : List Int) : Prop where
 bm : w.heap[gm]? = some (.cells #[vm] 43 (0, 0))
 bb : w.heap[gb]? = some (.cells #[.slice A x.length c] 22 (0, 0))
 bv : w.heap[gv]? = some (.cells #[.func (.func 80) #[] #[.pointer (some ⟨gm, 0, none⟩), .pointer (some ⟨gb, 0, none⟩), .pointer (some ⟨gv, 0, none⟩), .pointer (some ⟨go, 0, none⟩)]] 125 (0, 0))
 bo : w.heap[go]? = some (.cells #[vo] 35 (0, 0))
 hm : Kd.R Kd.bool 4 w w0.heap.size (fun _ => True) vm met
 ho : Kd.R (Kd.int .i64) 3 w w0.heap.size (fun _ => True) vo out
 hB : Below w0.heap.size w0 w
 gem : w0.heap.size ≤ gm
 geb : w0.heap.size ≤ gb
 gev : w0.heap.size ≤ gv
 geo : w0.heap.size ≤ go
 hx : Kd.C (Kd.slice 38 kIns) w0 A x.length x
 hc : x.length ≤ c
section
variable {w0 w w1 : World} {gm gb gv go : Nat} {vm vo vo' : Value} {A : Option Addr} {c : Nat} {x : List (List SIns)} {met : List Bool} {out : List Int}
theorem OrderSt.typm (hs : OrderSt w0 w gm gb gv go vm vo A c x met out) : ∀ k, vm.ownBlock = some k → ∃ cells, w.heap[k]? = some (.cells cells 4 (0, 0)) := Kd.R_typed hs.hm
theorem OrderSt.typo (hs : OrderSt w0 w gm gb gv go vm vo A c x met out) : ∀ k, vo.ownBlock = some k → ∃ cells, w.heap[k]? = some (.cells cells 3 (0, 0)) := Kd.R_typed hs.ho
theorem ne_own {g t t' : Nat} {cs : Array Value} {v : Value} (h : w.heap[g]? = some (.cells cs t (0, 0))) (ht : ∀ k, v.ownBlock = some k → ∃ cells, w.heap[k]? = some (.cells cells t' (0, 0))) (hne : t ≠ t') : v.ownBlock ≠ some g := by
 intro e
 obtain ⟨cells, hc⟩ := ht g e
 exact blk_ne h hc hne rfl
theorem OrderSt.below (hs : OrderSt w0 w gm gb gv go vm vo A c x met out) (hb : Below w.heap.size w w1) : OrderSt w0 w1 gm gb gv go vm vo A c x met out :=
 ⟨blk_below hs.bm hb, blk_below hs.bb hb, blk_below hs.bv hb, blk_below hs.bo hb, Kd.R_below hs.hm hb, Kd.R_below hs.ho hb, below_step hs.hB hb, hs.gem, hs.geb, hs.gev, hs.geo, hs.hx, hs.hc⟩
theorem OrderSt.putm {gx n cx : Nat} (hs : OrderSt w0 w gm gb gv go (.slice (some ⟨gx, 0, none⟩) n cx) vo A c x met out) (i : Int) (b : Bool) :
 OrderSt w0 (w.setCell ⟨gx, i.toNat, none⟩ (.bool b)) gm gb gv go (.slice (some ⟨gx, 0, none⟩) n cx) vo A c x (met.set i.toNat b) out := by
 obtain ⟨h1, h2⟩ := Kd.R_putg hs.hm i b
 obtain ⟨cells, hc⟩ := hs.typm gx (by simp [Value.ownBlock])
 exact ⟨blk_far hs.bm (p := ⟨gx, _, none⟩) (blk_ne hs.bm hc (by decide)) _, blk_far hs.bb (p := ⟨gx, _, none⟩) (blk_ne hs.bb hc (by decide)) _, blk_far hs.bv (p := ⟨gx, _, none⟩) (blk_ne hs.bv hc (by decide)) _, blk_far hs.bo (p := ⟨gx, _, none⟩) (blk_ne hs.bo hc (by decide)) _,
  h1, Kd.R_over' (v := .slice (some ⟨gx, 0, none⟩) n cx) hs.ho hs.typm (by decide) h2, below_set hs.hB (Kd.R_base hs.hm gx (by simp [Value.ownBlock])), hs.gem, hs.geb, hs.gev, hs.geo, hs.hx, hs.hc⟩
theorem OrderSt.app (hs : OrderSt w0 w gm gb gv go vm vo A c x met out) {out' : List Int} (ho : Kd.R (Kd.int .i64) 3 w1 w0.heap.size (fun _ => True) vo' out') (hB : Below w0.heap.size w0 w1) (hg : w.grownBy w1 vo.ownBlock) :
 OrderSt w0 (w1.setCell ⟨go, 0, none⟩ vo') gm gb gv go vm vo' A c x met out' := by
 have n1 := ne_own hs.bm hs.typo (by decide)
 have n2 := ne_own hs.bb hs.typo (by decide)
 have n3 := ne_own hs.bv hs.typo (by decide)
 have n4 := ne_own hs.bo hs.typo (by decide)
 have m1 := blk_grown hs.bm hg (Ne.symm n1)
 have m2 := blk_grown hs.bb hg (Ne.symm n2)
 have m3 := blk_grown hs.bv hg (Ne.symm n3)
 have m4 := blk_grown hs.bo hg (Ne.symm n4)
 exact ⟨blk_far m1 (p := ⟨go, 0, none⟩) (blk_ne m1 m4 (by decide)) _, blk_far m2 (p := ⟨go, 0, none⟩) (blk_ne m2 m4 (by decide)) _, blk_far m3 (p := ⟨go, 0, none⟩) (blk_ne m3 m4 (by decide)) _, blk_put m4 0 _ rfl,
  Kd.R_set (Kd.R_over' hs.hm hs.typo (by decide) hg) m4 (by decide) 0 _, Kd.R_set ho m4 (by decide) 0 _, below_set hB hs.geo, hs.gem, hs.geb, hs.gev, hs.geo, hs.hx, hs.hc⟩
end
abbrev OrderMay (go : Nat) (vm vo : Value) : Nat → Prop := fun b => b = go ∨ vm.ownBlock = some b ∨ vo.ownBlock = some b
set_option maxHeartbeats 8000000 in
set_option maxRecDepth 100000 in
theorem flow_Order_1.calls (k : Nat) : ∀ (x : List (List SIns)) (i : Int) (met : List Bool) (out : List Int) (met' : List Bool) (out' : List Int) (w0 w : World) (gm gb gv go : Nat) (vm vo : Value) (A : Option Addr) (c : Nat)
 (h : flow_Order_1.f k x i met out = some (met', out')) (hs : OrderSt w0 w gm gb gv go vm vo A c x met out),
 Calls Tryd.prog 80 #[.int .i64 i, .pointer (some ⟨gm, 0, none⟩), .pointer (some ⟨gb, 0, none⟩), .pointer (some ⟨gv, 0, none⟩), .pointer (some ⟨go, 0, none⟩)] w fun e w' =>
  e = .returned (.tuple #[]) ∧ ∃ vo', OrderSt w0 w' gm gb gv go vm vo' A c x met' out' ∧ Kept w w' (OrderMay go vm vo) ∧ ∀ b, vo'.ownBlock = some b → vo.ownBlock = some b ∨ w.heap.size ≤ b := by
 induction k using Nat.strongRecOn with
 | _ k ih =>
 intro x i met out met' out' w0 w gm gb gv go vm vo A c h hs
 cases k with
 | zero => exact absurd h (by simp [flow_Order_1.f])
 | succ k =>
 simp only [flow_Order_1.f] at h
 by_cases c1 : ¬ 0 ≤ i
 ·rw [zD c1] at h
  exact absurd h (by simp)
 replace c1 := Decidable.not_not.1 c1
 rw [zC c1] at h
 by_cases c2 : ¬ i < (met.length : Int)
 ·rw [zD c2] at h
  exact absurd h (by simp)
 replace c2 := Decidable.not_not.1 c2
 rw [zC c2] at h
 replace h := Option.bind_eq_some_iff.mp h
 obtain ⟨s, hsu, h⟩ := h
 have HSU := zA hsu
 have H := zA h
 have IH := zA ih
 clear hsu h ih
 obtain ⟨gx, cx, ex, gbx, glx, clx, HGx⟩ := Kd.R_form hs.hm (by omega)
 subst ex
 have HS := zA hs
 clear hs gbx glx HGx clx
 obtain ⟨hx0, hf0⟩ := Kd.R_celln false HS.out.hm i c1 c2
 have cm : w.cell? ⟨gm, 0, none⟩ = some _ := blk_cell HS.out.bm 0
 have HS1 := zA (HS.out.putm i true)
 go_enter Tryd.func80, Tryd.ntmps80
 go_wp2_with (first
  | ((with_reducible refine gate_store (t := 4) (p := 10) rfl ?_); refine store_event (t := 4) (p := 10) (v := ?vo_) (w1 := (w.setCell ⟨gx, i.toNat, none⟩ (.bool true))) ?hg ?ho ?hn ?hr ?_; (case ho => rfl); (case hg => rfl); (case hn => rfl); (case hr => go_simp <;> rfl); intro w1 hw; rw [← hw] at HS1; have HK1 := zA (hw ▸ Kept.setCell (S := OrderMay go (.slice (some ⟨gx, 0, none⟩) met.length cx) vo) (Kept.refl w _) (.inl (.inr (.inl (by simp [Value.ownBlock])))) _); clear hw cm hx0 hf0; have cb : w1.cell? ⟨gb, 0, none⟩ = some _ := blk_cell HS1.out.bb 0)
  | ((with_reducible refine gate_callee (f := 81) rfl ?_); refine goesL_ (some 13) rfl rfl Tryd.func81 (by kernel_rfl) rfl #[.slice A x.length c, .int .i64 i] rfl (by (try simp only [List.map_toArray, List.map_cons, List.map_nil]); first | done | rfl) ?_; (with_reducible refine (flow_Succs.calls k _ _ x i s _ ?side1 ?side2 HSU.out).mono ?_); (case side1 => repeat (first | exact (Kd.C_below HS1.out.hx HS1.out.hB) | (with_reducible refine Kd.C_alloc ?_ _) | (with_reducible refine Kd.C_drewN ?_ _) | (with_reducible refine Kd.C_drew ?_))); (case side2 => exact HS1.out.hc); rintro e w2 ⟨v0, rfl, ho0, hb⟩; refine ⟨_, rfl, ?_⟩;
      obtain ⟨As, cs, es⟩ := Kd.R_slice ho0; subst es; have HS2 := zA (HS1.out.below hb); have HK2 := zA (Kept.below HK1.out hb);
      have HR := zA (show Kd.R (Kd.int .i64) 3 w2 0 (fun k_ => k_ ≠ go ∧ some k_ ≠ (Value.slice (some ⟨gx, 0, none⟩) met.length cx).ownBlock ∧ some k_ ≠ vo.ownBlock) (.slice As s.length cs) s from Kd.R_lower (Kd.R_mono (Kd.R_bound ho0) (fun k_ hk => ⟨fun e_ => by have := blk_lt HS1.out.bo; omega, fun e_ => by have := Kd.R_lt HS1.out.hm k_ e_.symm; omega, fun e_ => by have := Kd.R_lt HS1.out.ho k_ e_.symm; omega⟩)) (Nat.zero_le _));
      clear HS1 HK1 ho0 hb HSU cb))
 go_loopg [15] k (fun kq v15 w' => ∃ (met1 : List Bool) (out1 : List Int) (vo1 : Value) (j : Int), v15 = .int .i64 j ∧ Aside0 (flow_Order_1.l0 kq x i met1 out1 s j = some (met', out')) ∧ Aside0 (kq ≤ k) ∧
  Aside0 (OrderSt w0 w' gm gb gv go (.slice (some ⟨gx, 0, none⟩) met.length cx) vo1 A c x met1 out1) ∧ Aside0 (Kept w w' (OrderMay go (.slice (some ⟨gx, 0, none⟩) met.length cx) vo)) ∧
  Aside0 (∀ b, vo1.ownBlock = some b → vo.ownBlock = some b ∨ w.heap.size ≤ b) ∧
  Aside0 (Kd.R (Kd.int .i64) 3 w' 0 (fun k_ => k_ ≠ go ∧ some k_ ≠ (Value.slice (some ⟨gx, 0, none⟩) met.length cx).ownBlock ∧ some k_ ≠ vo1.ownBlock) (.slice As s.length cs) s))
 case atStart => exact ⟨_, _, _, 0, by first | rfl | simp, H, ⟨Nat.le_refl _⟩, HS2, HK2, ⟨fun _ h => .inl h⟩, HR⟩
 case round =>
  clear H HS2 HK2 HR
  obtain ⟨met1, out1, vo1, j, rfl, HA, HK1, HS1, HK, HV, HR⟩ := hrel
  cases gk with
  | zero => exact absurd HA.out (by simp [flow_Order_1.l0])
  | succ k1 =>
   have H := HA.out
   clear HA
   simp only [flow_Order_1.l0] at H
   by_cases c3 : j < (s.length : Int)
   ·rw [zC c3] at H
    have c3b0 : decide (j < (s.length : Int)) = true := zF c3
    by_cases c4 : ¬ 0 ≤ j
    ·rw [zD c4] at H
     exact absurd H (by simp)
    replace c4 := Decidable.not_not.1 c4
    rw [zC c4] at H
    by_cases c5 : ¬ 0 ≤ rd s j
    ·rw [zD c5] at H
     exact absurd H (by simp)
    replace c5 := Decidable.not_not.1 c5
    rw [zC c5] at H
    by_cases c6 : ¬ rd s j < (met1.length : Int)
    ·rw [zD c6] at H
     exact absurd H (by simp)
    replace c6 := Decidable.not_not.1 c6
    rw [zC c6] at H
    obtain ⟨ad, ea, hx1⟩ := Kd.at_int (Kd.R_reads' HR.out).2.2 j c4 c3
    cases ea
    replace c6 : rd s j < (met.length : Int) := by have := (Kd.R_reads' HS1.out.hm).1; omega
    obtain ⟨hx2, hf2⟩ := Kd.R_celln false HS1.out.hm (rd s j) c5 c6
    have cm : wr.cell? ⟨gm, 0, none⟩ = some _ := blk_cell HS1.out.bm 0
    have cv : wr.cell? ⟨gv, 0, none⟩ = some _ := blk_cell HS1.out.bv 0
    by_cases c7 : rdOf false met1 (rd s j) = true
    ·rw [zC c7] at H
     have H' := zA H
     clear H
     have c7b : (!rdOf false met1 (rd s j)) = false := by rw [c7]; rfl
     clear c7
     go_wp2_with fail
     go_roundg k1
     case measure => have := HK1.out; omega
     case rel => exact ⟨met1, out1, vo1, _, by first | rfl | simp, H', ⟨by have := HK1.out; omega⟩, HS1, HK, HV, HR⟩
    ·rw [zD c7] at H
     replace H := Option.bind_eq_some_iff.mp H
     obtain ⟨b, hb0, H⟩ := H
     have H' := zA H
     have HB0 := zA hb0
     clear H hb0
     have c7b : (!rdOf false met1 (rd s j)) = true := by rw [Bool.eq_false_iff.mpr c7]; rfl
     clear c7
     go_wp2_with fail
     refine (IH.out k1 (by have := HK1.out; omega) x (rd s j) met1 out1 b.1 b.2 w0 wr gm gb gv go _ vo1 A c HB0.out HS1.out).mono ?_
     rintro e w3 ⟨rfl, vo3, hs3, hk3, hv3⟩
     have HS3 := zA hs3
     have HK3 := zA (Kept.then_ HK.out hk3 (fun b hb => by
      rcases hb with hb | hb | hb
      ·exact .inl (.inl hb)
      ·exact .inl (.inr (.inl hb))
      ·rcases HV.out b hb with h | h
       ·exact .inl (.inr (.inr h))
       ·exact .inr h))
     have HV3 := zA (show ∀ b, vo3.ownBlock = some b → vo.ownBlock = some b ∨ w.heap.size ≤ b from fun b hb => by
      rcases hv3 b hb with h | h
      ·exact HV.out b h
      ·exact .inr (Nat.le_trans HK.out.1 h))
     have HR3 := zA (show Kd.R (Kd.int .i64) 3 w3 0 (fun k_ => k_ ≠ go ∧ some k_ ≠ (Value.slice (some ⟨gx, 0, none⟩) met.length cx).ownBlock ∧ some k_ ≠ vo3.ownBlock) (.slice (some ad) s.length cs) s from
      Kd.R_mono (Kd.R_step (Kd.R_bound HR.out) (fun q hq hlt => hk3.2 q hlt (fun hm => by
       rcases hm with h | h | h
       ·exact hq.1.1 h
       ·exact hq.1.2.1 h.symm
       ·exact hq.1.2.2 h.symm))) (fun q hq => ⟨hq.1.1, hq.1.2.1, fun e_ => by
        rcases hv3 q e_.symm with h | h
        ·exact hq.1.2.2 h.symm
        ·have := hq.2.2.1; omega⟩))
     clear hs3 hk3 hv3 HS1 HK HV HR
     go_wp2_with fail
     go_roundg k1
     case measure => have := HK1.out; omega
     case rel => exact ⟨b.1, b.2, vo3, _, by first | rfl | simp, H', ⟨by have := HK1.out; omega⟩, HS3, HK3, HV3, HR3⟩
   ·rw [zD c3] at H
    have c3b0 : decide (j < (s.length : Int)) = false := zG c3
    by_cases c4 : ¬ out1.length < 17592186044416
    ·rw [zD c4] at H
     exact absurd H (by simp)
    replace c4 := Decidable.not_not.1 c4
    rw [zC c4] at H
    have HE := zA (Prod.mk.inj (zI H))
    have HL := zA c4
    clear H c4
    obtain ⟨y, hy⟩ : ∃ y_ : List Int, y_ = out1 ++ [i] := ⟨_, rfl⟩
    have NY := zA hy
    clear hy
    have co : wr.cell? ⟨go, 0, none⟩ = some vo1 := blk_cell HS1.out.bo 0
    have fo : wr.frozen? ⟨go, 0, none⟩ = false := blk_frozen HS1.out.bo 0
    go_wp2_with (first
     | ((with_reducible refine gate_builtin (b := .append) (xs := #[.tmp 28, .tmp 30]) rfl ?_); at_builtin; (refine Kd.R_append (Kd.int .i64) (w0 := w0) w0.heap.size rfl (.tmp 28) (.tmp 30) 35 3 (.int .i64 0) 8 rfl Tryd.underlying35 info3 rfl (by decide) (by omega) vo1 out1 i [.int .i64 i] (fun _ => True) (fun _ => False) rfl rfl ?aP (fun _ hk => hk.elim) ?aF ?aO ?aB ?aS ?aL ?_; (case aP => exact rfl); (case aF => exact fun _ _ => trivial); (case aO => exact HS1.out.ho); (case aB => exact HS1.out.hB); (case aS => exact below_size HS1.out.hB); (case aL => have := HL.out; omega); intro v1 w3 ho3 hb3 hg3 hat3; rw [← NY.out] at ho3; obtain ⟨A4, c4, e4⟩ := Kd.R_slice ho3; subst e4; have HS3 := zA (HS1.out.app ho3 hb3 hg3); have HK3 := zA (Kept.of_grown (S := OrderMay go (.slice (some ⟨gx, 0, none⟩) met.length cx) vo) hg3 HK.out (fun b hb => by rcases HV.out b hb with h | h; (exact .inl (.inr (.inr h))); exact .inr h)); have HV3 := zA (show ∀ b, (Value.slice A4 y.length c4).ownBlock = some b → vo.ownBlock = some b ∨ w.heap.size ≤ b from fun b hb => by rcases hat3 with h | ⟨q, h, hq⟩; (exact HV.out b (h ▸ hb)); (have := HK.out.1; have e_ : b = q := by rw [h] at hb; exact (zI hb).symm); (right; omega)); have fo3 : w3.frozen? ⟨go, 0, none⟩ = false := blk_frozen (blk_grown HS1.out.bo hg3 (Ne.symm (ne_own HS1.out.bo HS1.out.typo (by decide)))) 0; have co3 : w3.cell? ⟨go, 0, none⟩ = some vo1 := blk_cell (blk_grown HS1.out.bo hg3 (Ne.symm (ne_own HS1.out.bo HS1.out.typo (by decide)))) 0; clear ho3 hb3 hg3 hat3 HS1 HK HV HR co fo)))
    first | go_end0 | ((try simp only [Exit.inBlock, Exit.then]); refine bodyPost_ret (results_none rfl _ _ _) rfl ?_)
    obtain ⟨e1, e2⟩ := HE.out
    rw [← NY.out] at e2
    subst e1 e2
    exact ⟨rfl, _, HS3.out, Kept.setCell HK3.out (.inl (.inl rfl)) _, HV3.out⟩
def flow_Order.f (k : Nat) (l0 : List (List SIns)) : Option (List Int) :=
 if (l0.length : Int) = 0 then some []
 else if l0.length ≤ 281474976710656 then (flow_Order_1.f k l0 0 (List.replicate l0.length false) []).bind fun b => slices_Reverse_int_int.f k b.2
 else none
set_option maxHeartbeats 8000000 in
set_option maxRecDepth 100000 in
theorem flow_Order.calls (k : Nat) (A0 : Option Addr) (c0 : Nat) (l0 : List (List SIns)) (r : List Int) (w : World) (hr0 : Kd.C (Kd.slice 38 kIns) w A0 l0.length l0) (hc0 : l0.length ≤ c0) (h : flow_Order.f k l0 = some r) :
 Calls Tryd.prog 40 #[.slice A0 l0.length c0] w fun e w' => ∃ v0_ : Value, e = .returned (v0_) ∧ Kd.R (Kd.int .i64) 3 w' w.heap.size (fun _ => True) v0_ r ∧ Below w.heap.size w w' := by
 have HR0 := zA hr0
 have HC0 := zA hc0
 clear hr0 hc0
 unfold flow_Order.f at h
 by_cases c1 : (l0.length : Int) = 0
 ·rw [zC c1] at h
  obtain rfl := zI h
  have c1b : ((l0.length : Int) == 0) = true := beq_iff_eq.mpr c1
  have c1n : (l0.length == 0) = true := beq_iff_eq.mpr (by omega)
  clear c1 h
  go_enter Tryd.func40, Tryd.ntmps40
  go_wp2_with fail
  go_ret
  exact ⟨_, rfl, Kd.R_nil _ _ _ _ _, (Below.refl _ _).alloc (Nat.le_refl _) _⟩
 ·rw [zD c1] at h
  by_cases c2 : ¬ l0.length ≤ 281474976710656
  ·rw [zD c2] at h
   exact absurd h (by simp)
  replace c2 := Decidable.not_not.1 c2
  rw [zC c2] at h
  obtain ⟨b, hb, h⟩ := Option.bind_eq_some_iff.mp h
  have H := zA h
  have HB0 := zA hb
  clear h hb
  have c1b : ((l0.length : Int) == 0) = false := beq_eq_false_iff_ne.mpr c1
  have c1n : (l0.length == 0) = false := beq_eq_false_iff_ne.mpr (by omega)
  clear c1
  have hmf : ∀ (fn : Fn) (first cap : Array Value) (w : World), (Instr.makeFunc fn first cap).run Tryd.prog w = .ok (.func fn first cap) w := fun _ _ _ _ => rfl
  go_enter Tryd.func40, Tryd.ntmps40
  have hsf := fun (a : Addr) (c : Array Value) (w : World) => run_store Tryd.prog w a (.func (.func 80) #[] c) .plain rfl
  have HBz := zA (Below.refl w.heap.size w)
  go_wp2_with (first
   | ((with_reducible refine gate_dst (N := 1) rfl ?_); refine box_event ?hg (N := 1) ?hd (cs := #[.slice A0 l0.length c0]) (t := 22) ?hr ?_; (case hd => rfl); (case hg => rfl); (case hr => go_simp <;> rfl); intro gb hg w1 hbox hb; have HB1 := zA hb; have BB1 := zA hbox; have EB := zA hg; clear hb hbox hg HBz; have cb : w1.cell? ⟨gb, 0, none⟩ = some _ := blk_cell BB1.out 0)
   | ((with_reducible refine gate_dst (N := 11) rfl ?_); refine Kd.R_make Kd.bool _ 4 rfl (N := 11) rfl 43 _ _ rfl (l0.length : Int) rfl rfl Tryd.underlying43 (.bool false) 1 info4 rfl (by decide) (by omega) false (ok := fun _ => True) (okp := fun _ => True) rfl (fun _ hk => hk) trivial (by omega) (by omega) (Below.refl _ _) (Nat.le_refl _) ?_; intro vm w2 ho hb hg_ hnew_; rw [show ((l0.length : Int)).toNat = l0.length from by omega] at ho; obtain ⟨Am, cm, em⟩ := Kd.R_slice ho; subst em; have HB2 := zA (below_step HB1.out hb); have BB2 := zA (blk_below BB1.out hb); have HM2 := zA (Kd.R_lower ho (below_size HB1.out)); have GB := zA (show w.heap.size ≤ gb by rw [EB.out]; exact Nat.le_refl _); clear hg_ hnew_ HB1 BB1 cb hb ho EB)
   | ((with_reducible refine gate_dst (N := 3) rfl ?_); refine box_event ?hg (N := 3) ?hd (cs := #[.slice none 0 0]) (t := 43) ?hr ?_; (case hd => rfl); (case hg => rfl); (case hr => go_simp <;> rfl); intro gm hg w3 hbox hb; have HB3 := zA (below_step HB2.out hb); have BB3 := zA (blk_below BB2.out hb); have HM3 := zA (Kd.R_below HM2.out hb); have BM3 := zA hbox; have GM := zA (show w.heap.size ≤ gm by rw [hg]; exact below_size HB2.out); clear hb hbox hg HB2 BB2 HM2; have cm3 : w3.cell? ⟨gm, 0, none⟩ = some _ := blk_cell BM3.out 0; have fm3 : w3.frozen? ⟨gm, 0, none⟩ = false := blk_frozen BM3.out 0)
   | ((with_reducible refine gate_store (t := 43) (p := 3) rfl ?_); refine store_event (t := 43) (p := 3) (v := ?vo_) (w1 := (w3.setCell ⟨gm, 0, none⟩ (.slice Am (List.replicate l0.length false).length cm))) ?hg ?ho ?hn ?hr ?_; (case ho => rfl); (case hg => rfl); (case hn => rfl); (case hr => go_simp <;> rfl); intro w4 hw; have BM4 := zA (hw ▸ blk_put BM3.out 0 _ rfl : w4.heap[gm]? = some (.cells #[.slice Am (List.replicate l0.length false).length cm] 43 (0, 0))); have BB4 := zA (hw ▸ blk_far BB3.out (p := ⟨gm, 0, none⟩) (blk_ne BB3.out BM3.out (by decide)) _ : w4.heap[gb]? = some _); have HM4 := zA (hw ▸ Kd.R_set HM3.out BM3.out (by decide) 0 _ : Kd.R Kd.bool 4 w4 _ _ _ _); have HB4 := zA (hw ▸ below_set HB3.out GM.out : Below w.heap.size w w4); clear hw HB3 BB3 HM3 BM3 cm3 fm3))
  have hst : OrderSt w ((w4.alloc (.cells #[.slice none 0 0] 35)).alloc (.cells #[.func (.func 80) #[] #[.pointer (some ⟨gm, 0, none⟩), .pointer (some ⟨gb, 0, none⟩), .pointer (some ⟨w4.heap.size + 1, 0, none⟩), .pointer (some ⟨w4.heap.size, 0, none⟩)]] 125)) gm gb (w4.heap.size + 1) w4.heap.size
   (.slice Am (List.replicate l0.length false).length cm) (.slice none 0 0) A0 c0 l0 (List.replicate l0.length false) [] :=
   ⟨blk_alloc (blk_alloc BM4.out _) _, blk_alloc (blk_alloc BB4.out _) _, by have h := blk_new (w4.alloc (.cells #[.slice none 0 0] 35)) (.cells #[.func (.func 80) #[] #[.pointer (some ⟨gm, 0, none⟩), .pointer (some ⟨gb, 0, none⟩), .pointer (some ⟨w4.heap.size + 1, 0, none⟩), .pointer (some ⟨w4.heap.size, 0, none⟩)]] 125); simpa using h,
    blk_alloc (blk_new w4 _) _, Kd.R_alloc (Kd.R_alloc HM4.out _) _, Kd.R_nil _ _ _ _ _, below_alloc (below_alloc HB4.out _) _, GM.out, GB.out, by have := below_size HB4.out; omega, below_size HB4.out, HR0.out, HC0.out⟩
  refine (flow_Order_1.calls k l0 0 _ [] b.1 b.2 w _ gm gb _ _ _ _ A0 c0 HB0.out hst).mono ?_
  rintro e w6 ⟨rfl, vo6, hs6, -, -⟩
  clear hst BM4 BB4 HM4 HB4 hmf hsf
  obtain ⟨A6, c6, e6⟩ := Kd.R_slice hs6.ho
  subst e6
  have HS6 := zA hs6
  clear hs6
  have co : w6.cell? ⟨w4.heap.size, 0, none⟩ = some _ := blk_cell HS6.out.bo 0
  go_wp2_with ((with_reducible refine gate_callee (f := 82) rfl ?_); refine goesL_ (some 16) rfl rfl Tryd.func82 (by kernel_rfl) rfl #[.slice A6 b.2.length c6] rfl (by (try simp only [List.map_toArray, List.map_cons, List.map_nil]); first | done | rfl) ?_; (refine (slices_Reverse_int_int.calls k (fun k_ => some k_ = (Value.slice A6 b.2.length c6).ownBlock) _ b.2 r w w6 HS6.out.hB (Kd.R_tight rfl HS6.out.ho) H.out).mono ?_); rintro e w7 ⟨rfl, ho7, hb7, hk7⟩; refine ⟨_, rfl, ?_⟩; have HO7 := zA ho7; have HB7 := zA hb7; have co7 : w7.cell? ⟨w4.heap.size, 0, none⟩ = some _ := blk_cell (blk_kept HS6.out.bo hk7 (fun e_ => ne_own HS6.out.bo HS6.out.typo (by decide) e_.symm)) 0; clear ho7 hb7 hk7 HS6 co)
  go_ret
  exact ⟨_, rfl, Kd.R_mono HO7.out (fun _ _ => trivial), HB7.out⟩
end Go.Proofs.YtpkimbkjjmbmcaaDoor.Q
namespace Go.Proofs.YtpkimbkjjmbmcaaDoor.Q
open Go.RowKit Go.Proofs.YtpkimbkjjmbmcaaDoorW.PrintWords Go.Proofs.YtpkimbkjjmbmcaaDoorW.PrintLast Go.Proofs.YtpkimbkjjmbmcaaDoorW.PrintMore
attribute [local go_sem] max2_int min2_int max_two min_two max_three min_three max_four min_four
set_option linter.unusedVariables false
set_option linter.unusedSimpArgs false

mutual
def cubbyref09_visit.l0 : Nat → List (List (SIns)) → Int → List Int → List Int → List Int → Int → Option (List Int × List Int)
 | 0, _, _, _, _, _, _ => none
 | k + 1, x0, x1, x2, x3, x11, x12 => if x12 < (x11.length : Int) then (if 0 ≤ x12 then ((cubbyref09_has.f k x2 (rd x11 x12)).bind fun t428 => (if t428 = true then (cubbyref09_visit.l0 k x0 x1 x2 x3 x11 (wrap64 (x12 + 1))) else ((cubbyref09_visit.f k x0 (rd x11 x12) x2 x3).bind fun bt430 => (cubbyref09_visit.l0 k x0 x1 bt430.1 bt430.2 x11 (wrap64 (x12 + 1)))))) else (none)) else ((some (([x1] : List Int) : List Int)).bind fun y421 => (if y421.length + x3.length < 17592186044416 then (some (x2, (y421 ++ x3))) else (none)))
def cubbyref09_visit.f : Nat → List (List (SIns)) → Int → List Int → List Int → Option (List Int × List Int)
 | 0, _, _, _, _ => none
 | k + 1, l0, a1, l2, l3 => (some (([] : List Int) : List Int)).bind fun y409 => (if y409.length + l2.length < 17592186044416 then ((some (y409 ++ l2 : List Int)).bind fun y412 => (if y412.length < 17592186044416 then ((cubbyref09_Succs.f k l0 a1).bind fun t418 => (cubbyref09_visit.l0 k l0 a1 (y412 ++ [a1]) l3 t418 0)) else (none))) else (none))
end
set_option maxHeartbeats 8000000 in
set_option maxRecDepth 100000 in
theorem cubbyref09_visit.calls (k : Nat) : ∀ (A0 : Option Addr) (c0 : Nat) (l0 : List (List (SIns))) (a1 : Int) (A2 : Option Addr) (c2 : Nat) (l2 : List Int) (P3_ : Nat → Prop) (A3 : Option Addr) (c3 : Nat) (l3 : List Int) (r1 : List Int) (r2 : List Int) (w : World) (hr0 : Kd.C (Kd.slice 38 kIns) w A0 l0.length l0) (hc0 : l0.length ≤ c0) (hr2 : Kd.C (Kd.int .i64) w A2 l2.length l2) (hc2 : l2.length ≤ c2) (hs3 : Kd.V (Kd.int .i64) 3 w w.heap.size (fun k_ => P3_ k_) (.slice A3 l3.length c3) l3) (h : cubbyref09_visit.f k l0 a1 l2 l3 = some (r1, r2)),
 Calls Tryd.prog 86 #[.slice A0 l0.length c0, .int .i64 a1, .slice A2 l2.length c2, .slice A3 l3.length c3] w fun e w' => ∃ v0_ v1_ : Value, e = .returned (.tuple #[v0_, v1_]) ∧ Kd.R (Kd.int .i64) 3 w' w.heap.size (fun k_ => (w.heap.size ≤ k_) ∧ some k_ ≠ (v1_ : Value).ownBlock) v0_ r1 ∧ Kd.R (Kd.int .i64) 3 w' w.heap.size (fun k_ => (w.heap.size ≤ k_) ∧ some k_ ≠ (v0_ : Value).ownBlock) v1_ r2 ∧ Below w.heap.size w w' := by
 induction k using Nat.strongRecOn with
 | _ k ih =>
 intro A0 c0 l0 a1 A2 c2 l2 P3_ A3 c3 l3 r1 r2 w hr0 hc0 hr2 hc2 hs3 h
 cases k with
 | zero => exact absurd h (by simp [cubbyref09_visit.f])
 | succ k =>
 simp only [cubbyref09_visit.f] at h
 have HR0 := zA hr0
 have HC0 := zA hc0
 clear hr0 hc0
 have HR2 := zA hr2
 have HC2 := zA hc2
 clear hr2 hc2
 have HO3 := zA (show Kd.V (Kd.int .i64) 3 w w.heap.size (fun k_ => (P3_ k_ ∨ w.heap.size ≤ k_)) (.slice A3 l3.length c3) l3 from Kd.V_mono hs3 (fun k_ hk => .inl hk))
 have HB := zA (Below.refl w.heap.size w)
 have H := h; clear h; unfold cubbyref09_visit.f at H
 obtain ⟨y409, hy409⟩ : ∃ y_ : List Int, y_ = (([] : List Int)) := ⟨_, rfl⟩
 replace H : (if y409.length + l2.length < 17592186044416 then ((some (y409 ++ l2 : List Int)).bind fun y412 => (if y412.length < 17592186044416 then ((cubbyref09_Succs.f k l0 a1).bind fun t418 => (cubbyref09_visit.l0 k l0 a1 (y412 ++ [a1]) l3 t418 0)) else (none))) else (none)) = some (r1, r2) := by (try rw [hy409]); first | with_reducible exact H | exact (zJ _ _).symm.trans H | exact H
 have Ny409 := zA hy409
 clear hy409
 by_cases c5 : y409.length + l2.length < 17592186044416
 ·rw [zC c5] at H
  have LMc5 := zA c5
  clear c5
  obtain ⟨y412, hy412⟩ : ∃ y_ : List Int, y_ = (y409 ++ l2) := ⟨_, rfl⟩
  replace H : (if y412.length < 17592186044416 then ((cubbyref09_Succs.f k l0 a1).bind fun t418 => (cubbyref09_visit.l0 k l0 a1 (y412 ++ [a1]) l3 t418 0)) else (none)) = some (r1, r2) := by (try rw [hy412]); first | with_reducible exact H | exact (zJ _ _).symm.trans H | exact H
  have Ny412 := zA hy412
  clear hy412
  by_cases c6 : y412.length < 17592186044416
  ·rw [zC c6] at H
   have LMc6 := zA c6
   clear c6
   obtain ⟨y415, hy415⟩ : ∃ y_ : List Int, y_ = (y412 ++ [a1]) := ⟨_, rfl⟩
   replace H : ((cubbyref09_Succs.f k l0 a1).bind fun t418 => (cubbyref09_visit.l0 k l0 a1 y415 l3 t418 0)) = some (r1, r2) := by (try rw [hy415]); first | with_reducible exact H | exact (zJ _ _).symm.trans H | exact H
   have Ny415 := zA hy415
   clear hy415
   replace H := qb H; obtain ⟨t418, A7, H⟩ := H
   have H' := zA H
   clear H
   go_enter Tryd.func86, Tryd.ntmps86
   go_wp2_with (first | ((with_reducible refine gate_dst (N := 14) rfl ?_); refine Kd.R_lit (Kd.int .i64) _ 3 (by rfl) (N := 14) (by rfl) (xs := ([] : List Int)) (inner := []) (ok := fun _ => True) (okp := fun _ => True) ?hr ?hp (fun _ hk => hk) trivial (Below.refl _ _) (Nat.le_refl _) (by simp) ?_; (case hr => go_simp <;> rfl); (case hp => exact (Reps.none _ _)); intro v410 w8 ho9 hb hg_ hnew_; clear hg_ hnew_; (first | rw [← Ny409.out] at ho9 | (simp only [Int.reduceToNat] at ho9; rw [← Ny409.out] at ho9)); replace HO3 := zA (Kd.V_elder' (qV HO3.out) (Kd.R_base ho9) hb); have HO411 := zA (Kd.R_lower (Kd.R_newM (M := fun k_ => (w.heap.size ≤ k_)) ho9 (below_size qB) (fun k_ h_ => h_)) (below_size qB)); replace HB := qH hb; clear hb ho9) | ((with_reducible refine gate_builtin (b := .append) (xs := #[.tmp 15, .tmp 16]) rfl ?_); at_builtin; refine Kd.R_append_rows (Kd.int .i64) (w0 := w) w.heap.size rfl (.tmp 15) (.tmp 16) 35 3 (.int .i64 0) 8 rfl Tryd.underlying35 info3 rfl (by decide) (by omega) v410 y409 l2 _ _ _ (fun k_ => (w.heap.size ≤ k_)) (fun _ => False) rfl rfl ?aO ?aR (fun _ _ h => h) (fun _ h => h.elim) ?aF ?aB ?aS ?aL ?_; (case aR => exact qCB HR2.out); (case aB => exact qB); (case aF => exact (fun k_ hk => (Nat.le_trans (below_size qB) hk))); (case aO => exact (by (with_reducible repeat (first | apply Kd.R_alloc | apply Kd.R_drewN | apply Kd.R_drew)); exact Kd.R_mono HO411.out (fun _ hk => hk.1))); (case aS => exact (below_size qB)); (case aL => have := LMc5.out; omega); intro v413 w10 ho hb hg hat; rw [← Ny412.out] at ho; replace HO3 := zA (Kd.V_afterv (ok := (fun k_ => (P3_ k_ ∨ w.heap.size ≤ k_))) (qV HO3.out) hg hat); replace HB := zA (hb); have HO414 := zA (ho); clear HO411; clear ho hb hg hat) | ((with_reducible refine gate_builtin (b := .append) (xs := #[.tmp 18, .tmp 20]) rfl ?_); at_builtin; refine Kd.R_append (Kd.int .i64) (w0 := w) w.heap.size rfl (.tmp 18) (.tmp 20) 35 3 (.int .i64 0) 8 rfl Tryd.underlying35 info3 rfl (by decide) (by omega) v413 y412 a1 [.int .i64 a1] (fun k_ => (w.heap.size ≤ k_)) (fun _ => False) rfl rfl ?aP (fun _ hk => hk.elim) ?aF ?aO ?aB ?aS ?aL ?_; (case aP => exact rfl); (case aB => exact qB); (case aF => exact (fun k_ hk => (Nat.le_trans (below_size qB) hk))); (case aO => exact (qR HO414.out)); (case aS => exact (below_size qB)); (case aL => have := LMc6.out; omega); intro v416 w11 ho hb hg hat; rw [← Ny415.out] at ho; replace HO3 := zA (Kd.V_afterv (ok := (fun k_ => (P3_ k_ ∨ w.heap.size ≤ k_))) (qV HO3.out) hg hat); replace HB := zA (hb); have HO417 := zA (ho); clear HO414; clear ho hb hg hat) | ((with_reducible refine gate_callee (f := 123) rfl ?_); refine goesL_ (some 24) rfl rfl Tryd.func123 (by kernel_rfl) rfl #[.slice A0 l0.length c0, .int .i64 a1] rfl qL ?_; (with_reducible refine (cubbyref09_Succs.calls k _ _ l0 a1 t418 _ ?side1 ?side2 A7.out).mono ?_); (case side1 => exact qCB HR0.out); (case side2 => exact HC0.out); rintro e w12 ⟨v419, rfl, ho0, hb⟩; refine ⟨_, rfl, ?_⟩; replace HO3 := zA (Kd.V_elder' (qV HO3.out) (Kd.R_base ho0) hb); have HO420 := zA (Kd.R_lower (Kd.R_new' (Kd.R_newM (M := fun k_ => (w.heap.size ≤ k_)) ho0 (below_size qB) (fun k_ h_ => h_)) (Kd.R_lt (qR HO417.out))) (below_size qB)); replace HO417 := zA (Kd.R_elder' (qR HO417.out) (Kd.R_base ho0) hb); replace HB := qH hb; (try clear hb); (try clear ho0)))
   go_loopg [2, 3, 12] k (fun kq v2 v3 v12 w' => ∃ (x2_1 : List Int) (x3_1 : List Int) (x12_1 : Int), v12 = .int .i64 x12_1 ∧ Aside0 (cubbyref09_visit.l0 kq l0 a1 x2_1 x3_1 t418 x12_1 = some (r1, r2)) ∧ Aside0 (kq ≤ k) ∧ Aside0 (Kd.R (Kd.int .i64) 3 w' w.heap.size (fun k_ => (w.heap.size ≤ k_) ∧ some k_ ≠ (v419 : Value).ownBlock) v2 x2_1) ∧ Aside0 (Kd.V (Kd.int .i64) 3 w' w.heap.size (fun k_ => (P3_ k_ ∨ w.heap.size ≤ k_) ∧ some k_ ≠ (v2 : Value).ownBlock ∧ some k_ ≠ (v419 : Value).ownBlock) v3 x3_1) ∧ Aside0 (Kd.R (Kd.int .i64) 3 w' w.heap.size (fun k_ => (w.heap.size ≤ k_) ∧ some k_ ≠ (v2 : Value).ownBlock) v419 t418) ∧ Aside0 (Below w.heap.size w w'))
   case atStart => exact ⟨(y415), (l3), (0), qT, H', ⟨Nat.le_refl _⟩, ⟨qR HO417.out⟩, ⟨by (with_reducible repeat (first | apply Kd.V_alloc | apply Kd.V_drewN | apply Kd.V_drew)); exact Kd.V_mono HO3.out (fun _ hk => ⟨hk.1.1, ⟨hk.1.2, hk.2⟩⟩)⟩, ⟨by (with_reducible repeat (first | apply Kd.R_alloc | apply Kd.R_drewN | apply Kd.R_drew)); exact Kd.R_mono HO420.out (fun _ hk => ⟨hk.1.1, hk.2⟩)⟩, ⟨qB⟩⟩
   case round =>
    clear H'
    obtain ⟨x2_1, x3_1, x12_1, rfl, HA, HK1, HO_2, HO_3, HO_11, HB⟩ := hrel
    cases gk with
    | zero => exact absurd HA.out (by simp [cubbyref09_visit.l0])
    | succ k1 =>
     have H := HA.out
     clear HA
     simp only [cubbyref09_visit.l0] at H
     by_cases c13 : x12_1 < (t418.length : Int)
     ·rw [zC c13] at H
      have c13b0 := zF c13
      clear c13
      by_cases c14 : 0 ≤ x12_1
      ·rw [zC c14] at H
       have c14b0 := zF c14
       clear c14
       replace H := qb H; obtain ⟨t428, A15, H⟩ := H
       by_cases c16 : t428 = true
       ·subst c16
        have H1 : (cubbyref09_visit.l0 k1 l0 a1 x2_1 x3_1 t418 (wrap64 (x12_1 + 1))) = some (r1, r2) := by rw [zC rfl] at H; exact H
        clear H
        have H := H1
        clear H1
        have H' := zA H
        clear H
        obtain ⟨Ao17, co17, eo17⟩ := Kd.R_slice HO_11.out
        subst eo17
        have p427 : 0 ≤ (x12_1 : Int) := zB qA
        have q427 : x12_1 < (t418.length : Int) := zB qA
        obtain ⟨ad427, e427, hx427_0⟩ := Kd.at_int (Kd.R_reads' HO_11.out).2.2 x12_1 p427 q427
        cases e427
        replace p427 := eq_true p427
        replace q427 := eq_true q427
        obtain ⟨Ao18, co18, eo18⟩ := Kd.R_slice HO_2.out
        subst eo18
        go_wp2_with (first | ((with_reducible refine gate_callee (f := 124) rfl ?_); refine goesL_ (some 36) rfl rfl Tryd.func124 (by kernel_rfl) rfl #[.slice Ao18 x2_1.length co18, .int .i64 (rd t418 x12_1)] rfl qL ?_; (with_reducible refine (cubbyref09_has.calls k1 _ _ x2_1 (rd t418 x12_1) true _ ?side1 ?side2 A15.out).mono ?_); (case side1 => repeat (first | exact (Kd.R_reads' HO_2.out).2.2 | (with_reducible refine Kd.C_alloc ?_ _) | (with_reducible refine Kd.C_drewN ?_ _) | (with_reducible refine Kd.C_drew ?_))); (case side2 => exact (Kd.R_reads' HO_2.out).2.1); rintro e w' ⟨rfl, ⟨nd, rfl⟩⟩; refine ⟨_, rfl, ?_⟩))
        go_roundg k1
        case measure => have := HK1.out; omega
        case rel => exact ⟨(x2_1), (x3_1), (wrap64 (x12_1 + 1)), qT, H', ⟨by have := HK1.out; omega⟩, ⟨qR HO_2.out⟩, ⟨qV HO_3.out⟩, ⟨qR HO_11.out⟩, ⟨qB⟩⟩
       ·replace c16 := Bool.eq_false_iff.mpr c16
        subst c16
        have H1 : ((cubbyref09_visit.f k1 l0 (rd t418 x12_1) x2_1 x3_1).bind fun bt430 => (cubbyref09_visit.l0 k1 l0 a1 bt430.1 bt430.2 t418 (wrap64 (x12_1 + 1)))) = some (r1, r2) := by rw [zD (show ¬ (false = true) by decide)] at H; exact H
        clear H
        have H := H1
        clear H1
        replace H := Option.bind_eq_some_iff.mp H
        obtain ⟨⟨t430, t433⟩, A190, H⟩ := H
        replace H : (cubbyref09_visit.l0 k1 l0 a1 t430 t433 t418 (wrap64 (x12_1 + 1))) = some (r1, r2) := H
        have A19 := zA A190
        clear A190
        have H' := zA H
        clear H
        obtain ⟨Ao20, co20, eo20⟩ := Kd.R_slice HO_11.out
        subst eo20
        have p427 : 0 ≤ (x12_1 : Int) := zB qA
        have q427 : x12_1 < (t418.length : Int) := zB qA
        obtain ⟨ad427, e427, hx427_0⟩ := Kd.at_int (Kd.R_reads' HO_11.out).2.2 x12_1 p427 q427
        cases e427
        replace p427 := eq_true p427
        replace q427 := eq_true q427
        obtain ⟨Ao21, co21, eo21⟩ := Kd.R_slice HO_2.out
        subst eo21
        go_wp2_with (first | ((with_reducible refine gate_callee (f := 124) rfl ?_); refine goesL_ (some 36) rfl rfl Tryd.func124 (by kernel_rfl) rfl #[.slice Ao21 x2_1.length co21, .int .i64 (rd t418 x12_1)] rfl qL ?_; (with_reducible refine (cubbyref09_has.calls k1 _ _ x2_1 (rd t418 x12_1) false _ ?side1 ?side2 A15.out).mono ?_); (case side1 => repeat (first | exact (Kd.R_reads' HO_2.out).2.2 | (with_reducible refine Kd.C_alloc ?_ _) | (with_reducible refine Kd.C_drewN ?_ _) | (with_reducible refine Kd.C_drew ?_))); (case side2 => exact (Kd.R_reads' HO_2.out).2.1); rintro e w' ⟨rfl, ⟨nd, rfl⟩⟩; refine ⟨_, rfl, ?_⟩; have p429 : 0 ≤ (x12_1 : Int) := zB qA; have q429 : x12_1 < (t418.length : Int) := zB qA; obtain ⟨ad429, e429, hx429_0⟩ := Kd.at_int (Kd.R_reads' HO_11.out).2.2 x12_1 p429 q429; obtain rfl : ad427 = ad429 := (by injection e429); replace p429 := eq_true p429; replace q429 := eq_true q429; obtain ⟨Ao22, co22, eo22⟩ := Kd.V_slice HO_3.out; subst eo22) | ((with_reducible refine gate_callee (f := 86) rfl ?_); refine goesL_ (some 46) rfl rfl Tryd.func86 (by kernel_rfl) rfl #[.slice A0 l0.length c0, .int .i64 (rd t418 x12_1), .slice Ao21 x2_1.length co21, .slice Ao22 x3_1.length co22] rfl qL ?_; (with_reducible refine (ih k1 (by have := HK1.out; omega) _ _ l0 (rd t418 x12_1) _ _ x2_1 (fun k_ => ((P3_ k_ ∨ w.heap.size ≤ k_) ∧ (some k_ ≠ (.slice Ao21 x2_1.length co21 : Value).ownBlock ∧ some k_ ≠ (.slice (some ad427) t418.length co20 : Value).ownBlock))) _ _ x3_1 t430 t433 _ ?side1 ?side2 ?side3 ?side4 ?side5 A19.out).mono ?_); (case side1 => repeat (first | exact (Kd.C_below HR0.out qB) | (with_reducible refine Kd.C_alloc ?_ _) | (with_reducible refine Kd.C_drewN ?_ _) | (with_reducible refine Kd.C_drew ?_))); (case side2 => exact HC0.out); (case side3 => repeat (first | exact (Kd.R_reads' HO_2.out).2.2 | (with_reducible refine Kd.C_alloc ?_ _) | (with_reducible refine Kd.C_drewN ?_ _) | (with_reducible refine Kd.C_drew ?_))); (case side4 => exact (Kd.R_reads' HO_2.out).2.1); (case side5 => exact HO_3.out); rintro e w23 ⟨v431, v434, rfl, ho0, ho1, hb⟩; refine ⟨_, rfl, ?_⟩; replace HO_3 := zA (Kd.V_mono (Kd.V_told (Kd.V_told (Kd.V_old (qV HO_3.out) hb) (Kd.R_base ho0)) (Kd.R_base ho1)) (fun _ h_ => h_.1)); have HO432 := zA (Kd.R_lower (Kd.R_new' (Kd.R_new' (Kd.R_newM (M := fun k_ => (w.heap.size ≤ k_)) (Kd.R_mono (ok' := fun k_ => some k_ ≠ (v434 : Value).ownBlock) ho0 (fun _ hk_ => hk_.2)) (below_size qB) (fun k_ h_ => h_)) (Kd.R_lt (qR HO_2.out))) (Kd.R_lt (qR HO_11.out))) (below_size qB)); have HO435 := zA (Kd.R_lower (Kd.R_new' (Kd.R_new' (Kd.R_newM (M := fun k_ => (w.heap.size ≤ k_)) (Kd.R_mono (ok' := fun k_ => some k_ ≠ (v431 : Value).ownBlock) ho1 (fun _ hk_ => hk_.2)) (below_size qB) (fun k_ h_ => h_)) (Kd.R_lt (qR HO_2.out))) (Kd.R_lt (qR HO_11.out))) (below_size qB)); replace HO_2 := zA (Kd.R_mono (Kd.R_told (Kd.R_told (Kd.R_old (qR HO_2.out) hb) (Kd.R_base ho0)) (Kd.R_base ho1)) (fun _ h_ => h_.1)); replace HO_11 := zA (Kd.R_mono (Kd.R_told (Kd.R_told (Kd.R_old (qR HO_11.out) hb) (Kd.R_base ho0)) (Kd.R_base ho1)) (fun _ h_ => h_.1)); replace HB := qH hb; (try clear ho1)))
        go_roundg k1
        case measure => have := HK1.out; omega
        case rel => exact ⟨(t430), (t433), (wrap64 (x12_1 + 1)), qT, H', ⟨by have := HK1.out; omega⟩, ⟨by (with_reducible repeat (first | apply Kd.R_alloc | apply Kd.R_drewN | apply Kd.R_drew)); exact Kd.R_mono HO432.out (fun _ hk => ⟨hk.1.1.1, hk.2⟩)⟩, ⟨Kd.V_mono (Kd.R_V HO435.out) (fun k_ hk => ⟨.inr (hk.1.1.1), ⟨hk.1.1.2, hk.2⟩⟩)⟩, ⟨by (with_reducible repeat (first | apply Kd.R_alloc | apply Kd.R_drewN | apply Kd.R_drew)); exact Kd.R_mono HO_11.out (fun _ hk => ⟨hk.1.1.1, hk.1.2⟩)⟩, ⟨qB⟩⟩
      ·rw [zD c14] at H
       exact absurd H (by simp)
     ·rw [zD c13] at H
      have c13b0 := zG c13
      clear c13
      obtain ⟨y421, hy421⟩ : ∃ y_ : List Int, y_ = (([a1] : List Int)) := ⟨_, rfl⟩
      replace H : (if y421.length + x3_1.length < 17592186044416 then (some (x2_1, (y421 ++ x3_1))) else (none)) = some (r1, r2) := by (try rw [hy421]); first | with_reducible exact H | exact (zJ _ _).symm.trans H | exact H
      have Ny421 := zA hy421
      clear hy421
      by_cases c24 : y421.length + x3_1.length < 17592186044416
      ·rw [zC c24] at H
       have LMc24 := zA c24
       clear c24
       obtain ⟨y424, hy424⟩ : ∃ y_ : List Int, y_ = (y421 ++ x3_1) := ⟨_, rfl⟩
       replace H : (some (x2_1, y424)) = some (r1, r2) := by (try rw [hy424]); first | with_reducible exact H | exact (zJ _ _).symm.trans H | exact H
       have Ny424 := zA hy424
       clear hy424
       simp only [Option.some.injEq, Prod.mk.injEq] at H
       obtain ⟨rfl, rfl⟩ := H
       obtain ⟨Ao25, co25, eo25⟩ := Kd.R_slice HO_11.out
       subst eo25
       go_wp2_with (first | ((with_reducible refine gate_dst (N := 50) rfl ?_); refine Kd.R_lit (Kd.int .i64) _ 3 (by rfl) (N := 50) (by rfl) (xs := ([a1] : List Int)) (inner := [.int .i64 a1]) (ok := fun _ => True) (okp := fun _ => True) ?hr ?hp (fun _ hk => hk) trivial (Below.refl _ _) (Nat.le_refl _) (by simp) ?_; (case hr => go_simp <;> rfl); (case hp => exact (Reps.one (show Kd.M (Kd.int .i64) _ _ _ a1 [.int .i64 a1] from rfl) (Reps.none _ _))); intro v422 w26 ho27 hb hg_ hnew_; clear hg_ hnew_; (first | rw [← Ny421.out] at ho27 | (simp only [Int.reduceToNat] at ho27; rw [← Ny421.out] at ho27)); replace HO_3 := zA (Kd.V_elder' (qV HO_3.out) (Kd.R_base ho27) hb); have HO423 := zA (Kd.R_lower (Kd.R_new' (Kd.R_new' (Kd.R_newM (M := fun k_ => (w.heap.size ≤ k_)) ho27 (below_size qB) (fun k_ h_ => h_)) (Kd.R_lt (qR HO_2.out))) (Kd.R_lt (qR HO_11.out))) (below_size qB)); replace HO_2 := zA (Kd.R_elder' (qR HO_2.out) (Kd.R_base ho27) hb); replace HO_11 := zA (Kd.R_elder' (qR HO_11.out) (Kd.R_base ho27) hb); replace HB := qH hb; clear hb ho27; obtain ⟨Ao29, co29, eo29⟩ := Kd.V_slice HO_3.out; subst eo29) | ((with_reducible refine gate_builtin (b := .append) (xs := #[.tmp 52, .tmp 53]) rfl ?_); at_builtin; refine Kd.R_append_rows (Kd.int .i64) (w0 := w) w.heap.size rfl (.tmp 52) (.tmp 53) 35 3 (.int .i64 0) 8 rfl Tryd.underlying35 info3 rfl (by decide) (by omega) v422 y421 x3_1 _ _ _ (fun k_ => (w.heap.size ≤ k_) ∧ some k_ ≠ (u2 : Value).ownBlock ∧ some k_ ≠ (.slice Ao25 t418.length co25 : Value).ownBlock) (fun _ => False) rfl rfl ?aO ?aR (fun _ _ h => h) (fun _ h => h.elim) ?aF ?aB ?aS ?aL ?_; (case aR => repeat (first | exact (Kd.V_reads' HO_3.out).2.2 | (with_reducible refine Kd.C_alloc ?_ _) | (with_reducible refine Kd.C_drewN ?_ _) | (with_reducible refine Kd.C_drew ?_))); (case aB => exact qB); (case aF => exact (fun k_ hk => ⟨(Nat.le_trans (below_size qB) hk), Kd.fresh' (Kd.R_lt (qR HO_2.out)) k_ hk, Kd.fresh' (Kd.R_lt (qR HO_11.out)) k_ hk⟩)); (case aO => exact (by (with_reducible repeat (first | apply Kd.R_alloc | apply Kd.R_drewN | apply Kd.R_drew)); exact Kd.R_mono HO423.out (fun _ hk => ⟨hk.1.1.1, ⟨hk.1.2, hk.2⟩⟩))); (case aS => exact (below_size qB)); (case aL => have := LMc24.out; omega); intro v425 w28 ho hb hg hat; rw [← Ny424.out] at ho; replace HO_2 := zA (Kd.R_after (ok := (fun k_ => (w.heap.size ≤ k_) ∧ some k_ ≠ (.slice Ao25 t418.length co25 : Value).ownBlock)) (qR HO_2.out) hg hat); replace HO_3 := zA (Kd.V_afterv (ok := (fun k_ => (P3_ k_ ∨ w.heap.size ≤ k_) ∧ some k_ ≠ (u2 : Value).ownBlock ∧ some k_ ≠ (.slice Ao25 t418.length co25 : Value).ownBlock)) (qV HO_3.out) hg hat); replace HO_11 := zA (Kd.R_after (ok := (fun k_ => (w.heap.size ≤ k_) ∧ some k_ ≠ (u2 : Value).ownBlock)) (qR HO_11.out) hg hat); replace HB := zA (hb); have HO426 := zA (ho); clear HO423; clear ho hb hg hat))
       go_ret2
       exact ⟨_, _, qE, by (with_reducible repeat (first | apply Kd.R_alloc | apply Kd.R_drewN | apply Kd.R_drew)); exact Kd.R_mono HO_2.out (fun _ hk => ⟨hk.1.1, hk.2⟩), by (with_reducible repeat (first | apply Kd.R_alloc | apply Kd.R_drewN | apply Kd.R_drew)); exact Kd.R_mono HO426.out (fun _ hk => ⟨hk.1, hk.2.1⟩), qB⟩
      ·rw [zD c24] at H
       exact absurd H (by simp)
  ·rw [zD c6] at H
   exact absurd H (by simp)
 ·rw [zD c5] at H
  exact absurd H (by simp)

def cubbyref09_Order.f (k : Nat) (l0 : List (List (SIns))) : Option (List Int) := if (l0.length : Int) = 0 then (some ([] : List Int)) else ((cubbyref09_visit.f k l0 0 ([] : List Int) ([] : List Int)).bind fun bt436 => (some bt436.2))
set_option maxHeartbeats 8000000 in
set_option maxRecDepth 100000 in
theorem cubbyref09_Order.calls (k : Nat) (A0 : Option Addr) (c0 : Nat) (l0 : List (List (SIns))) (r : List Int) (w : World) (hr0 : Kd.C (Kd.slice 38 kIns) w A0 l0.length l0) (hc0 : l0.length ≤ c0) (h : cubbyref09_Order.f k l0 = some r) :
 Calls Tryd.prog 47 #[.slice A0 l0.length c0] w fun e w' => ∃ v0_ : Value, e = .returned (v0_) ∧ Kd.R (Kd.int .i64) 3 w' w.heap.size (fun _ => True) v0_ r ∧ Below w.heap.size w w' := by
 have HR0 := zA hr0
 have HC0 := zA hc0
 clear hr0 hc0
 have HB := zA (Below.refl w.heap.size w)
 have H := h; clear h; unfold cubbyref09_Order.f at H
 by_cases c2 : (l0.length : Int) = 0
 ·rw [zC c2] at H
  obtain ⟨c2b0, c2b1⟩ := qe c2; clear c2
  obtain rfl := zI H
  go_enter Tryd.func47, Tryd.ntmps47
  go_wp2
  go_ret
  exact ⟨_, qE, by first | exact Kd.R_nil _ _ _ _ _ | exact Kd.N_nil _ _ _ _ _ | exact Kd.V_nil _ _ _ _ _ | exact Kd.Q_nil _ _ _ _ _ | exact Kd.S_nil _ _ _ _ _, qB⟩
 ·rw [zD c2] at H
  obtain ⟨c2b0, c2b1⟩ := qn c2
  have c2b2 : ¬ (l0 = []) := fun h_ => c2 (by rw [h_]; rfl)
  replace H := Option.bind_eq_some_iff.mp H
  obtain ⟨⟨t436, t439⟩, A30, H⟩ := H
  replace H : (some t439) = some r := H
  have A3 := zA A30
  clear A30
  obtain rfl := zI H
  go_enter Tryd.func47, Tryd.ntmps47
  go_wp2_with (first | ((with_reducible refine gate_callee (f := 86) rfl ?_); refine goesL_ (some 10) rfl rfl Tryd.func86 (by kernel_rfl) rfl #[.slice A0 l0.length c0, .int .i64 0, .slice none 0 0, .slice none 0 0] rfl qL ?_; (refine (cubbyref09_visit.calls k _ _ l0 0 _ _ ([] : List Int) (fun k_ => False) _ _ ([] : List Int) t436 t439 _ ?side1 ?side2 ?side3 ?side4 ?side5 A3.out).mono ?_); (case side1 => repeat (first | exact HR0.out | (with_reducible refine Kd.C_alloc ?_ _) | (with_reducible refine Kd.C_drewN ?_ _) | (with_reducible refine Kd.C_drew ?_))); (case side2 => exact HC0.out); (case side3 => exact Kd.C_nil _ _); (case side4 => exact Nat.le_refl _); (case side5 => exact Kd.V_nil _ _ _ _ _); rintro e w4 ⟨v437, v440, rfl, ho0, ho1, hb⟩; refine ⟨_, rfl, ?_⟩; have HO438 := zA (Kd.R_lower (Kd.R_mono (ok' := fun k_ => some k_ ≠ (v440 : Value).ownBlock) ho0 (fun _ hk_ => hk_.2)) (below_size qB)); have HO441 := zA (Kd.R_lower (Kd.R_mono (ok' := fun k_ => some k_ ≠ (v437 : Value).ownBlock) ho1 (fun _ hk_ => hk_.2)) (below_size qB)); replace HB := qH hb; (try clear hb); (try clear ho0); (try clear ho1)))
  go_ret
  exact ⟨_, qE, by (with_reducible repeat (first | apply Kd.R_alloc | apply Kd.R_drewN | apply Kd.R_drew)); exact Kd.R_mono HO441.out (fun _ hk => trivial), qB⟩

mutual
def cubbyref12_Places.l0 : Nat → List (List Int) → List Int → Int → Int → ByteArray → Int → Int → List (List (SIns)) → Option ((List (List Int)))
 | 0, _, _, _, _, _, _, _, _ => none
 | k + 1, x3, x4, x5, x6, x443000, x443001, x443002, x443003 => if x6 < (x4.length : Int) then (cubbyref12_Places.l1 k x3 x4 x5 x6 (([] : List Int)) 0 x443000 x443001 x443002 x443003) else (some x3)
def cubbyref12_Places.l1 : Nat → List (List Int) → List Int → Int → Int → List Int → Int → ByteArray → Int → Int → List (List (SIns)) → Option ((List (List Int)))
 | 0, _, _, _, _, _, _, _, _, _, _ => none
 | k + 1, x3, x4, x5, x6, x7, x8, x443000, x443001, x443002, x443003 => if 0 ≤ x6 then (if x6 < (x4.length : Int) then (if 0 ≤ (rd x4 x6) then (if (rd x4 x6) < (x443003.length : Int) then (if x8 < ((rd_LIns x443003 (rd x4 x6)).length : Int) then (if x7.length < 17592186044416 then (cubbyref12_Places.l1 k x3 x4 (wrap64 (x5 + 1)) x6 (x7 ++ [wrap64 (x5 + 1)]) (wrap64 (x8 + 1)) x443000 x443001 x443002 x443003) else (none)) else (if (rd x4 x6) < (x3.length : Int) then (cubbyref12_Places.l0 k (x3.set ((rd x4 x6) : Int).toNat x7) x4 x5 (wrap64 (x6 + 1)) x443000 x443001 x443002 x443003) else (none))) else (none)) else (none)) else (none)) else (none)
end
def cubbyref12_Places.f (k : Nat) (a0_0 : ByteArray) (a0_1 : Int) (a0_2 : Int) (l0_3 : List (List (SIns))) : Option ((List (List Int))) := (cubbyref11_Check.f k a0_0 a0_1 a0_2 l0_3).bind fun t443 => (if t443 = 0 then (if 0 ≤ (l0_3.length : Int) then (if ((l0_3.length : Int) : Int).toNat ≤ 11728124029610 then ((cubbyref09_Order.f k l0_3).bind fun t447 => (cubbyref12_Places.l0 k (List.replicate ((l0_3.length : Int) : Int).toNat []) t447 0 0 a0_0 a0_1 a0_2 l0_3)) else (none)) else (none)) else (some ([] : List (List Int))))
set_option maxHeartbeats 8000000 in
set_option maxRecDepth 100000 in
theorem cubbyref12_Places.calls (k : Nat) (a0_0 : ByteArray) (a0_1 : Int) (a0_2 : Int) (A0_3 : Option Addr) (c0_3 : Nat) (l0_3 : List (List (SIns))) (r : List (List Int)) (w : World) (hr0_3 : Kd.C (Kd.slice 38 kIns) w A0_3 l0_3.length l0_3) (hc0_3 : l0_3.length ≤ c0_3) (h : cubbyref12_Places.f k a0_0 a0_1 a0_2 l0_3 = some r) :
 Calls Tryd.prog 15 #[.agg #[.string a0_0, .int .i64 a0_1, .int .i64 a0_2, .slice A0_3 l0_3.length c0_3]] w fun e w' => ∃ v0_ : Value, e = .returned (v0_) ∧ Kd.S (Kd.slice 3 (Kd.int .i64)) 35 w' w.heap.size (fun _ => True) v0_ r ∧ Below w.heap.size w w' := by
 have hu24 := Tryd.underlying24
 have HR0_3 := zA hr0_3
 have HC0_3 := zA hc0_3
 clear hr0_3 hc0_3
 have HB := zA (Below.refl w.heap.size w)
 have H := h; clear h; unfold cubbyref12_Places.f at H
 replace H := qb H; obtain ⟨t443, A2, H⟩ := H
 by_cases c3 : t443 = 0
 ·rw [zC c3] at H
  obtain ⟨c3b0, c3b1⟩ := qe c3; clear c3
  by_cases c4 : 0 ≤ (l0_3.length : Int)
  ·rw [zC c4] at H
   have c4b0 := eq_true c4
   have c4b1 := zF c4
   clear c4
   by_cases c5 : ((l0_3.length : Int) : Int).toNat ≤ 11728124029610
   ·rw [zC c5] at H
    have c5b0 := eq_true c5
    have c5b1 := zF c5
    clear c5
    obtain ⟨y444, hy444⟩ : ∃ y_ : List (List Int), y_ = (List.replicate ((l0_3.length : Int) : Int).toNat []) := ⟨_, rfl⟩
    replace H : ((cubbyref09_Order.f k l0_3).bind fun t447 => (cubbyref12_Places.l0 k y444 t447 0 0 a0_0 a0_1 a0_2 l0_3)) = some r := by (try rw [hy444]); first | with_reducible exact H | exact (zJ _ _).symm.trans H | exact H
    have Ny444 := zA hy444
    clear hy444
    replace H := qb H; obtain ⟨t447, A6, H⟩ := H
    have H' := zA H
    clear H
    go_enter Tryd.func15, Tryd.ntmps15
    go_wp2_with (first | ((with_reducible refine gate_dst (N := 1) rfl ?_); refine box_event (by rfl) (N := 1) (by rfl) (cs := #[.string a0_0, .int .i64 a0_1, .int .i64 a0_2, .slice A0_3 l0_3.length c0_3]) (t := 24) ?hr ?_; (case hr => go_simp <;> rfl); intro gb442 hg w7 hbox hb; have BK442 := zA (hbox); have GW442 := qG hg; have GE442 := GW442; replace HB := qH hb; clear hb hbox hg; have z8_0 := bk4 BK442.out) | (go_at_call 38; (with_reducible refine (cubbyref11_Check.calls k a0_0 a0_1 a0_2 _ _ l0_3 t443 _ ?side1 ?side2 A2.out).mono ?_); (case side1 => exact qCB HR0_3.out); (case side2 => exact HC0_3.out); rintro e w9 ⟨rfl, hb⟩; replace BK442 := qW BK442 hb; replace HB := qH hb; (try clear hb); have z10_0 := bk4 BK442.out) | ((with_reducible refine gate_dst (N := 15) rfl ?_); refine Kd.S_make (Kd.slice 3 (Kd.int .i64)) _ 35 rfl (N := 15) rfl 30 _ _ rfl (l0_3.length : Int) rfl rfl Tryd.underlying30 (.slice none 0 0) 24 info35 rfl (by decide) (by omega) [] (ok := fun _ => True) (okp := fun _ => True) ⟨_, rfl, Kd.R_nil _ _ _ _ _⟩ (fun _ hk => hk) trivial (zB qA) (Nat.le_trans (Nat.mul_le_mul_right _ (zB qA : (l0_3.length : Int).toNat ≤ 11728124029610)) (by omega)) (Below.refl _ _) (Nat.le_refl _) ?_; intro v445 w11 ho12 hb hg_ hnew_; clear hg_ hnew_; (first | rw [← Ny444.out] at ho12 | (simp only [Int.reduceToNat] at ho12; rw [← Ny444.out] at ho12)); have HO446 := zA (Kd.S_lower ho12 (below_size qB)); replace BK442 := qW BK442 hb; replace HB := qH hb; clear hb ho12; have z13_0 := bk4 BK442.out) | (go_at_call 47; (with_reducible refine (cubbyref09_Order.calls k _ _ l0_3 t447 _ ?side1 ?side2 A6.out).mono ?_); (case side1 => exact qCB HR0_3.out); (case side2 => exact HC0_3.out); rintro e w14 ⟨v448, rfl, ho0, hb⟩; replace HO446 := zA (Kd.S_elder' (qS HO446.out) (Kd.R_base ho0) hb); have HO449 := zA (Kd.R_lower ho0 (below_size qB)); replace BK442 := qW BK442 hb; replace HB := qH hb; (try clear hb); (try clear ho0)))
    repeat (go_quiet (first | ((with_reducible refine gate_dst (N := 1) rfl ?_); refine box_event (by rfl) (N := 1) (by rfl) (cs := #[.string a0_0, .int .i64 a0_1, .int .i64 a0_2, .slice A0_3 l0_3.length c0_3]) (t := 24) ?hr ?_; (case hr => go_simp <;> rfl); intro gb442 hg w7 hbox hb; have BK442 := zA (hbox); have GW442 := qG hg; have GE442 := GW442; replace HB := qH hb; clear hb hbox hg; have z8_0 := bk4 BK442.out) | (go_at_call 38; (with_reducible refine (cubbyref11_Check.calls k a0_0 a0_1 a0_2 _ _ l0_3 t443 _ ?side1 ?side2 A2.out).mono ?_); (case side1 => exact qCB HR0_3.out); (case side2 => exact HC0_3.out); rintro e w9 ⟨rfl, hb⟩; replace BK442 := qW BK442 hb; replace HB := qH hb; (try clear hb); have z10_0 := bk4 BK442.out) | ((with_reducible refine gate_dst (N := 15) rfl ?_); refine Kd.S_make (Kd.slice 3 (Kd.int .i64)) _ 35 rfl (N := 15) rfl 30 _ _ rfl (l0_3.length : Int) rfl rfl Tryd.underlying30 (.slice none 0 0) 24 info35 rfl (by decide) (by omega) [] (ok := fun _ => True) (okp := fun _ => True) ⟨_, rfl, Kd.R_nil _ _ _ _ _⟩ (fun _ hk => hk) trivial (zB qA) (Nat.le_trans (Nat.mul_le_mul_right _ (zB qA : (l0_3.length : Int).toNat ≤ 11728124029610)) (by omega)) (Below.refl _ _) (Nat.le_refl _) ?_; intro v445 w11 ho12 hb hg_ hnew_; clear hg_ hnew_; (first | rw [← Ny444.out] at ho12 | (simp only [Int.reduceToNat] at ho12; rw [← Ny444.out] at ho12)); have HO446 := zA (Kd.S_lower ho12 (below_size qB)); replace BK442 := qW BK442 hb; replace HB := qH hb; clear hb ho12; have z13_0 := bk4 BK442.out) | (go_at_call 47; (with_reducible refine (cubbyref09_Order.calls k _ _ l0_3 t447 _ ?side1 ?side2 A6.out).mono ?_); (case side1 => exact qCB HR0_3.out); (case side2 => exact HC0_3.out); rintro e w14 ⟨v448, rfl, ho0, hb⟩; replace HO446 := zA (Kd.S_elder' (qS HO446.out) (Kd.R_base ho0) hb); have HO449 := zA (Kd.R_lower ho0 (below_size qB)); replace BK442 := qW BK442 hb; replace HB := qH hb; (try clear hb); (try clear ho0))); try go_wp2_with (first | ((with_reducible refine gate_dst (N := 1) rfl ?_); refine box_event (by rfl) (N := 1) (by rfl) (cs := #[.string a0_0, .int .i64 a0_1, .int .i64 a0_2, .slice A0_3 l0_3.length c0_3]) (t := 24) ?hr ?_; (case hr => go_simp <;> rfl); intro gb442 hg w7 hbox hb; have BK442 := zA (hbox); have GW442 := qG hg; have GE442 := GW442; replace HB := qH hb; clear hb hbox hg; have z8_0 := bk4 BK442.out) | (go_at_call 38; (with_reducible refine (cubbyref11_Check.calls k a0_0 a0_1 a0_2 _ _ l0_3 t443 _ ?side1 ?side2 A2.out).mono ?_); (case side1 => exact qCB HR0_3.out); (case side2 => exact HC0_3.out); rintro e w9 ⟨rfl, hb⟩; replace BK442 := qW BK442 hb; replace HB := qH hb; (try clear hb); have z10_0 := bk4 BK442.out) | ((with_reducible refine gate_dst (N := 15) rfl ?_); refine Kd.S_make (Kd.slice 3 (Kd.int .i64)) _ 35 rfl (N := 15) rfl 30 _ _ rfl (l0_3.length : Int) rfl rfl Tryd.underlying30 (.slice none 0 0) 24 info35 rfl (by decide) (by omega) [] (ok := fun _ => True) (okp := fun _ => True) ⟨_, rfl, Kd.R_nil _ _ _ _ _⟩ (fun _ hk => hk) trivial (zB qA) (Nat.le_trans (Nat.mul_le_mul_right _ (zB qA : (l0_3.length : Int).toNat ≤ 11728124029610)) (by omega)) (Below.refl _ _) (Nat.le_refl _) ?_; intro v445 w11 ho12 hb hg_ hnew_; clear hg_ hnew_; (first | rw [← Ny444.out] at ho12 | (simp only [Int.reduceToNat] at ho12; rw [← Ny444.out] at ho12)); have HO446 := zA (Kd.S_lower ho12 (below_size qB)); replace BK442 := qW BK442 hb; replace HB := qH hb; clear hb ho12; have z13_0 := bk4 BK442.out) | (go_at_call 47; (with_reducible refine (cubbyref09_Order.calls k _ _ l0_3 t447 _ ?side1 ?side2 A6.out).mono ?_); (case side1 => exact qCB HR0_3.out); (case side2 => exact HC0_3.out); rintro e w14 ⟨v448, rfl, ho0, hb⟩; replace HO446 := zA (Kd.S_elder' (qS HO446.out) (Kd.R_base ho0) hb); have HO449 := zA (Kd.R_lower ho0 (below_size qB)); replace BK442 := qW BK442 hb; replace HB := qH hb; (try clear hb); (try clear ho0))))
    go_loopg [5, 6] k (fun kq v5 v6 w' => ∃ (x3_1 : List (List Int)) (x5_1 : Int) (x6_1 : Int), v5 = .int .i64 x5_1 ∧ v6 = .int .i64 x6_1 ∧ Aside0 (cubbyref12_Places.l0 kq x3_1 t447 x5_1 x6_1 a0_0 a0_1 a0_2 l0_3 = some r) ∧ Aside0 (kq ≤ k) ∧ Aside0 (Kd.S (Kd.slice 3 (Kd.int .i64)) 35 w' w.heap.size (fun k_ => some k_ ≠ (v448 : Value).ownBlock) v445 x3_1) ∧ Aside0 (Kd.R (Kd.int .i64) 3 w' w.heap.size (fun _ => True) v448 t447) ∧ Aside0 (w'.heap[gb442]? = some (.cells #[.string a0_0, .int .i64 a0_1, .int .i64 a0_2, (.slice A0_3 l0_3.length c0_3)] 24 (0, 0))) ∧ Aside0 (Below w.heap.size w w'))
    case atStart => exact ⟨(y444), (0), (0), qT, qT, H', ⟨Nat.le_refl _⟩, ⟨by (with_reducible repeat (first | apply Kd.S_alloc | apply Kd.S_drewN | apply Kd.S_drew)); exact Kd.S_mono HO446.out (fun _ hk => hk.2)⟩, ⟨qR HO449.out⟩, ⟨qK BK442.out⟩, ⟨qB⟩⟩
    case round =>
     clear H'
     obtain ⟨x3_1, x5_1, x6_1, rfl, rfl, HA, HK1, HO_3, HO_4, BK442, HB⟩ := hrel
     cases gk with
     | zero => exact absurd HA.out (by simp [cubbyref12_Places.l0])
     | succ k1 =>
      have H := HA.out
      clear HA
      simp only [cubbyref12_Places.l0] at H
      by_cases c15 : x6_1 < (t447.length : Int)
      ·rw [zC c15] at H
       have c15b0 := zF c15
       clear c15
       obtain ⟨y450, hy450⟩ : ∃ y_ : List Int, y_ = (([] : List Int)) := ⟨_, rfl⟩
       replace H : (cubbyref12_Places.l1 k1 x3_1 t447 x5_1 x6_1 y450 0 a0_0 a0_1 a0_2 l0_3) = some r := by (try rw [hy450]); first | with_reducible exact H | exact (zJ _ _).symm.trans H | exact H
       have Ny450 := zA hy450
       clear hy450
       have H' := zA H
       clear H
       obtain ⟨Ao16, co16, eo16⟩ := Kd.R_slice HO_4.out
       subst eo16
       go_wp2_with (first | ((with_reducible refine gate_dst (N := 25) rfl ?_); refine Kd.R_lit (Kd.int .i64) _ 3 (by rfl) (N := 25) (by rfl) (xs := ([] : List Int)) (inner := []) (ok := fun _ => True) (okp := fun _ => True) ?hr ?hp (fun _ hk => hk) trivial (Below.refl _ _) (Nat.le_refl _) (by simp) ?_; (case hr => go_simp <;> rfl); (case hp => exact (Reps.none _ _)); intro v451 w17 ho18 hb hg_ hnew_; clear hg_ hnew_; (first | rw [← Ny450.out] at ho18 | (simp only [Int.reduceToNat] at ho18; rw [← Ny450.out] at ho18)); replace HO_3 := zA (Kd.S_elder' (qS HO_3.out) (Kd.R_base ho18) hb); have HO452 := zA (Kd.R_lower (Kd.R_new' ho18 (Kd.R_lt (qR HO_4.out))) (below_size qB)); replace HO_4 := zA (Kd.R_elder' (qR HO_4.out) (Kd.R_base ho18) hb); replace BK442 := qW BK442 hb; replace HB := qH hb; clear hb ho18))
       repeat (go_quiet (first | ((with_reducible refine gate_dst (N := 25) rfl ?_); refine Kd.R_lit (Kd.int .i64) _ 3 (by rfl) (N := 25) (by rfl) (xs := ([] : List Int)) (inner := []) (ok := fun _ => True) (okp := fun _ => True) ?hr ?hp (fun _ hk => hk) trivial (Below.refl _ _) (Nat.le_refl _) (by simp) ?_; (case hr => go_simp <;> rfl); (case hp => exact (Reps.none _ _)); intro v451 w17 ho18 hb hg_ hnew_; clear hg_ hnew_; (first | rw [← Ny450.out] at ho18 | (simp only [Int.reduceToNat] at ho18; rw [← Ny450.out] at ho18)); replace HO_3 := zA (Kd.S_elder' (qS HO_3.out) (Kd.R_base ho18) hb); have HO452 := zA (Kd.R_lower (Kd.R_new' ho18 (Kd.R_lt (qR HO_4.out))) (below_size qB)); replace HO_4 := zA (Kd.R_elder' (qR HO_4.out) (Kd.R_base ho18) hb); replace BK442 := qW BK442 hb; replace HB := qH hb; clear hb ho18)); try go_wp2_with (first | ((with_reducible refine gate_dst (N := 25) rfl ?_); refine Kd.R_lit (Kd.int .i64) _ 3 (by rfl) (N := 25) (by rfl) (xs := ([] : List Int)) (inner := []) (ok := fun _ => True) (okp := fun _ => True) ?hr ?hp (fun _ hk => hk) trivial (Below.refl _ _) (Nat.le_refl _) (by simp) ?_; (case hr => go_simp <;> rfl); (case hp => exact (Reps.none _ _)); intro v451 w17 ho18 hb hg_ hnew_; clear hg_ hnew_; (first | rw [← Ny450.out] at ho18 | (simp only [Int.reduceToNat] at ho18; rw [← Ny450.out] at ho18)); replace HO_3 := zA (Kd.S_elder' (qS HO_3.out) (Kd.R_base ho18) hb); have HO452 := zA (Kd.R_lower (Kd.R_new' ho18 (Kd.R_lt (qR HO_4.out))) (below_size qB)); replace HO_4 := zA (Kd.R_elder' (qR HO_4.out) (Kd.R_base ho18) hb); replace BK442 := qW BK442 hb; replace HB := qH hb; clear hb ho18)))
       go_loopg [5, 7, 8] k1 (fun kq v5 v7 v8 w' => ∃ (x5_2 : Int) (x7_2 : List Int) (x8_2 : Int), v5 = .int .i64 x5_2 ∧ v8 = .int .i64 x8_2 ∧ Aside0 (cubbyref12_Places.l1 kq x3_1 t447 x5_2 x6_1 x7_2 x8_2 a0_0 a0_1 a0_2 l0_3 = some r) ∧ Aside0 (kq ≤ k1) ∧ Aside0 (Kd.S (Kd.slice 3 (Kd.int .i64)) 35 w' w.heap.size (fun k_ => some k_ ≠ ((.slice Ao16 t447.length co16) : Value).ownBlock ∧ some k_ ≠ (v7 : Value).ownBlock) v445 x3_1) ∧ Aside0 (Kd.R (Kd.int .i64) 3 w' w.heap.size (fun k_ => some k_ ≠ (v7 : Value).ownBlock) (.slice Ao16 t447.length co16) t447) ∧ Aside0 (Kd.R (Kd.int .i64) 3 w' w.heap.size (fun k_ => some k_ ≠ ((.slice Ao16 t447.length co16) : Value).ownBlock) v7 x7_2) ∧ Aside0 (w'.heap[gb442]? = some (.cells #[.string a0_0, .int .i64 a0_1, .int .i64 a0_2, (.slice A0_3 l0_3.length c0_3)] 24 (0, 0))) ∧ Aside0 (Below w.heap.size w w'))
       case atStart => exact ⟨(x5_1), (y450), (0), qT, qT, H', ⟨Nat.le_refl _⟩, ⟨qS HO_3.out⟩, ⟨by (with_reducible repeat (first | apply Kd.R_alloc | apply Kd.R_drewN | apply Kd.R_drew)); exact Kd.R_mono HO_4.out (fun _ hk => hk.2)⟩, ⟨by (with_reducible repeat (first | apply Kd.R_alloc | apply Kd.R_drewN | apply Kd.R_drew)); exact Kd.R_mono HO452.out (fun _ hk => hk.2)⟩, ⟨qK BK442.out⟩, ⟨qB⟩⟩
       case round =>
        clear H'
        obtain ⟨x5_2, x7_2, x8_2, rfl, rfl, HA, HK2, HO_3, HO_4, HO_7, BK442, HB⟩ := hrel
        cases gk with
        | zero => exact absurd HA.out (by simp [cubbyref12_Places.l1])
        | succ k2 =>
         have H := HA.out
         clear HA
         simp only [cubbyref12_Places.l1] at H
         by_cases c19 : 0 ≤ x6_1
         ·rw [zC c19] at H
          have c19b0 := zF c19
          clear c19
          by_cases c20 : x6_1 < (t447.length : Int)
          ·rw [zC c20] at H
           have c20b0 := zF c20
           clear c20
           by_cases c21 : 0 ≤ (rd t447 x6_1)
           ·rw [zC c21] at H
            have c21b0 := zF c21
            clear c21
            by_cases c22 : (rd t447 x6_1) < (l0_3.length : Int)
            ·rw [zC c22] at H
             have c22b0 := zF c22
             clear c22
             by_cases c23 : x8_2 < ((rd_LIns l0_3 (rd t447 x6_1)).length : Int)
             ·rw [zC c23] at H
              have c23b0 := zF c23
              clear c23
              by_cases c24 : x7_2.length < 17592186044416
              ·rw [zC c24] at H
               have LMc24 := zA c24
               clear c24
               obtain ⟨y455, hy455⟩ : ∃ y_ : List Int, y_ = (x7_2 ++ [wrap64 (x5_2 + 1)]) := ⟨_, rfl⟩
               replace H : (cubbyref12_Places.l1 k2 x3_1 t447 (wrap64 (x5_2 + 1)) x6_1 y455 (wrap64 (x8_2 + 1)) a0_0 a0_1 a0_2 l0_3) = some r := by (try rw [hy455]); first | with_reducible exact H | exact (zJ _ _).symm.trans H | exact H
               have Ny455 := zA hy455
               clear hy455
               have H' := zA H
               clear H
               have z25_0 := bk4 BK442.out
               have p453 : 0 ≤ (x6_1 : Int) := zB qA
               have q453 : x6_1 < (t447.length : Int) := zB qA
               obtain ⟨ad453, e453, hx453_0⟩ := Kd.at_int (Kd.R_reads' HO_4.out).2.2 x6_1 p453 q453
               cases e453
               replace p453 := eq_true p453
               replace q453 := eq_true q453
               have p454 : 0 ≤ ((rd t447 x6_1) : Int) := zB qA
               have q454 : (rd t447 x6_1) < (l0_3.length : Int) := zB qA
               obtain ⟨ad454, A454_0, c454_0, e454, hx454_0, hl454_0, hi454_0⟩ := at_LIns HR0_3.out (rd t447 x6_1) p454 q454
               cases e454
               replace hx454_0 := (HB.out.cell (zE w _ hx454_0)).trans hx454_0
               have HR454_0 := zA hi454_0
               have HC454_0 := zA hl454_0
               clear hi454_0 hl454_0
               replace p454 := eq_true p454
               replace q454 := eq_true q454
               go_wp2_with (first | ((with_reducible refine gate_builtin (b := .append) (xs := #[.tmp 41, .tmp 43]) rfl ?_); at_builtin; refine Kd.R_append (Kd.int .i64) (w0 := w) w.heap.size rfl (.tmp 41) (.tmp 43) 35 3 (.int .i64 0) 8 rfl Tryd.underlying35 info3 rfl (by decide) (by omega) u7 x7_2 (wrap64 (x5_2 + 1)) [.int .i64 (wrap64 (x5_2 + 1))] (fun k_ => some k_ ≠ (.slice (some ad453) t447.length co16 : Value).ownBlock) (fun _ => False) rfl rfl ?aP (fun _ hk => hk.elim) ?aF ?aO ?aB ?aS ?aL ?_; (case aP => exact rfl); (case aB => exact qB); (case aF => exact (fun k_ hk => Kd.fresh' (Kd.R_lt (qR HO_4.out)) k_ hk)); (case aO => exact (qR HO_7.out)); (case aS => exact (below_size qB)); (case aL => have := LMc24.out; omega); intro v456 w26 ho hb hg hat; rw [← Ny455.out] at ho; replace HO_3 := zA (Kd.S_after (ok := (fun k_ => some k_ ≠ (.slice (some ad453) t447.length co16 : Value).ownBlock)) (qS HO_3.out) hg hat); replace HO_4 := zA (Kd.R_after (ok := (fun _ => True)) (by (with_reducible repeat (first | apply Kd.R_alloc | apply Kd.R_drewN | apply Kd.R_drew)); exact Kd.R_mono HO_4.out (fun _ hk => ⟨trivial, hk⟩)) hg hat); replace BK442 := zA (blk_grown (qK BK442.out) hg (Kd.R_ne HO_7.out BK442.out (by decide))); replace HB := zA (hb); have HO457 := zA (ho); clear HO_7; clear ho hb hg hat))
               repeat (go_quiet (first | ((with_reducible refine gate_builtin (b := .append) (xs := #[.tmp 41, .tmp 43]) rfl ?_); at_builtin; refine Kd.R_append (Kd.int .i64) (w0 := w) w.heap.size rfl (.tmp 41) (.tmp 43) 35 3 (.int .i64 0) 8 rfl Tryd.underlying35 info3 rfl (by decide) (by omega) u7 x7_2 (wrap64 (x5_2 + 1)) [.int .i64 (wrap64 (x5_2 + 1))] (fun k_ => some k_ ≠ (.slice (some ad453) t447.length co16 : Value).ownBlock) (fun _ => False) rfl rfl ?aP (fun _ hk => hk.elim) ?aF ?aO ?aB ?aS ?aL ?_; (case aP => exact rfl); (case aB => exact qB); (case aF => exact (fun k_ hk => Kd.fresh' (Kd.R_lt (qR HO_4.out)) k_ hk)); (case aO => exact (qR HO_7.out)); (case aS => exact (below_size qB)); (case aL => have := LMc24.out; omega); intro v456 w26 ho hb hg hat; rw [← Ny455.out] at ho; replace HO_3 := zA (Kd.S_after (ok := (fun k_ => some k_ ≠ (.slice (some ad453) t447.length co16 : Value).ownBlock)) (qS HO_3.out) hg hat); replace HO_4 := zA (Kd.R_after (ok := (fun _ => True)) (by (with_reducible repeat (first | apply Kd.R_alloc | apply Kd.R_drewN | apply Kd.R_drew)); exact Kd.R_mono HO_4.out (fun _ hk => ⟨trivial, hk⟩)) hg hat); replace BK442 := zA (blk_grown (qK BK442.out) hg (Kd.R_ne HO_7.out BK442.out (by decide))); replace HB := zA (hb); have HO457 := zA (ho); clear HO_7; clear ho hb hg hat)); try go_wp2_with (first | ((with_reducible refine gate_builtin (b := .append) (xs := #[.tmp 41, .tmp 43]) rfl ?_); at_builtin; refine Kd.R_append (Kd.int .i64) (w0 := w) w.heap.size rfl (.tmp 41) (.tmp 43) 35 3 (.int .i64 0) 8 rfl Tryd.underlying35 info3 rfl (by decide) (by omega) u7 x7_2 (wrap64 (x5_2 + 1)) [.int .i64 (wrap64 (x5_2 + 1))] (fun k_ => some k_ ≠ (.slice (some ad453) t447.length co16 : Value).ownBlock) (fun _ => False) rfl rfl ?aP (fun _ hk => hk.elim) ?aF ?aO ?aB ?aS ?aL ?_; (case aP => exact rfl); (case aB => exact qB); (case aF => exact (fun k_ hk => Kd.fresh' (Kd.R_lt (qR HO_4.out)) k_ hk)); (case aO => exact (qR HO_7.out)); (case aS => exact (below_size qB)); (case aL => have := LMc24.out; omega); intro v456 w26 ho hb hg hat; rw [← Ny455.out] at ho; replace HO_3 := zA (Kd.S_after (ok := (fun k_ => some k_ ≠ (.slice (some ad453) t447.length co16 : Value).ownBlock)) (qS HO_3.out) hg hat); replace HO_4 := zA (Kd.R_after (ok := (fun _ => True)) (by (with_reducible repeat (first | apply Kd.R_alloc | apply Kd.R_drewN | apply Kd.R_drew)); exact Kd.R_mono HO_4.out (fun _ hk => ⟨trivial, hk⟩)) hg hat); replace BK442 := zA (blk_grown (qK BK442.out) hg (Kd.R_ne HO_7.out BK442.out (by decide))); replace HB := zA (hb); have HO457 := zA (ho); clear HO_7; clear ho hb hg hat)))
               go_roundg k2
               case measure => have := HK1.out; have := HK2.out; omega
               case rel => exact ⟨(wrap64 (x5_2 + 1)), (y455), (wrap64 (x8_2 + 1)), qT, qT, H', ⟨by have := HK1.out; have := HK2.out; omega⟩, ⟨qS HO_3.out⟩, ⟨by (with_reducible repeat (first | apply Kd.R_alloc | apply Kd.R_drewN | apply Kd.R_drew)); exact Kd.R_mono HO_4.out (fun _ hk => hk.2)⟩, ⟨qR HO457.out⟩, ⟨qK BK442.out⟩, ⟨qB⟩⟩
              ·rw [zD c24] at H
               exact absurd H (by simp)
             ·rw [zD c23] at H
              have c23b0 := zG c23
              clear c23
              by_cases c27 : (rd t447 x6_1) < (x3_1.length : Int)
              ·rw [zC c27] at H
               have c27b0 := zF c27
               clear c27
               obtain ⟨y459, hy459⟩ : ∃ y_ : List (List Int), y_ = (x3_1.set ((rd t447 x6_1) : Int).toNat x7_2) := ⟨_, rfl⟩
               replace H : (cubbyref12_Places.l0 k2 y459 t447 x5_2 (wrap64 (x6_1 + 1)) a0_0 a0_1 a0_2 l0_3) = some r := by (try rw [hy459]); first | with_reducible exact H | exact (zJ _ _).symm.trans H | exact H
               have Ny459 := zA hy459
               clear hy459
               have H' := zA H
               clear H
               have z29_0 := bk4 BK442.out
               have p453 : 0 ≤ (x6_1 : Int) := zB qA
               have q453 : x6_1 < (t447.length : Int) := zB qA
               obtain ⟨ad453, e453, hx453_0⟩ := Kd.at_int (Kd.R_reads' HO_4.out).2.2 x6_1 p453 q453
               cases e453
               replace p453 := eq_true p453
               replace q453 := eq_true q453
               have p454 : 0 ≤ ((rd t447 x6_1) : Int) := zB qA
               have q454 : (rd t447 x6_1) < (l0_3.length : Int) := zB qA
               obtain ⟨ad454, A454_0, c454_0, e454, hx454_0, hl454_0, hi454_0⟩ := at_LIns HR0_3.out (rd t447 x6_1) p454 q454
               cases e454
               replace hx454_0 := (HB.out.cell (zE w _ hx454_0)).trans hx454_0
               have HR454_0 := zA hi454_0
               have HC454_0 := zA hl454_0
               clear hi454_0 hl454_0
               replace p454 := eq_true p454
               replace q454 := eq_true q454
               go_wp2_with fail
               go_quiet (fail)
               have n0_ := zA (Kd.S_drewN HO_3.out nq)
               have n1_ := zA (Kd.R_drewN HO_4.out nq)
               have n2_ := zA (blk_drewN BK442.out nq)
               have n3_ := zA (pw_below_drewN HB.out nq)
               have n4_ := zA (Kd.R_drewN HO_7.out nq)
               clear HO_3 HO_4 BK442 HB HO_7
               (try clear hcz29_0)
               (try clear hcz29_1)
               (try clear hcz29_2)
               (try clear hcz29_3)
               (try clear hfz29_0)
               (try clear hfz29_1)
               (try clear hfz29_2)
               (try clear hfz29_3)
               (try clear hx453_0)
               (try clear hx454_0)
               generalize wr.drewN nq = wq at n0_ n1_ n2_ n3_ n4_ ⊢
               have HO_3 := n0_
               have HO_4 := n1_
               have BK442 := n2_
               have HB := n3_
               have HO_7 := n4_
               clear n0_ n1_ n2_ n3_ n4_
               obtain ⟨A7_, c7_, e7_⟩ := Kd.R_slice HO_7.out
               subst e7_
               have p458 : 0 ≤ (x6_1 : Int) := zB qA
               have q458 : x6_1 < (t447.length : Int) := zB qA
               obtain ⟨ad458, e458, hx458_0⟩ := Kd.at_int (Kd.R_reads' HO_4.out).2.2 x6_1 p458 q458
               obtain rfl : ad453 = ad458 := (by injection e458)
               replace p458 := eq_true p458
               replace q458 := eq_true q458
               have p28 : 0 ≤ ((rd t447 x6_1) : Int) := zB qA
               have q28 : ((rd t447 x6_1) : Int) < ((x3_1.length : Int) : Int) := zB qA
               obtain ⟨go28, co28, eo28, gb28, gl28, cl28, HG28⟩ := Kd.S_form HO_3.out (by omega)
               (first | cases eo28 | (injection eo28 with ea_ en_ ec_; (first | subst ea_ | (injection ea_ with ea_; subst ea_)); subst ec_; clear en_))
               have GB28 := zA gb28
               have GG28 := zA HG28
               clear gb28 gl28 HG28
               obtain ⟨_, ce28, hcl28, hM28, hcc28, hfr28, _, _⟩ := Kd.S_elem HO_3.out [] ((rd t447 x6_1) : Int) p28 q28
               obtain ⟨ve28_0, rfl, ge28_0⟩ := hM28
               have hx28_0 := hcc28 0 _ rfl
               have hf28_0 := hfr28 0
               (try simp only [show ((Kd.slice 3 (Kd.int .i64))).sz = 1 from rfl, Nat.mul_one, Nat.add_zero] at hx28_0)
               (try simp only [show ((Kd.slice 3 (Kd.int .i64))).sz = 1 from rfl, Nat.mul_one, Nat.add_zero] at hf28_0)
               (try clear hcl28)
               (try clear hcc28)
               (try clear hfr28)
               (try clear hM28)
               replace p28 := eq_true p28
               replace q28 := eq_true q28
               have HX30 := zA (show Kd.S (Kd.slice 3 (Kd.int .i64)) 35 wq w.heap.size (fun k_ => ((fun k_ => some k_ ≠ (.slice (some ad453) t447.length co16 : Value).ownBlock)) k_ ∧ ¬ ((fun k_ => some k_ = ((Value.slice A7_ x7_2.length c7_) : Value).ownBlock)) k_) (.slice (some ⟨go28, 0, none⟩) x3_1.length co28) x3_1 from (by (with_reducible repeat (first | apply Kd.S_alloc | apply Kd.S_drewN | apply Kd.S_drew)); exact Kd.S_mono HO_3.out (fun k_ hk => ⟨hk.1, fun e_ => hk.2 e_⟩)))
               obtain ⟨oki30, ce30, hcl30, hM30, hcc30, hfr30, hoki30, hH30⟩ := Kd.S_elem HX30.out [] ((rd t447 x6_1) : Int) (zB qA) (by have h_ : ((rd t447 x6_1) : Int) < ((x3_1.length : Int) : Int) := zB qA; first | exact h_ | (have e_ := (Kd.S_reads' HO_3.out).1; omega) | simpa using h_)
               obtain ⟨ve30_0, rfl, ge30_0⟩ := hM30
               have HP30 := Kd.S_seg hH30 (zB qA) (by have h_ : ((rd t447 x6_1) : Int) < ((x3_1.length : Int) : Int) := zB qA; first | exact h_ | (have e_ := (Kd.S_reads' HO_3.out).1; omega) | simpa using h_) (seg := [(Value.slice A7_ x7_2.length c7_)]) (j := 0) (show 1 ≤ 1 from by decide) (x' := x7_2) (Kd.M_row (Kd.R_mono (Kd.R_tight rfl (Kd.R_mono (ok' := fun k_ => ((fun k_ => some k_ ≠ (.slice (some ad453) t447.length co16 : Value).ownBlock)) k_ ∧ k_ ≠ go28) (Kd.R_apart' (HO_7.out) (Kd.S_typed HO_3.out) (by decide)) (fun k_ hk => ⟨hk.1, fun e_ => (hk.2) (by rw [e_]; rfl)⟩))) (fun _ h_ => Or.inr (h_)))) (fun _ hk => hk) (fun k_ hk_ => ((Kd.R_mono (ok' := fun k_ => ((fun k_ => some k_ ≠ (.slice (some ad453) t447.length co16 : Value).ownBlock)) k_ ∧ k_ ≠ go28) (Kd.R_apart' (HO_7.out) (Kd.S_typed HO_3.out) (by decide)) (fun k_ hk => ⟨hk.1, fun e_ => (hk.2) (by rw [e_]; rfl)⟩))).1 k_ hk_.symm)
               have hx30_0 := hcc30 0 _ rfl
               (try simp only [show ((Kd.slice 3 (Kd.int .i64))).sz = 1 from rfl, Nat.mul_one, Nat.add_zero] at hx30_0)
               have hf30_0 := hfr30 0
               (try simp only [show ((Kd.slice 3 (Kd.int .i64))).sz = 1 from rfl, Nat.mul_one, Nat.add_zero] at hf30_0)
               (try clear hcl30)
               (try clear hcc30)
               (try clear hfr30)
               (try clear hM30)
               (try simp only [show ((Kd.slice 3 (Kd.int .i64))).sz = 1 from rfl, Nat.mul_one, Nat.add_zero] at HP30)
               go_wp2_with (first | ((with_reducible refine gate_store (t := 35) (p := 51) rfl ?_); refine store_event (t := 35) (p := 51) (v := ?vo_w31) (w1 := (wq.setCell ⟨go28, ((rd t447 x6_1) : Int).toNat, none⟩ ((Value.slice A7_ x7_2.length c7_)))) (by rfl) (by rfl) (by rfl) ?hr ?_; (case hr => go_simp <;> rfl); intro w31 hw; have hg : wq.grownBy w31 (some go28) := (by rw [hw]; exact HP30.2); have hp_ : Kd.S (Kd.slice 3 (Kd.int .i64)) 35 w31 w.heap.size (fun k_ => some k_ ≠ (.slice (some ad453) t447.length co16 : Value).ownBlock) (.slice (some ⟨go28, 0, none⟩) x3_1.length co28) y459 := (by rw [hw, Ny459.out]; exact HP30.1); clear HP30; replace HO_4 := zA (Kd.R_over' (v := (.slice (some ⟨go28, 0, none⟩) x3_1.length co28)) (qR HO_4.out) (Kd.S_typed HO_3.out) (by decide) hg); replace BK442 := zA (blk_grown (qK BK442.out) hg (Kd.S_ne HO_3.out BK442.out (by decide))); replace HO_3 := zA (hp_); replace HB := zA ((by rw [hw]; exact below_set (HB.out) GB28.out : Below w.heap.size w w31)); clear HO_7; clear hg hw hp_))
               go_roundg k2
               case measure => have := HK1.out; have := HK2.out; omega
               case rel => exact ⟨(y459), (x5_2), (wrap64 (x6_1 + 1)), qT, qT, H', ⟨by have := HK1.out; have := HK2.out; omega⟩, ⟨qS HO_3.out⟩, ⟨by (with_reducible repeat (first | apply Kd.R_alloc | apply Kd.R_drewN | apply Kd.R_drew)); exact Kd.R_mono HO_4.out (fun _ hk => trivial)⟩, ⟨qK BK442.out⟩, ⟨qB⟩⟩
              ·rw [zD c27] at H
               exact absurd H (by simp)
            ·rw [zD c22] at H
             exact absurd H (by simp)
           ·rw [zD c21] at H
            exact absurd H (by simp)
          ·rw [zD c20] at H
           exact absurd H (by simp)
         ·rw [zD c19] at H
          exact absurd H (by simp)
      ·rw [zD c15] at H
       have c15b0 := zG c15
       clear c15
       obtain rfl := zI H
       obtain ⟨Ao32, co32, eo32⟩ := Kd.R_slice HO_4.out
       subst eo32
       go_wp2
       repeat (go_quiet (fail); try go_wp2)
       go_ret
       exact ⟨_, qE, by (with_reducible repeat (first | apply Kd.S_alloc | apply Kd.S_drewN | apply Kd.S_drew)); exact Kd.S_mono HO_3.out (fun _ hk => trivial), qB⟩
   ·rw [zD c5] at H
    exact absurd H (by simp)
  ·rw [zD c4] at H
   exact absurd H (by simp)
 ·rw [zD c3] at H
  obtain ⟨c3b0, c3b1⟩ := qn c3
  obtain rfl := zI H
  go_enter Tryd.func15, Tryd.ntmps15
  go_wp2_with (first | ((with_reducible refine gate_dst (N := 1) rfl ?_); refine box_event (by rfl) (N := 1) (by rfl) (cs := #[.string a0_0, .int .i64 a0_1, .int .i64 a0_2, .slice A0_3 l0_3.length c0_3]) (t := 24) ?hr ?_; (case hr => go_simp <;> rfl); intro gb442 hg w33 hbox hb; have BK442 := zA (hbox); have GW442 := qG hg; have GE442 := GW442; replace HB := qH hb; clear hb hbox hg; have z34_0 := bk4 BK442.out) | (go_at_call 38; (with_reducible refine (cubbyref11_Check.calls k a0_0 a0_1 a0_2 _ _ l0_3 t443 _ ?side1 ?side2 A2.out).mono ?_); (case side1 => exact qCB HR0_3.out); (case side2 => exact HC0_3.out); rintro e w35 ⟨rfl, hb⟩; replace BK442 := qW BK442 hb; replace HB := qH hb; (try clear hb)))
  repeat (go_quiet (first | ((with_reducible refine gate_dst (N := 1) rfl ?_); refine box_event (by rfl) (N := 1) (by rfl) (cs := #[.string a0_0, .int .i64 a0_1, .int .i64 a0_2, .slice A0_3 l0_3.length c0_3]) (t := 24) ?hr ?_; (case hr => go_simp <;> rfl); intro gb442 hg w33 hbox hb; have BK442 := zA (hbox); have GW442 := qG hg; have GE442 := GW442; replace HB := qH hb; clear hb hbox hg; have z34_0 := bk4 BK442.out) | (go_at_call 38; (with_reducible refine (cubbyref11_Check.calls k a0_0 a0_1 a0_2 _ _ l0_3 t443 _ ?side1 ?side2 A2.out).mono ?_); (case side1 => exact qCB HR0_3.out); (case side2 => exact HC0_3.out); rintro e w35 ⟨rfl, hb⟩; replace BK442 := qW BK442 hb; replace HB := qH hb; (try clear hb))); try go_wp2_with (first | ((with_reducible refine gate_dst (N := 1) rfl ?_); refine box_event (by rfl) (N := 1) (by rfl) (cs := #[.string a0_0, .int .i64 a0_1, .int .i64 a0_2, .slice A0_3 l0_3.length c0_3]) (t := 24) ?hr ?_; (case hr => go_simp <;> rfl); intro gb442 hg w33 hbox hb; have BK442 := zA (hbox); have GW442 := qG hg; have GE442 := GW442; replace HB := qH hb; clear hb hbox hg; have z34_0 := bk4 BK442.out) | (go_at_call 38; (with_reducible refine (cubbyref11_Check.calls k a0_0 a0_1 a0_2 _ _ l0_3 t443 _ ?side1 ?side2 A2.out).mono ?_); (case side1 => exact qCB HR0_3.out); (case side2 => exact HC0_3.out); rintro e w35 ⟨rfl, hb⟩; replace BK442 := qW BK442 hb; replace HB := qH hb; (try clear hb))))
  go_ret
  exact ⟨_, qE, by first | exact Kd.S_nil _ _ _ _ _ | exact Kd.N_nil _ _ _ _ _ | exact Kd.V_nil _ _ _ _ _ | exact Kd.Q_nil _ _ _ _ _ | exact Kd.R_nil _ _ _ _ _, qB⟩

def cubbyref11_Ahead.j0 : Nat → Int → Int → Bool → ByteArray → Int → Int → List (List (SIns)) → Option (List Int)
 | 0, _, _, _, _, _, _, _ => none
 | k + 1, x1, x2, x34, x500000, x500001, x500002, x500003 => if x34 = true then (some ([] : List Int)) else ((cubbyref11_In.f k x500000 x500001 x500002 x500003).bind fun t502 => ((cubbyref11_ahead.f k x500000 x500001 x500002 x500003 t502 x1 x2).bind fun t505 => (some t505)))
def cubbyref11_Ahead.f (k : Nat) (a0_0 : ByteArray) (a0_1 : Int) (a0_2 : Int) (l0_3 : List (List (SIns))) (a1 : Int) (a2 : Int) : Option (List Int) := (cubbyref07_Check.f k a0_0 a0_1 a0_2 l0_3).bind fun t500 => (if t500 = 0 then (if a1 < 0 then (cubbyref11_Ahead.j0 k a1 a2 true a0_0 a0_1 a0_2 l0_3) else (if a1 ≥ (l0_3.length : Int) then (cubbyref11_Ahead.j0 k a1 a2 true a0_0 a0_1 a0_2 l0_3) else (if a2 < 0 then (cubbyref11_Ahead.j0 k a1 a2 true a0_0 a0_1 a0_2 l0_3) else (if 0 ≤ a1 then (if a1 < (l0_3.length : Int) then (cubbyref11_Ahead.j0 k a1 a2 (decide (a2 > ((rd_LIns l0_3 a1).length : Int))) a0_0 a0_1 a0_2 l0_3) else (none)) else (none))))) else (cubbyref11_Ahead.j0 k a1 a2 true a0_0 a0_1 a0_2 l0_3))
set_option maxHeartbeats 8000000 in
set_option maxRecDepth 100000 in
theorem cubbyref11_Ahead.calls (k : Nat) (a0_0 : ByteArray) (a0_1 : Int) (a0_2 : Int) (A0_3 : Option Addr) (c0_3 : Nat) (l0_3 : List (List (SIns))) (a1 : Int) (a2 : Int) (r : List Int) (w : World) (hr0_3 : Kd.C (Kd.slice 38 kIns) w A0_3 l0_3.length l0_3) (hc0_3 : l0_3.length ≤ c0_3) (h : cubbyref11_Ahead.f k a0_0 a0_1 a0_2 l0_3 a1 a2 = some r) :
 Calls Tryd.prog 19 #[.agg #[.string a0_0, .int .i64 a0_1, .int .i64 a0_2, .slice A0_3 l0_3.length c0_3], .int .i64 a1, .int .i64 a2] w fun e w' => ∃ v0_ : Value, e = .returned (v0_) ∧ Kd.R (Kd.int .i64) 3 w' w.heap.size (fun _ => True) v0_ r ∧ Below w.heap.size w w' := by
 have hu24 := Tryd.underlying24
 have HR0_3 := zA hr0_3
 have HC0_3 := zA hc0_3
 clear hr0_3 hc0_3
 have HB := zA (Below.refl w.heap.size w)
 have H := h; clear h; unfold cubbyref11_Ahead.f at H
 have HC4 := zA H
 clear H
 go_enter Tryd.func19, Tryd.ntmps19
 go_upto_region 1 with (first | ((with_reducible refine gate_dst (N := 3) rfl ?_); (try (refine gate_guard (by rfl) ?_; dsimp only)); refine box_event (by rfl) (N := 3) (by rfl) (cs := #[.string a0_0, .int .i64 a0_1, .int .i64 a0_2, .slice A0_3 l0_3.length c0_3]) (t := 24) ?hr ?_; (case hr => go_simp <;> rfl); intro gb499 hg w5 hbox hb; have BK499 := zA (hbox); have GW499 := qG hg; have GE499 := GW499; replace HB := qH hb; clear hb hbox hg))
 (try simp only [Act.put, List.setIfInBounds_toArray, List.set_cons_zero, List.set_cons_succ])
 go_cut [34] (fun v34 wc => ∃ (kq : Nat) (x34_3 : Bool), v34 = .bool x34_3 ∧ Aside0 (cubbyref11_Ahead.j0 kq a1 a2 x34_3 a0_0 a0_1 a0_2 l0_3 = some r) ∧ Aside0 (kq ≤ k) ∧ Aside0 (wc.heap[gb499]? = some (.cells #[.string a0_0, .int .i64 a0_1, .int .i64 a0_2, (.slice A0_3 l0_3.length c0_3)] 24 (0, 0))) ∧ Aside0 (Below w.heap.size w wc))
 case first =>
  have H := HC4.out
  clear HC4
  replace H := qb H; obtain ⟨t500, A6, H⟩ := H
  by_cases c7 : t500 = 0
  ·rw [zC c7] at H
   obtain ⟨c7b0, c7b1⟩ := qe c7; clear c7
   (first | rw [c7b0] | (simp only [i64_w, i32_w]; rw [c7b0]) | skip)
   by_cases c8 : a1 < 0
   ·rw [zC c8] at H
    have c8b0 := zF c8
    clear c8
    have H' := zA H
    clear H
    have z9_0 := bk4 BK499.out
    go_wp2_with (first | ((with_reducible refine gate_callee (f := 48) rfl ?_); refine goesL_ (some 8) rfl rfl Tryd.func48 (by kernel_rfl) rfl #[.agg #[.string a0_0, .int .i64 a0_1, .int .i64 a0_2, .slice A0_3 l0_3.length c0_3]] rfl qL ?_; (with_reducible refine (cubbyref07_Check.calls k a0_0 a0_1 a0_2 _ _ l0_3 t500 _ ?side1 ?side2 A6.out).mono ?_); (case side1 => exact qCB HR0_3.out); (case side2 => exact HC0_3.out); rintro e w10 ⟨rfl, hb⟩; refine ⟨_, rfl, ?_⟩; replace BK499 := qW BK499 hb; replace HB := qH hb; (try clear hb)))
    go_meet
    case rel => exact ⟨_, (true), qT, H', ⟨qO⟩, ⟨qK BK499.out⟩, ⟨qB⟩⟩
   ·rw [zD c8] at H
    have c8b0 := zG c8
    clear c8
    by_cases c11 : a1 ≥ (l0_3.length : Int)
    ·rw [zC c11] at H
     have c11b0 : decide ((l0_3.length : Int) ≤ a1) = true := zF c11
     clear c11
     have H' := zA H
     clear H
     have z12_0 := bk4 BK499.out
     go_wp2_with (first | ((with_reducible refine gate_callee (f := 48) rfl ?_); refine goesL_ (some 8) rfl rfl Tryd.func48 (by kernel_rfl) rfl #[.agg #[.string a0_0, .int .i64 a0_1, .int .i64 a0_2, .slice A0_3 l0_3.length c0_3]] rfl qL ?_; (with_reducible refine (cubbyref07_Check.calls k a0_0 a0_1 a0_2 _ _ l0_3 t500 _ ?side1 ?side2 A6.out).mono ?_); (case side1 => exact qCB HR0_3.out); (case side2 => exact HC0_3.out); rintro e w13 ⟨rfl, hb⟩; refine ⟨_, rfl, ?_⟩; replace BK499 := qW BK499 hb; replace HB := qH hb; (try clear hb); have z14_0 := bk4 BK499.out))
     go_meet
     case rel => exact ⟨_, (true), qT, H', ⟨qO⟩, ⟨qK BK499.out⟩, ⟨qB⟩⟩
    ·rw [zD c11] at H
     have c11b0 : decide ((l0_3.length : Int) ≤ a1) = false := zG c11
     clear c11
     by_cases c15 : a2 < 0
     ·rw [zC c15] at H
      have c15b0 := zF c15
      clear c15
      have H' := zA H
      clear H
      have z16_0 := bk4 BK499.out
      go_wp2_with (first | ((with_reducible refine gate_callee (f := 48) rfl ?_); refine goesL_ (some 8) rfl rfl Tryd.func48 (by kernel_rfl) rfl #[.agg #[.string a0_0, .int .i64 a0_1, .int .i64 a0_2, .slice A0_3 l0_3.length c0_3]] rfl qL ?_; (with_reducible refine (cubbyref07_Check.calls k a0_0 a0_1 a0_2 _ _ l0_3 t500 _ ?side1 ?side2 A6.out).mono ?_); (case side1 => exact qCB HR0_3.out); (case side2 => exact HC0_3.out); rintro e w17 ⟨rfl, hb⟩; refine ⟨_, rfl, ?_⟩; replace BK499 := qW BK499 hb; replace HB := qH hb; (try clear hb); have z18_0 := bk4 BK499.out))
      go_meet
      case rel => exact ⟨_, (true), qT, H', ⟨qO⟩, ⟨qK BK499.out⟩, ⟨qB⟩⟩
     ·rw [zD c15] at H
      have c15b0 := zG c15
      clear c15
      by_cases c19 : 0 ≤ a1
      ·rw [zC c19] at H
       have c19b0 := zF c19
       clear c19
       by_cases c20 : a1 < (l0_3.length : Int)
       ·rw [zC c20] at H
        have c20b0 := zF c20
        clear c20
        have H' := zA H
        clear H
        have z21_0 := bk4 BK499.out
        go_wp2_with (first | ((with_reducible refine gate_callee (f := 48) rfl ?_); refine goesL_ (some 8) rfl rfl Tryd.func48 (by kernel_rfl) rfl #[.agg #[.string a0_0, .int .i64 a0_1, .int .i64 a0_2, .slice A0_3 l0_3.length c0_3]] rfl qL ?_; (with_reducible refine (cubbyref07_Check.calls k a0_0 a0_1 a0_2 _ _ l0_3 t500 _ ?side1 ?side2 A6.out).mono ?_); (case side1 => exact qCB HR0_3.out); (case side2 => exact HC0_3.out); rintro e w22 ⟨rfl, hb⟩; refine ⟨_, rfl, ?_⟩; replace BK499 := qW BK499 hb; replace HB := qH hb; (try clear hb); have z23_0 := bk4 BK499.out; have p501 : 0 ≤ (a1 : Int) := zB qA; have q501 : a1 < (l0_3.length : Int) := zB qA; obtain ⟨ad501, A501_0, c501_0, e501, hx501_0, hl501_0, hi501_0⟩ := at_LIns HR0_3.out a1 p501 q501; cases e501; replace hx501_0 := (HB.out.cell (zE w _ hx501_0)).trans hx501_0; have HR501_0 := zA hi501_0; have HC501_0 := zA hl501_0; clear hi501_0 hl501_0; replace p501 := eq_true p501; replace q501 := eq_true q501))
        go_meet
        case rel => exact ⟨_, (decide (a2 > ((rd_LIns l0_3 a1).length : Int))), qT, H', ⟨qO⟩, ⟨qK BK499.out⟩, ⟨qB⟩⟩
       ·rw [zD c20] at H
        exact absurd H (by simp)
      ·rw [zD c19] at H
       exact absurd H (by simp)
  ·rw [zD c7] at H
   obtain ⟨c7b0, c7b1⟩ := qn c7
   (first | rw [c7b0] | (simp only [i64_w, i32_w]; rw [c7b0]) | skip)
   have H' := zA H
   clear H
   have z24_0 := bk4 BK499.out
   go_wp2_with (first | ((with_reducible refine gate_callee (f := 48) rfl ?_); refine goesL_ (some 8) rfl rfl Tryd.func48 (by kernel_rfl) rfl #[.agg #[.string a0_0, .int .i64 a0_1, .int .i64 a0_2, .slice A0_3 l0_3.length c0_3]] rfl qL ?_; (with_reducible refine (cubbyref07_Check.calls k a0_0 a0_1 a0_2 _ _ l0_3 t500 _ ?side1 ?side2 A6.out).mono ?_); (case side1 => exact qCB HR0_3.out); (case side2 => exact HC0_3.out); rintro e w25 ⟨rfl, hb⟩; refine ⟨_, rfl, ?_⟩; replace BK499 := qW BK499 hb; replace HB := qH hb; (try clear hb)))
   go_meet
   case rel => exact ⟨_, (true), qT, H', ⟨qO⟩, ⟨qK BK499.out⟩, ⟨qB⟩⟩
 case rest =>
  clear HC4
  obtain ⟨kq, x34_3, rfl, HA, HJ3, BK499, HB⟩ := hcut
  cases kq with
  | zero => exact absurd HA.out (by simp [cubbyref11_Ahead.j0])
  | succ kj3 =>
   have H := HA.out
   clear HA
   simp only [cubbyref11_Ahead.j0] at H
   by_cases c26 : x34_3 = true
   ·subst c26
    have H1 : (some ([] : List Int)) = some r := by rw [zC rfl] at H; exact H
    clear H
    have H := H1
    clear H1
    obtain rfl := zI H
    go_wp2
    go_ret
    exact ⟨_, qE, by first | exact Kd.R_nil _ _ _ _ _ | exact Kd.N_nil _ _ _ _ _ | exact Kd.V_nil _ _ _ _ _ | exact Kd.Q_nil _ _ _ _ _ | exact Kd.S_nil _ _ _ _ _, qB⟩
   ·replace c26 := Bool.eq_false_iff.mpr c26
    subst c26
    have H1 : ((cubbyref11_In.f kj3 a0_0 a0_1 a0_2 l0_3).bind fun t502 => ((cubbyref11_ahead.f kj3 a0_0 a0_1 a0_2 l0_3 t502 a1 a2).bind fun t505 => (some t505))) = some r := by rw [zD (show ¬ (false = true) by decide)] at H; exact H
    clear H
    have H := H1
    clear H1
    replace H := qb H; obtain ⟨t502, A27, H⟩ := H
    replace H := qb H; obtain ⟨t505, A28, H⟩ := H
    obtain rfl := zI H
    try go_wp2
    have n0_ := zA (blk_drew BK499.out)
    have n1_ := zA (below_drew1 HB.out)
    clear BK499
    clear HB
    have BK499 := n0_
    have HB := n1_
    clear n0_ n1_
    refine start_ (n := 7) (S := fun w' => w'.cell? ⟨gb499, 0, none⟩ = some (.string a0_0) ∧ w'.cell? ⟨gb499, 1, none⟩ = some (.int .i64 a0_1) ∧ w'.cell? ⟨gb499, 2, none⟩ = some (.int .i64 a0_2) ∧ w'.cell? ⟨gb499, 3, none⟩ = some (.slice A0_3 l0_3.length c0_3)) (ds := []) (bA 7 0) (by kernel_rfl) rfl rfl ⟨(blk_cell BK499.out 0).trans rfl, (blk_cell BK499.out 1).trans rfl, (blk_cell BK499.out 2).trans rfl, (blk_cell BK499.out 3).trans rfl⟩ (fun hHeld => ?_)
    generalize wc.drew = w29 at BK499 HB hHeld ⊢
    refine pure_ (i := 3) (N := some 38) (v := ?_) (a' := ?_) (bA 7 8) rfl rfl (by kernel_rfl) (fun _ _ _ h => h) (Or.inl ⟨by rfl, ?_⟩) ?_ ?_
    rotate_left
    ·intro w'
     go_simp
     with_reducible rfl
    rotate_left
    ·simp only [Act.put, List.setIfInBounds_toArray, List.set_cons_zero, List.set_cons_succ, i64_w, i32_w]
     rfl
    refine pure_ (i := 4) (N := some 39) (v := ?_) (a' := ?_) (bA 7 24) rfl rfl (by kernel_rfl) (fun _ _ _ h => h) (Or.inl ⟨by rfl, ?_⟩) ?_ ?_
    rotate_left
    ·intro w'
     go_simp
     with_reducible rfl
    rotate_left
    ·simp only [Act.put, List.setIfInBounds_toArray, List.set_cons_zero, List.set_cons_succ, i64_w, i32_w]
     rfl
    refine take_ (i := 0) (N := some 35) (v := ?_) (a' := ?_) (bA 7 25) rfl rfl (by kernel_rfl) (fun _ _ _ h => h) (Or.inl ⟨by rfl, ?_⟩) hHeld ?_ ?_
    rotate_left
    ·rintro w' ⟨s0, s1, s2, s3⟩
     go_simp
     with_reducible rfl
    rotate_left
    ·simp only [Act.put, List.setIfInBounds_toArray, List.set_cons_zero, List.set_cons_succ, i64_w, i32_w]
     rfl
    refine take_ (i := 1) (N := some 36) (v := ?_) (a' := ?_) (bA 7 27) rfl rfl (by kernel_rfl) (fun _ _ _ h => h) (Or.inl ⟨by rfl, ?_⟩) hHeld ?_ ?_
    rotate_left
    ·rintro w' ⟨s0, s1, s2, s3⟩
     go_simp
     with_reducible rfl
    rotate_left
    ·simp only [Act.put, List.setIfInBounds_toArray, List.set_cons_zero, List.set_cons_succ, i64_w, i32_w]
     rfl
    refine one_ (i := 2) (N := some 37) (bA 7 31) rfl rfl (by kernel_rfl) (by decide) (fun K hK => ?_)
    refine goes_ Tryd.func50 (by kernel_rfl) rfl #[.agg #[.string a0_0, .int .i64 a0_1, .int .i64 a0_2, .slice A0_3 l0_3.length c0_3]] (by rfl) rfl rfl qL ?_
    with_reducible refine (cubbyref11_In.calls kj3 a0_0 a0_1 a0_2 _ _ l0_3 t502 _ ?side1 ?side2 A27.out).mono ?_
    (case side1 => exact qCB HR0_3.out)
    (case side2 => exact HC0_3.out)
    rintro e w30 ⟨v503, rfl, ho0, hb⟩
    refine ⟨_, rfl, ?_⟩
    have n0_ := zA (Kd.S_lower ho0 (below_size qB))
    have n1_ := qW BK499 hb
    have n2_ := qH hb
    clear BK499
    clear HB
    have HO504 := n0_
    have BK499 := n1_
    have HB := n2_
    clear n0_ n1_ n2_
    (try clear hb)
    (try clear hb2)
    (try clear hk)
    (try clear hi)
    (try clear ho0)
    obtain ⟨Ao31, co31, eo31⟩ := Kd.S_slice HO504.out
    (first | subst eo31 | (injection eo31 with f1_ f2_ f3_; have f4_ := f1_.symm; have f5_ := f3_.symm; clear f1_ f2_ f3_; subst f4_; subst f5_))
    refine hK.out _ _ ⟨(blk_cell BK499.out 0).trans rfl, (blk_cell BK499.out 1).trans rfl, (blk_cell BK499.out 2).trans rfl, (blk_cell BK499.out 3).trans rfl⟩ (fun hHeld => ?_)
    clear hK K
    refine norm_ (a' := ?_) ?_ ?_
    rotate_left
    ·show Act.put _ (some 37) _ = _
     simp only [Act.put, List.setIfInBounds_toArray, List.set_cons_zero, List.set_cons_succ, i64_w, i32_w]
     rfl
    refine one_ (i := 5) (N := some 40) (bA 7 63) rfl rfl (by kernel_rfl) (by decide) (fun K hK => ?_)
    refine goes_ Tryd.func49 (by kernel_rfl) rfl #[.agg #[.string a0_0, .int .i64 a0_1, .int .i64 a0_2, .slice A0_3 l0_3.length c0_3], .slice Ao31 t502.length co31, .int .i64 a1, .int .i64 a2] (by rfl) rfl rfl qL ?_
    with_reducible refine (cubbyref11_ahead.calls kj3 a0_0 a0_1 a0_2 _ _ l0_3 _ _ t502 a1 a2 t505 _ ?side1 ?side2 ?side3 ?side4 A28.out).mono ?_
    (case side1 => exact qCB HR0_3.out)
    (case side2 => exact HC0_3.out)
    (case side3 => repeat (first | exact (Kd.S_reads' HO504.out).2.2 | (with_reducible refine Kd.C_alloc ?_ _) | (with_reducible refine Kd.C_drewN ?_ _) | (with_reducible refine Kd.C_drew ?_)))
    (case side4 => exact (Kd.S_reads' HO504.out).2.1)
    rintro e w32 ⟨v506, rfl, ho0, hb⟩
    refine ⟨_, rfl, ?_⟩
    have n0_ := zA (Kd.S_elder' (qS HO504.out) (Kd.R_base ho0) hb)
    have n1_ := zA (Kd.R_lower ho0 (below_size qB))
    have n2_ := qW BK499 hb
    have n3_ := qH hb
    clear HO504
    clear BK499
    clear HB
    have HO504 := n0_
    have HO507 := n1_
    have BK499 := n2_
    have HB := n3_
    clear n0_ n1_ n2_ n3_
    (try clear hb)
    (try clear hb2)
    (try clear hk)
    (try clear hi)
    (try clear ho0)
    refine hK.out _ _ ⟨(blk_cell BK499.out 0).trans rfl, (blk_cell BK499.out 1).trans rfl, (blk_cell BK499.out 2).trans rfl, (blk_cell BK499.out 3).trans rfl⟩ (fun hHeld => ?_)
    clear hK K
    refine norm_ (a' := ?_) ?_ ?_
    rotate_left
    ·show Act.put _ (some 40) _ = _
     simp only [Act.put, List.setIfInBounds_toArray, List.set_cons_zero, List.set_cons_succ, i64_w, i32_w]
     rfl
    refine pure_ (i := 6) (N := some 6) (v := ?_) (a' := ?_) (bA 7 127) rfl rfl (by kernel_rfl) (fun _ _ _ h => h) (Or.inl ⟨by rfl, ?_⟩) ?_ ?_
    rotate_left
    ·intro w'
     go_simp
     with_reducible rfl
    rotate_left
    ·simp only [Act.put, List.setIfInBounds_toArray, List.set_cons_zero, List.set_cons_succ, i64_w, i32_w]
     rfl
    refine done_ (by kernel_rfl) ?_
    try go_wp2
    go_ret
    exact ⟨_, qE, qR HO507.out, qB⟩
end Go.Proofs.YtpkimbkjjmbmcaaDoor.Q
namespace Go.Proofs.YtpkimbkjjmbmcaaDoor.Q
open Go.RowKit Go.Proofs.YtpkimbkjjmbmcaaDoorW.PrintWords Go.Proofs.YtpkimbkjjmbmcaaDoorW.PrintLast Go.Proofs.YtpkimbkjjmbmcaaDoorW.PrintMore
set_option linter.unusedVariables false
set_option linter.unusedSimpArgs false
mutual
def cubbyref12_Crosses.l0 : Nat → List Bool → List (List Int) → Int → ByteArray → Int → Int → List (List (SIns)) → Option (List Bool)
 | 0, _, _, _, _, _, _, _ => none
 | k + 1, x3, x4, x5, f000, f001, f002, f003 => if x5 < (x4.length : Int) then (cubbyref12_Crosses.l1 k x3 x4 x5 0 f000 f001 f002 f003) else (some x3)
def cubbyref12_Crosses.l1 : Nat → List Bool → List (List Int) → Int → Int → ByteArray → Int → Int → List (List (SIns)) → Option (List Bool)
 | 0, _, _, _, _, _, _, _, _ => none
 | k + 1, x3, x4, x5, x6, f000, f001, f002, f003 => if 0 ≤ x5 then (if x5 < (x4.length : Int) then (if x6 < ((rd_LInt x4 x5).length : Int) then (if x5 < (f003.length : Int) then (if 0 ≤ x6 then (if x6 < ((rd_LIns f003 x5).length : Int) then ((cubbyref11_Ahead.f k f000 f001 f002 f003 x5 (wrap64 (x6 + 1))).bind fun t612 => (cubbyref12_Crosses.l2 k x3 x4 x5 x6 t612 0 f000 f001 f002 f003 ((rd_TIns (rd_LIns f003 x5) x6).f0) ((rd_TIns (rd_LIns f003 x5) x6).f1) ((rd_TIns (rd_LIns f003 x5) x6).f2) ((rd_TIns (rd_LIns f003 x5) x6).f3) ((rd_TIns (rd_LIns f003 x5) x6).f4) ((rd_TIns (rd_LIns f003 x5) x6).f5))) else (none)) else (none)) else (none)) else (cubbyref12_Crosses.l0 k x3 x4 (wrap64 (x5 + 1)) f000 f001 f002 f003)) else (none)) else (none)
def cubbyref12_Crosses.l2 : Nat → List Bool → List (List Int) → Int → Int → List Int → Int → ByteArray → Int → Int → List (List (SIns)) → Int → Int → Int → Int → ByteArray → List Int → Option (List Bool)
 | 0, _, _, _, _, _, _, _, _, _, _, _, _, _, _, _, _ => none
 | k + 1, x3, x4, x5, x6, x8, x9, f000, f001, f002, f003, x000, x001, x002, x003, x004, x005 => if x9 < (x8.length : Int) then (cubbyref12_Crosses.j3 k x3 x4 x5 x6 x8 x9 (x000 == 11) f000 f001 f002 f003 x000 x001 x002 x003 x004 x005) else (cubbyref12_Crosses.j3 k x3 x4 x5 x6 x8 x9 false f000 f001 f002 f003 x000 x001 x002 x003 x004 x005)
def cubbyref12_Crosses.j3 : Nat → List Bool → List (List Int) → Int → Int → List Int → Int → Bool → ByteArray → Int → Int → List (List (SIns)) → Int → Int → Int → Int → ByteArray → List Int → Option (List Bool)
 | 0, _, _, _, _, _, _, _, _, _, _, _, _, _, _, _, _, _ => none
 | k + 1, x3, x4, x5, x6, x8, x9, x54, f000, f001, f002, f003, x000, x001, x002, x003, x004, x005 => if x54 = true then (if 0 ≤ x9 then (if x9 < (x8.length : Int) then (if (rd x8 x9) = x001 then (cubbyref12_Crosses.l2 k x3 x4 x5 x6 x8 (wrap64 (x9 + 1)) f000 f001 f002 f003 x000 x001 x002 x003 x004 x005) else (if 0 ≤ (rd x8 x9) then (if (rd x8 x9) < (x3.length : Int) then (cubbyref12_Crosses.l2 k (x3.set ((rd x8 x9) : Int).toNat true) x4 x5 x6 x8 (wrap64 (x9 + 1)) f000 f001 f002 f003 x000 x001 x002 x003 x004 x005) else (none)) else (none))) else (none)) else (none)) else (cubbyref12_Crosses.l1 k x3 x4 x5 (wrap64 (x6 + 1)) f000 f001 f002 f003)
end
def cubbyref12_Crosses.f (k : Nat) (a0_0 : ByteArray) (a0_1 : Int) (a0_2 : Int) (l0_3 : List (List (SIns))) : Option (List Bool) := (cubbyref11_Check.f k a0_0 a0_1 a0_2 l0_3).bind fun t601 => (if t601 = 0 then (if 0 ≤ a0_2 then (if (a0_2 : Int).toNat ≤ 281474976710656 then ((cubbyref12_Places.f k a0_0 a0_1 a0_2 l0_3).bind fun t605 => (cubbyref12_Crosses.l0 k (List.replicate (a0_2 : Int).toNat false) t605 0 a0_0 a0_1 a0_2 l0_3)) else (none)) else (none)) else (some ([] : List Bool)))
structure Blk (P : Prop) : Prop where
 out : P
structure RcSt (w0 w : World) (gf : Nat) (cf : Array Value) (vo : Value) (o : List Bool) (Ap : Option Addr) (p : List (List Int)) : Prop where
 bf : w.heap[gf]? = some (.cells cf 24 (0, 0))
 hu : Kd.R Kd.bool 4 w w0.heap.size (fun _ => True) vo o
 hp : Kd.F (Kd.slice 3 (Kd.int .i64)) w (fun q => ¬ some q = vo.ownBlock) Ap p.length p
 hB : Below w0.heap.size w0 w
theorem RcSt.below {w0 w w1 : World} {gf : Nat} {cf : Array Value} {vo : Value} {o : List Bool} {Ap : Option Addr} {p : List (List Int)} (h : RcSt w0 w gf cf vo o Ap p) (hb : Below w.heap.size w w1) : RcSt w0 w1 gf cf vo o Ap p :=
 ⟨blk_below h.bf hb, Kd.R_below h.hu hb, Kd.F_below h.hp hb, below_step h.hB hb⟩
theorem RcSt.put {w0 w : World} {gf go n c : Nat} {cf : Array Value} {o : List Bool} {Ap : Option Addr} {p : List (List Int)} (h : RcSt w0 w gf cf (.slice (some ⟨go, 0, none⟩) n c) o Ap p) (i : Int) :
 RcSt w0 (w.setCell ⟨go, i.toNat, none⟩ (.bool true)) gf cf (.slice (some ⟨go, 0, none⟩) n c) (o.set i.toNat true) Ap p ∧ Kept w (w.setCell ⟨go, i.toNat, none⟩ (.bool true)) (fun q => some q = (Value.slice (some ⟨go, 0, none⟩) n c).ownBlock) := by
 have hk : Kept w (w.setCell ⟨go, i.toNat, none⟩ (.bool true)) (fun q => some q = (Value.slice (some ⟨go, 0, none⟩) n c).ownBlock) := Kept.setCell (Kept.refl _ _) (.inl (by simp [Value.ownBlock])) _
 exact ⟨⟨blk_kept h.bf hk (fun e => ne_own h.bf (Kd.R_typed h.hu) (by decide) e.symm), (Kd.R_putg h.hu i true).1, Kd.F_kept h.hp hk (fun q hq => hq), below_set h.hB (Kd.R_base h.hu go (by simp [Value.ownBlock]))⟩, hk⟩
set_option maxHeartbeats 8000000 in
set_option maxRecDepth 100000 in
theorem cubbyref12_Crosses.calls (k : Nat) (a0 : ByteArray) (a1 a2 : Int) (A3 : Option Addr) (c3 : Nat) (l3 : List (List SIns)) (r : List Bool) (w : World) (hr : Kd.C (Kd.slice 38 kIns) w A3 l3.length l3) (hc : l3.length ≤ c3) (h : cubbyref12_Crosses.f k a0 a1 a2 l3 = some r) :
 Calls Tryd.prog 23 #[.agg #[.string a0, .int .i64 a1, .int .i64 a2, .slice A3 l3.length c3]] w fun e w' => ∃ v0_ : Value, e = .returned (v0_) ∧ Kd.R Kd.bool 4 w' w.heap.size (fun _ => True) v0_ r ∧ Below w.heap.size w w' := by
 have HR := zA hr
 have HC := zA hc
 have HB := zA (Below.refl w.heap.size w)
 have H := h
 clear hr hc h
 unfold cubbyref12_Crosses.f at H
 replace H := qb H; obtain ⟨t, A1, H⟩ := H
 have hu24 := Tryd.underlying24
 have hu38 := Tryd.underlying38
 by_cases c1 : t = 0
 ·rw [zC c1] at H
  obtain ⟨c1b0, c1b1⟩ := qe c1
  by_cases c2 : ¬ 0 ≤ a2
  ·rw [zD c2] at H
   exact absurd H (by simp)
  replace c2 := Decidable.not_not.1 c2
  rw [zC c2] at H
  by_cases c3_ : ¬ (a2 : Int).toNat ≤ 281474976710656
  ·rw [zD c3_] at H
   exact absurd H (by simp)
  replace c3_ := Decidable.not_not.1 c3_
  rw [zC c3_] at H
  replace H := qb H; obtain ⟨p, A2, H⟩ := H
  obtain ⟨o0, ho0⟩ : ∃ o_ : List Bool, o_ = List.replicate (a2 : Int).toNat false := ⟨_, rfl⟩
  rw [← ho0] at H
  have N0 := zA ho0
  have H' := zA H
  clear H ho0
  go_enter Tryd.func23, Tryd.ntmps23
  go_wp2_with (first
   | ((with_reducible refine gate_dst (N := 1) rfl ?_); refine box_event (by rfl) (N := 1) (by rfl) (cs := #[.string a0, .int .i64 a1, .int .i64 a2, .slice A3 l3.length c3]) (t := 24) ?hr ?_; (case hr => go_simp <;> rfl); intro gf hg w1 hbox hb; have BF := zA hbox; replace HB := zA (below_step HB.out hb); clear hb hbox hg; have z1 := bk4 BF.out)
   | ((with_reducible refine gate_callee (f := 38) rfl ?_); refine goesL_ (some 11) rfl rfl Tryd.func38 (by kernel_rfl) rfl #[.agg #[.string a0, .int .i64 a1, .int .i64 a2, .slice A3 l3.length c3]] rfl qL ?_; (with_reducible refine (cubbyref11_Check.calls k a0 a1 a2 _ _ l3 t _ ?side1 ?side2 A1.out).mono ?_); (case side1 => exact Kd.C_below HR.out HB.out); (case side2 => exact HC.out); rintro e w2 ⟨rfl, hb⟩; refine ⟨_, rfl, ?_⟩; replace HB := zA (below_step HB.out hb); replace BF := zA (blk_below BF.out hb); clear z1 hb A1; have z1 := bk4 BF.out)
   | ((with_reducible refine gate_dst (N := 15) rfl ?_); refine Kd.R_make Kd.bool _ 4 rfl (N := 15) rfl 43 _ _ rfl a2 rfl rfl Tryd.underlying43 (.bool false) 1 info4 rfl (by decide) (by omega) false (ok := fun _ => True) (okp := fun _ => True) rfl (fun _ hk => hk) trivial c2 (by omega) (Below.refl _ _) (Nat.le_refl _) ?_; intro vm w3 ho hb hg_ hnew_; rw [← N0.out] at ho; obtain ⟨Am, cm, em⟩ := Kd.R_slice ho; subst em; have HU := zA (Kd.R_lower ho (below_size HB.out)); replace HB := zA (below_step HB.out hb); replace BF := zA (blk_below BF.out hb); clear hg_ hnew_ hb ho z1; have z1 := bk4 BF.out)
   | ((with_reducible refine gate_callee (f := 15) rfl ?_); refine goesL_ (some 17) rfl rfl Tryd.func15 (by kernel_rfl) rfl #[.agg #[.string a0, .int .i64 a1, .int .i64 a2, .slice A3 l3.length c3]] rfl qL ?_; (with_reducible refine (cubbyref12_Places.calls k a0 a1 a2 _ _ l3 p _ ?side1 ?side2 A2.out).mono ?_); (case side1 => exact Kd.C_below HR.out HB.out); (case side2 => exact HC.out); rintro e w4 ⟨v0, rfl, ho, hb⟩; refine ⟨_, rfl, ?_⟩; obtain ⟨Ap, cp, ep⟩ := Kd.S_slice ho; subst ep; have hlt := Kd.R_lt HU.out; have HS := zA (show RcSt w w4 gf #[.string a0, .int .i64 a1, .int .i64 a2, .slice A3 l3.length c3] (.slice Am o0.length cm) o0 Ap p from ⟨blk_below BF.out hb, Kd.R_below HU.out hb, Kd.F_mono (Kd.S_F (Kd.S_bound ho)) (fun q hq e_ => by have := hlt q e_.symm; omega), below_step HB.out hb⟩); clear hlt hb ho A2 z1 HU HB BF))
  go_loopg [5] k (fun kq v5 w' => ∃ (b : Int) (o : List Bool), v5 = .int .i64 b ∧ Aside0 (cubbyref12_Crosses.l0 kq o p b a0 a1 a2 l3 = some r) ∧ Aside0 (kq ≤ k) ∧ Aside0 (o.length = o0.length) ∧ Aside0 (RcSt w w' gf #[.string a0, .int .i64 a1, .int .i64 a2, .slice A3 l3.length c3] (.slice Am o0.length cm) o Ap p))
  case atStart => exact ⟨0, o0, by first | rfl | simp, H', ⟨Nat.le_refl _⟩, ⟨rfl⟩, HS⟩
  case round =>
   clear H' HS
   obtain ⟨b, o, rfl, HA, HK1, HLo, HS⟩ := hrel
   cases gk with
   | zero => exact absurd HA.out (by simp [cubbyref12_Crosses.l0])
   | succ k1 =>
    have H := HA.out
    clear HA
    simp only [cubbyref12_Crosses.l0] at H
    by_cases d1 : b < (p.length : Int)
    ·rw [zC d1] at H
     have d1b0 := zF d1
     have H' := zA H
     clear H
     go_wp2_with fail
     go_loopg [6] k1 (fun kq v6 w' => ∃ (i : Int) (o : List Bool), v6 = .int .i64 i ∧ Aside0 (cubbyref12_Crosses.l1 kq o p b i a0 a1 a2 l3 = some r) ∧ Aside0 (kq ≤ k1) ∧ Aside0 (o.length = o0.length) ∧ Aside0 (RcSt w w' gf #[.string a0, .int .i64 a1, .int .i64 a2, .slice A3 l3.length c3] (.slice Am o0.length cm) o Ap p))
     case atStart => exact ⟨0, o, by first | rfl | simp, H', ⟨Nat.le_refl _⟩, HLo, HS⟩
     case round =>
      clear H' HS HLo
      obtain ⟨i, o, rfl, HA, HK2, HLo, HS⟩ := hrel
      cases gk with
      | zero => exact absurd HA.out (by simp [cubbyref12_Crosses.l1])
      | succ k2 =>
       have H := HA.out
       clear HA
       simp only [cubbyref12_Crosses.l1] at H
       by_cases d2 : ¬ 0 ≤ b
       ·rw [zD d2] at H
        exact absurd H (by simp)
       replace d2 := Decidable.not_not.1 d2
       rw [zC d2] at H
       rw [zC d1] at H
       obtain ⟨adp, ce, ep, hcl, hfk, hcc, -⟩ := Kd.F_get HS.out.hp [] b d2 d1
       cases ep
       obtain ⟨Ab, cb, rfl, hlb, -⟩ := Kd.FK_slice_open hfk
       have hx2 : wr.cell? (adp.add (b.toNat * 1 + 0)) = some _ := hcc 0 _ rfl
       rw [Nat.mul_one, Nat.add_zero] at hx2
       replace hx2 : wr.cell? (adp.add b.toNat) = some (.slice Ab (rd_LInt p b).length cb) := hx2
       clear hcl hfk hcc hlb
       by_cases d3 : i < ((rd_LInt p b).length : Int)
       ·rw [zC d3] at H
        have d3b0 := zF d3
        by_cases d4 : ¬ b < (l3.length : Int)
        ·rw [zD d4] at H
         exact absurd H (by simp)
        replace d4 := Decidable.not_not.1 d4
        rw [zC d4] at H
        by_cases d5 : ¬ 0 ≤ i
        ·rw [zD d5] at H
         exact absurd H (by simp)
        replace d5 := Decidable.not_not.1 d5
        rw [zC d5] at H
        by_cases d6 : ¬ i < ((rd_LIns l3 b).length : Int)
        ·rw [zD d6] at H
         exact absurd H (by simp)
        replace d6 := Decidable.not_not.1 d6
        rw [zC d6] at H
        replace H := qb H; obtain ⟨bh, A6, H⟩ := H
        have H' := zA H
        clear H
        have z1 := bk4 HS.out.bf
        obtain ⟨adr, Ar, cr, er, hx3, hlr, hir⟩ := at_LIns HR.out b d2 d4
        cases er
        replace hx3 := (HS.out.hB.cell (zE w _ hx3)).trans hx3
        obtain ⟨adx, A5, c5, ex, hy0, hy1, hy2, hy3, hy4, hy5, hl5, hi5⟩ := at_TIns hir i d5 d6
        cases ex
        generalize rd_TIns (rd_LIns l3 b) i = x at H' hy0 hy1 hy2 hy3 hy4 hy5 hl5 hi5
        obtain ⟨x0, x1, x2, x3, x4, x5⟩ := x
        dsimp only at H' hy0 hy1 hy2 hy3 hy4 hy5
        replace hy0 := (HS.out.hB.cell (zE w _ hy0)).trans hy0
        replace hy1 := (HS.out.hB.cell (zE w _ hy1)).trans hy1
        replace hy2 := (HS.out.hB.cell (zE w _ hy2)).trans hy2
        replace hy3 := (HS.out.hB.cell (zE w _ hy3)).trans hy3
        replace hy4 := (HS.out.hB.cell (zE w _ hy4)).trans hy4
        replace hy5 := (HS.out.hB.cell (zE w _ hy5)).trans hy5
        clear hl5 hi5 hlr hir
        go_wp2_with (first
         | ((with_reducible refine gate_dst (N := 7) rfl ?_); (try (refine gate_guard (by rfl) ?_; dsimp only)); refine box_event (by rfl) (N := 7) (by rfl) (cs := #[.int .i64 0, .int .i64 0, .int .i64 0, .int .i64 0, .string (⟨#[]⟩ : ByteArray), .slice none 0 0]) (t := 38) ?hr ?_; (case hr => go_simp <;> rfl); intro gx hg w5 hbox_ hb_; have hbox := zA hbox_; have hb := zA hb_; have HG := zA (Nat.le_of_eq hg.symm); clear hbox_ hb_ hg hy0 hy1 hy2 hy3 hy4 hy5; have z5 := bk6 hbox.out)
         | ((with_reducible refine gate_dst (N := 41) rfl ?_); refine Blk.out ?_))
        refine Blk.mk ?_
        generalize hw : ((((((w5.setCell ⟨gx, 0, none⟩ (.int .i64 x0)).setCell ⟨gx, 1, none⟩ (.int .i64 x1)).setCell ⟨gx, 2, none⟩ (.int .i64 x2)).setCell ⟨gx, 3, none⟩ (.int .i64 x3)).setCell ⟨gx, 4, none⟩ (.string x4)).setCell ⟨gx, 5, none⟩ (.slice A5 x5.length c5)) = w6
        have hgx := HG.out
        have BX := zA (show w6.heap[gx]? = some (.cells #[.int .i64 x0, .int .i64 x1, .int .i64 x2, .int .i64 x3, .string x4, .slice A5 x5.length c5] 38 (0, 0)) by rw [← hw]; exact (blk_put (blk_put (blk_put (blk_put (blk_put (blk_put hbox.out 0 _ rfl) 1 _ rfl) 2 _ rfl) 3 _ rfl) 4 _ rfl) 5 _ rfl))
        have hbl : Below wr.heap.size wr w6 := by rw [← hw]; exact (below_set (below_set (below_set (below_set (below_set (below_set hb.out hgx) hgx) hgx) hgx) hgx) hgx)
        replace HS := zA (HS.out.below hbl)
        clear hbl hw z5 z1 hgx HG hbox hb
        have z1 := bk4 HS.out.bf
        go_wp2_with ((with_reducible refine gate_callee (f := 19) rfl ?_); refine goesL_ (some 45) rfl rfl Tryd.func19 (by kernel_rfl) rfl #[.agg #[.string a0, .int .i64 a1, .int .i64 a2, .slice (some adr) l3.length c3], .int .i64 b, .int .i64 (wrap64 (i + 1))] rfl qL ?_; (with_reducible refine (cubbyref11_Ahead.calls k2 a0 a1 a2 _ _ l3 b (wrap64 (i + 1)) bh _ ?side1 ?side2 A6.out).mono ?_); (case side1 => exact Kd.C_below HR.out HS.out.hB); (case side2 => exact HC.out); rintro e w8 ⟨v0, rfl, ho, hb⟩; refine ⟨_, rfl, ?_⟩; obtain ⟨Ab2, cb2, eb2⟩ := Kd.R_slice ho; subst eb2; have hlt := Kd.R_lt HS.out.hu; have HBh := zA (Kd.F_mono (Kd.R_F (Kd.R_bound ho)) (fun q hq e_ => by have := hlt q e_.symm; omega : ∀ q, _ → ¬ some q = (Value.slice Am o0.length cm).ownBlock)); replace HS := zA (HS.out.below hb); replace BX := zA (blk_below BX.out hb); clear ho hb hlt z1 A6)
        go_loopg [9] k2 (fun kq v9 w' => ∃ (j : Int) (o : List Bool), v9 = .int .i64 j ∧ Aside0 (cubbyref12_Crosses.l2 kq o p b i bh j a0 a1 a2 l3 x0 x1 x2 x3 x4 x5 = some r) ∧ Aside0 (kq ≤ k2) ∧ Aside0 (o.length = o0.length) ∧ Aside0 (RcSt w w' gf #[.string a0, .int .i64 a1, .int .i64 a2, .slice (some adr) l3.length c3] (.slice Am o0.length cm) o (some adp) p) ∧ Aside0 (Kd.F (Kd.int .i64) w' (fun q => ¬ some q = (Value.slice Am o0.length cm).ownBlock) Ab2 bh.length bh) ∧ Aside0 (w'.heap[gx]? = some (.cells #[.int .i64 x0, .int .i64 x1, .int .i64 x2, .int .i64 x3, .string x4, .slice A5 x5.length c5] 38 (0, 0))))
        case atStart => exact ⟨0, o, by first | rfl | simp, H', ⟨Nat.le_refl _⟩, HLo, HS, HBh, BX⟩
        case round =>
         clear H' HS HBh BX HLo
         obtain ⟨j, o, rfl, HA, HK3, HLo, HS, HBh, BX⟩ := hrel
         cases gk with
         | zero => exact absurd HA.out (by simp [cubbyref12_Crosses.l2])
         | succ k3 =>
          have H := HA.out
          clear HA
          simp only [cubbyref12_Crosses.l2] at H
          cases k3 with
          | zero => exact absurd H (by simp [cubbyref12_Crosses.j3])
          | succ k4 =>
           simp only [cubbyref12_Crosses.j3] at H
           have z6 := bk6 BX.out
           by_cases e1 : j < (bh.length : Int)
           ·rw [zC e1] at H
            have e1b0 := zF e1
            by_cases e2 : x0 = 11
            ·subst e2
             rw [zC (by rfl)] at H
             by_cases e3 : ¬ 0 ≤ j
             ·rw [zD e3] at H
              exact absurd H (by simp)
             replace e3 := Decidable.not_not.1 e3
             rw [zC e3] at H
             rw [zC e1] at H
             obtain ⟨ad, ea, hx1⟩ := Kd.at_int (Kd.F_now HBh.out) j e3 e1
             cases ea
             by_cases e4 : rd bh j = x1
             ·rw [zC e4] at H
              have H' := zA H
              clear H
              obtain ⟨e4b0, e4b1⟩ := qe e4
              go_wp2_with fail
              go_quiet (fail)
              go_wp2_with fail
              have hb_ : Below wr.heap.size wr (wr.drewN nq) := pw_below_drewN (Below.refl _ _) nq
              go_roundg k4
              case measure => have := HK1.out; have := HK2.out; have := HK3.out; omega
              case rel => exact ⟨_, o, by first | rfl | simp, H', ⟨by have := HK1.out; have := HK2.out; have := HK3.out; omega⟩, HLo, ⟨HS.out.below hb_⟩, ⟨Kd.F_below HBh.out hb_⟩, ⟨blk_below BX.out hb_⟩⟩
             ·rw [zD e4] at H
              obtain ⟨e4b0, e4b1⟩ := qn e4
              by_cases e5 : ¬ 0 ≤ rd bh j
              ·rw [zD e5] at H
               exact absurd H (by simp)
              replace e5 := Decidable.not_not.1 e5
              rw [zC e5] at H
              by_cases e6 : ¬ rd bh j < (o.length : Int)
              ·rw [zD e6] at H
               exact absurd H (by simp)
              replace e6 := Decidable.not_not.1 e6
              rw [zC e6] at H
              have H' := zA H
              clear H
              go_wp2_with fail
              go_quiet (fail)
              have hb_ : Below wr.heap.size wr (wr.drewN nq) := pw_below_drewN (Below.refl _ _) nq
              replace HS := zA (HS.out.below hb_)
              replace HBh := zA (Kd.F_below HBh.out hb_)
              replace BX := zA (blk_below BX.out hb_)
              clear z6 hx1 hb_
              generalize wr.drewN nq = wq at HS HBh BX ⊢
              obtain ⟨ad2, ea2, hx1⟩ := Kd.at_int (Kd.F_now HBh.out) j e3 e1
              obtain rfl : ad = ad2 := by injection ea2
              obtain ⟨go, co, eo, gbo, glo, clo, HGo⟩ := Kd.R_form HS.out.hu (by omega)
              injection eo with y1 y2 y3
              subst y1
              clear y2 y3 gbo glo clo HGo
              have e7 : rd bh j < (o0.length : Int) := by have := HLo.out; omega
              obtain ⟨hx2, hf2⟩ := Kd.R_celln false HS.out.hu (rd bh j) e5 e7
              go_wp2_with fail
              generalize hw : (wq.setCell ⟨go, (rd bh j).toNat, none⟩ (.bool true)) = w9
              have hp := HS.out.put (rd bh j)
              rw [hw] at hp
              have n2 : ¬ some gx = (Value.slice (some ⟨go, 0, none⟩) o0.length cm).ownBlock := fun e => ne_own BX.out (Kd.R_typed HS.out.hu) (by decide) e.symm
              go_roundg k4
              case measure => have := HK1.out; have := HK2.out; have := HK3.out; omega
              case rel => exact ⟨_, _, by first | rfl | simp, H', ⟨by have := HK1.out; have := HK2.out; have := HK3.out; omega⟩, ⟨by have := HLo.out; simp only [List.length_set]; omega⟩, ⟨hp.1⟩, ⟨Kd.F_kept HBh.out hp.2 (fun q hq => hq)⟩, ⟨blk_kept BX.out hp.2 n2⟩⟩
            ·obtain ⟨e2b0, e2b1⟩ := qn e2
             rw [e2b0, zD Bool.false_ne_true] at H
             have H' := zA H
             clear H
             go_wp2_with fail
             go_roundg k4
             case measure => have := HK1.out; have := HK2.out; have := HK3.out; omega
             case rel => exact ⟨_, o, by first | rfl | simp, H', ⟨by have := HK1.out; have := HK2.out; have := HK3.out; omega⟩, HLo, HS⟩
           ·rw [zD e1, zD Bool.false_ne_true] at H
            have e1b0 := zG e1
            have H' := zA H
            clear H
            go_wp2_with fail
            go_roundg k4
            case measure => have := HK1.out; have := HK2.out; have := HK3.out; omega
            case rel => exact ⟨_, o, by first | rfl | simp, H', ⟨by have := HK1.out; have := HK2.out; have := HK3.out; omega⟩, HLo, HS⟩
       ·rw [zD d3] at H
        have d3b0 := zG d3
        have H' := zA H
        clear H
        go_wp2_with fail
        go_roundg k2
        case measure => have := HK1.out; have := HK2.out; omega
        case rel => exact ⟨_, o, by first | rfl | simp, H', ⟨by have := HK1.out; have := HK2.out; omega⟩, HLo, HS⟩
    ·rw [zD d1] at H
     have d1b0 := zG d1
     obtain rfl := zI H
     clear H
     go_wp2_with fail
     go_ret
     exact ⟨_, rfl, HLo.out ▸ HS.out.hu, HS.out.hB⟩
 ·rw [zD c1] at H
  obtain ⟨c1b0, c1b1⟩ := qn c1
  obtain rfl := zI H
  clear H
  go_enter Tryd.func23, Tryd.ntmps23
  go_wp2_with (first
   | ((with_reducible refine gate_dst (N := 1) rfl ?_); refine box_event (by rfl) (N := 1) (by rfl) (cs := #[.string a0, .int .i64 a1, .int .i64 a2, .slice A3 l3.length c3]) (t := 24) ?hr ?_; (case hr => go_simp <;> rfl); intro gf hg w1 hbox hb; have BF := zA hbox; replace HB := zA (below_step HB.out hb); clear hb hbox hg; have z1 := bk4 BF.out)
   | ((with_reducible refine gate_callee (f := 38) rfl ?_); refine goesL_ (some 11) rfl rfl Tryd.func38 (by kernel_rfl) rfl #[.agg #[.string a0, .int .i64 a1, .int .i64 a2, .slice A3 l3.length c3]] rfl qL ?_; (with_reducible refine (cubbyref11_Check.calls k a0 a1 a2 _ _ l3 t _ ?side1 ?side2 A1.out).mono ?_); (case side1 => exact Kd.C_below HR.out HB.out); (case side2 => exact HC.out); rintro e w2 ⟨rfl, hb⟩; refine ⟨_, rfl, ?_⟩; replace HB := zA (below_step HB.out hb); clear z1 hb A1))
  go_ret
  exact ⟨_, rfl, Kd.R_nil _ _ _ _ _, HB.out⟩
end Go.Proofs.YtpkimbkjjmbmcaaDoor.Q
namespace Go.Proofs.YtpkimbkjjmbmcaaDoor.Q
open Go.RowKit Go.Proofs.YtpkimbkjjmbmcaaDoorW.PrintWords Go.Proofs.YtpkimbkjjmbmcaaDoorW.PrintLast Go.Proofs.YtpkimbkjjmbmcaaDoorW.PrintMore
attribute [local go_sem] max2_int min2_int max_two min_two max_three min_three max_four min_four
set_option linter.unusedVariables false
set_option linter.unusedSimpArgs false

def cubbyref12_has.l0 : Nat → List Int → Int → Int → Option (Bool)
 | 0, _, _, _ => none
 | k + 1, x0, x1, x5 => if x5 < (x0.length : Int) then (if 0 ≤ x5 then (if (rd x0 x5) = x1 then (some true) else (cubbyref12_has.l0 k x0 x1 (wrap64 (x5 + 1)))) else (none)) else (some false)
def cubbyref12_has.f (k : Nat) (l0 : List Int) (a1 : Int) : Option (Bool) := cubbyref12_has.l0 k l0 a1 0
set_option maxHeartbeats 8000000 in
set_option maxRecDepth 100000 in
theorem cubbyref12_has.calls (k : Nat) (A0 : Option Addr) (c0 : Nat) (l0 : List Int) (a1 : Int) (r : Bool) (w : World) (hr0 : Kd.C (Kd.int .i64) w A0 l0.length l0) (hc0 : l0.length ≤ c0) (h : cubbyref12_has.f k l0 a1 = some r) :
 Calls Tryd.prog 52 #[.slice A0 l0.length c0, .int .i64 a1] w fun e w' => e = .returned (.bool r) ∧ Drawn0 w w' := by
 have HR0 := zA hr0
 have HC0 := zA hc0
 clear hr0 hc0
 have H := h; clear h; unfold cubbyref12_has.f at H
 have H' := zA H
 clear H
 go_enter Tryd.func52, Tryd.ntmps52
 go_wp2
 go_loopg [5] k (fun kq v5 w' => ∃ (x5_1 : Int), v5 = .int .i64 x5_1 ∧ Aside0 (cubbyref12_has.l0 kq l0 a1 x5_1 = some r) ∧ Aside0 (kq ≤ k) ∧ Drawn0 w w')
 case atStart => exact ⟨(0), qT, H', ⟨Nat.le_refl _⟩, qD⟩
 case round =>
  clear H'
  obtain ⟨x5_1, rfl, HA, HK1, ⟨m1, rfl⟩⟩ := hrel
  cases gk with
  | zero => exact absurd HA.out (by simp [cubbyref12_has.l0])
  | succ k1 =>
   have H := HA.out
   clear HA
   simp only [cubbyref12_has.l0] at H
   by_cases c3 : x5_1 < (l0.length : Int)
   ·rw [zC c3] at H
    have c3b0 := zF c3
    clear c3
    by_cases c4 : 0 ≤ x5_1
    ·rw [zC c4] at H
     have c4b0 := zF c4
     clear c4
     by_cases c5 : (rd l0 x5_1) = a1
     ·rw [zC c5] at H
      obtain ⟨c5b0, c5b1⟩ := qe c5; clear c5
      obtain rfl := zI H
      have p556 : 0 ≤ (x5_1 : Int) := zB qA
      have q556 : x5_1 < (l0.length : Int) := zB qA
      obtain ⟨ad556, e556, hx556_0⟩ := Kd.at_int HR0.out x5_1 p556 q556
      cases e556
      replace p556 := eq_true p556
      replace q556 := eq_true q556
      go_wp2
      go_ret
      exact ⟨by first | rfl | (simp; done) | (simp [*]; done), qD⟩
     ·rw [zD c5] at H
      obtain ⟨c5b0, c5b1⟩ := qn c5
      have H' := zA H
      clear H
      have p556 : 0 ≤ (x5_1 : Int) := zB qA
      have q556 : x5_1 < (l0.length : Int) := zB qA
      obtain ⟨ad556, e556, hx556_0⟩ := Kd.at_int HR0.out x5_1 p556 q556
      cases e556
      replace p556 := eq_true p556
      replace q556 := eq_true q556
      go_wp2
      go_roundg k1
      case measure => have := HK1.out; omega
      case rel => exact ⟨(wrap64 (x5_1 + 1)), qT, H', ⟨by have := HK1.out; omega⟩, qD⟩
    ·rw [zD c4] at H
     exact absurd H (by simp)
   ·rw [zD c3] at H
    have c3b0 := zG c3
    clear c3
    obtain rfl := zI H
    go_wp2
    go_ret
    exact ⟨by first | rfl | (simp; done) | (simp [*]; done), qD⟩

def cubbyref12_take.f (a0_0 : Int) (a0_1 : Int) (a1 : Int) : Option (Int × Int) := if a0_0 < 0 then (some (a1, a1)) else (some (mn a0_0 a1, mx a0_1 a1))
set_option maxHeartbeats 8000000 in
set_option maxRecDepth 100000 in
theorem cubbyref12_take.calls (a0_0 : Int) (a0_1 : Int) (a1 : Int) (r1 : Int) (r2 : Int) (w : World) (h : cubbyref12_take.f a0_0 a0_1 a1 = some (r1, r2)) :
 Calls Tryd.prog 51 #[.agg #[.int .i64 a0_0, .int .i64 a0_1], .int .i64 a1] w fun e w' => e = .returned (.agg #[.int .i64 r1, .int .i64 r2]) ∧ Below w.heap.size w w' := by
 have hu28 := Tryd.underlying28
 have HB := zA (Below.refl w.heap.size w)
 have H := h; clear h; unfold cubbyref12_take.f at H
 by_cases c3 : a0_0 < 0
 ·rw [zC c3] at H
  have c3b0 := zF c3
  clear c3
  simp only [Option.some.injEq, Prod.mk.injEq] at H
  obtain ⟨rfl, rfl⟩ := H
  go_enter Tryd.func51, Tryd.ntmps51
  go_wp2_with (first | ((with_reducible refine gate_dst (N := 2) rfl ?_); refine box_event (by rfl) (N := 2) (by rfl) (cs := #[.int .i64 a0_0, .int .i64 a0_1]) (t := 28) ?hr ?_; (case hr => go_simp <;> rfl); intro gb554 hg w4 hbox hb; have BK554 := zA (hbox); have GW554 := qG hg; have GE554 := GW554; replace HB := qH hb; clear hb hbox hg) | ((with_reducible refine gate_dst (N := 4) rfl ?_); refine box_event (by rfl) (N := 4) (by rfl) (cs := #[.int .i64 0, .int .i64 0]) (t := 28) ?hr ?_; (case hr => go_simp <;> rfl); intro gb555 hg w5 hbox hb; have BK555 := zA (hbox); have GW555 := qG hg; have GE555 := GW555; replace HB := qH hb; have NB554_555 := zA ((by rw [hg]; exact Nat.ne_of_lt (blk_lt (g := gb554) (o := .cells #[.int .i64 a0_0, .int .i64 a0_1] 28 (0, 0)) (qK BK554.out)) : gb554 ≠ gb555)); have NB555_554 := zA ((by rw [hg]; exact Nat.ne_of_gt (blk_lt (g := gb554) (o := .cells #[.int .i64 a0_0, .int .i64 a0_1] 28 (0, 0)) (qK BK554.out)) : gb555 ≠ gb554)); replace BK554 := qW BK554 hb; clear hb hbox hg; have hnb6 := NB554_555.out; have hnc6 := NB555_554.out; have z7_0 := bk2 BK554.out; have z8_0 := bk2 BK555.out))
  refine bodyPost_ret (results_cell_row rfl _ _ gb555 28 #[.int .i64 a1, .int .i64 a1] (0, 0) _ rfl (by (with_reducible repeat (first | refine blk_drewN ?_ _ | refine blk_drew ?_ | refine blk_alloc ?_ _)); refine blk_put (cs := #[.int .i64 a1, .int .i64 0]) ?_ 1 _ rfl; (with_reducible repeat (first | refine blk_drewN ?_ _ | refine blk_drew ?_ | refine blk_alloc ?_ _)); refine blk_put (cs := #[.int .i64 0, .int .i64 0]) ?_ 0 _ rfl; (with_reducible repeat (first | refine blk_drewN ?_ _ | refine blk_drew ?_ | refine blk_alloc ?_ _)); exact BK555.out) Tryd.underlying28 rfl (by kernel_rfl)) rfl ?_
  exact ⟨qE, qB⟩
 ·rw [zD c3] at H
  have c3b0 := zG c3
  clear c3
  obtain ⟨ji9, hji9⟩ : ∃ j_ : Int, (mn a0_0 a1) = j_ := ⟨_, rfl⟩
  replace H : (some (ji9, mx a0_1 a1)) = some (r1, r2) := by first | (rw [hji9] at H; exact H) | (simp only [hji9] at H ⊢; exact H)
  have hji9_ : (if a1 < a0_0 then a1 else a0_0) = ji9 := hji9
  obtain ⟨ji10, hji10⟩ : ∃ j_ : Int, (mx a0_1 a1) = j_ := ⟨_, rfl⟩
  replace H : (some (ji9, ji10)) = some (r1, r2) := by first | (rw [hji10] at H; exact H) | (simp only [hji10] at H ⊢; exact H)
  have hji10_ : (if a0_1 < a1 then a1 else a0_1) = ji10 := hji10
  simp only [Option.some.injEq, Prod.mk.injEq] at H
  obtain ⟨rfl, rfl⟩ := H
  go_enter Tryd.func51, Tryd.ntmps51
  go_wp2_with (first | ((with_reducible refine gate_dst (N := 2) rfl ?_); refine box_event (by rfl) (N := 2) (by rfl) (cs := #[.int .i64 a0_0, .int .i64 a0_1]) (t := 28) ?hr ?_; (case hr => go_simp <;> rfl); intro gb554 hg w11 hbox hb; have BK554 := zA (hbox); have GW554 := qG hg; have GE554 := GW554; replace HB := qH hb; clear hb hbox hg) | ((with_reducible refine gate_dst (N := 4) rfl ?_); refine box_event (by rfl) (N := 4) (by rfl) (cs := #[.int .i64 0, .int .i64 0]) (t := 28) ?hr ?_; (case hr => go_simp <;> rfl); intro gb555 hg w12 hbox hb; have BK555 := zA (hbox); have GW555 := qG hg; have GE555 := GW555; replace HB := qH hb; have NB554_555 := zA ((by rw [hg]; exact Nat.ne_of_lt (blk_lt (g := gb554) (o := .cells #[.int .i64 a0_0, .int .i64 a0_1] 28 (0, 0)) (qK BK554.out)) : gb554 ≠ gb555)); have NB555_554 := zA ((by rw [hg]; exact Nat.ne_of_gt (blk_lt (g := gb554) (o := .cells #[.int .i64 a0_0, .int .i64 a0_1] 28 (0, 0)) (qK BK554.out)) : gb555 ≠ gb554)); replace BK554 := qW BK554 hb; clear hb hbox hg; have hnb13 := NB554_555.out; have hnc13 := NB555_554.out; have z14_0 := bk2 BK554.out; have z15_0 := bk2 BK555.out))
  refine bodyPost_ret (results_cell_row rfl _ _ gb555 28 #[.int .i64 ji9, .int .i64 ji10] (0, 0) _ rfl (by (with_reducible repeat (first | refine blk_drewN ?_ _ | refine blk_drew ?_ | refine blk_alloc ?_ _)); refine blk_put (cs := #[.int .i64 ji9, .int .i64 0]) ?_ 1 _ rfl; (with_reducible repeat (first | refine blk_drewN ?_ _ | refine blk_drew ?_ | refine blk_alloc ?_ _)); refine blk_put (cs := #[.int .i64 0, .int .i64 0]) ?_ 0 _ rfl; (with_reducible repeat (first | refine blk_drewN ?_ _ | refine blk_drew ?_ | refine blk_alloc ?_ _)); exact BK555.out) Tryd.underlying28 rfl (by kernel_rfl)) rfl ?_
  exact ⟨by first | rfl | (simp [errW_none, errW_some] <;> rfl) | (simp only [← hji9, ← hji10]; first | rfl | (simp [errW_none, errW_some] <;> rfl)) | (simp [*, errW_none, errW_some] <;> rfl), qB⟩
end Go.Proofs.YtpkimbkjjmbmcaaDoor.Q
