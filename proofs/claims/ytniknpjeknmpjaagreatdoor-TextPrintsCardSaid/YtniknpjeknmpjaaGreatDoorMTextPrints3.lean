/- TextPrints: parts of the proofs, put together. -/
import Derived.OpenShut
import Derived.Lib.Builder
import Derived.Lib.OthersKept
import Derived.Deep.RegionWith
import Derived.Test.YtniknpjeknmpjaaGreatDoorMTextPrints1
import Derived.Test.YtniknpjeknmpjaaGreatDoorMTextPrints2
namespace Go.Proofs.YtniknpjeknmpjaaGreatDoor.Q
open Go.RowKit Go.Proofs.YtniknpjeknmpjaaGreatDoorW.PrintWords Go.Proofs.YtniknpjeknmpjaaGreatDoorW.PrintLast Go.Proofs.YtniknpjeknmpjaaGreatDoorW.PrintMore
attribute [local go_sem] max2_int min2_int max_two min_two max_three min_three max_four min_four
set_option linter.unusedVariables false
set_option linter.unusedSimpArgs false

mutual
def cubbyref07_Check.l0 : Nat → Int → ByteArray → Int → Int → List (List (SIns)) → Option (Int)
 | 0, _, _, _, _, _ => none
 | k + 1, x3, x236000, x236001, x236002, x236003 => if x3 < (x236003.length : Int) then (cubbyref07_Check.l1 k x3 0 x236000 x236001 x236002 x236003) else (some 0)
def cubbyref07_Check.l1 : Nat → Int → Int → ByteArray → Int → Int → List (List (SIns)) → Option (Int)
 | 0, _, _, _, _, _, _ => none
 | k + 1, x3, x4, x236000, x236001, x236002, x236003 => if 0 ≤ x3 then (if x3 < (x236003.length : Int) then (if x4 < ((rd_LIns x236003 x3).length : Int) then (if 0 ≤ x4 then ((cubbyref07_One.f k ((rd_TIns (rd_LIns x236003 x3) x4).f0) ((rd_TIns (rd_LIns x236003 x3) x4).f1) ((rd_TIns (rd_LIns x236003 x3) x4).f2) ((rd_TIns (rd_LIns x236003 x3) x4).f3) ((rd_TIns (rd_LIns x236003 x3) x4).f4) ((rd_TIns (rd_LIns x236003 x3) x4).f5) x236002 (x236003.length : Int) (x4 == (wrap64 (((rd_LIns x236003 x3).length : Int) - 1)))).bind fun t242 => (if t242 = 0 then (cubbyref07_Check.l1 k x3 (wrap64 (x4 + 1)) x236000 x236001 x236002 x236003) else (some t242))) else (none)) else (cubbyref07_Check.l0 k (wrap64 (x3 + 1)) x236000 x236001 x236002 x236003)) else (none)) else (none)
end
def cubbyref07_Check.f (k : Nat) (a0_0 : ByteArray) (a0_1 : Int) (a0_2 : Int) (l0_3 : List (List (SIns))) : Option (Int) := (cubbyref07_Name.f k a0_0).bind fun t236 => (if t236 = true then ((cubbyref07_Shape.f k a0_1 a0_2 l0_3).bind fun t237 => (if t237 = true then (cubbyref07_Check.l0 k 0 a0_0 a0_1 a0_2 l0_3) else (some 71))) else (some 70))
def cubbyref07_Check.T11 : Bool × List (List Nat × List Nat) := (true, [([], []), ([0], [0]), ([], []), ([1, 2], [1, 2]), ([3], [3]), ([], []), ([4, 5], [4, 5]), ([6], [6]), ([], []), ([8], [8]), ([], []), ([10], [10]), ([11], [11]), ([], []), ([], []), ([14], [14]), ([], []), ([15, 16], [15, 16]), ([17], [17]), ([18], [18]), ([19], [19]), ([13, 20], [13, 20]), ([7, 9, 12, 21], [7, 9, 12, 21]), ([22, 22, 0, 1, 2, 3, 4, 5, 6, 7, 8, 9, 10, 11, 12, 13, 14, 15, 16, 17, 18, 19, 20, 21, 22], [22])])
def cubbyref07_Check.B11 : List Nat := [0, 1, 0, 7, 15, 0, 63, 127, 0, 256, 0, 1024, 3072, 0, 0, 16384, 0, 114688, 245760, 507904, 1032192, 2088960, 4194303, 8388607]
theorem cubbyref07_Check.tab11 : rtab .any (opsOf Tryz.f9 11) = cubbyref07_Check.T11 := by kernel_rfl
theorem cubbyref07_Check.bits11 : waitsOk cubbyref07_Check.T11.2 cubbyref07_Check.B11 = true := by kernel_rfl
set_option maxHeartbeats 8000000 in
set_option maxRecDepth 100000 in
theorem cubbyref07_Check.calls (k : Nat) (a0_0 : ByteArray) (a0_1 : Int) (a0_2 : Int) (A0_3 : Option Addr) (c0_3 : Nat) (l0_3 : List (List (SIns))) (r : Int) (w : World) (hr0_3 : Kd.C (Kd.slice 44 kIns) w A0_3 l0_3.length l0_3) (hc0_3 : l0_3.length ≤ c0_3) (h : cubbyref07_Check.f k a0_0 a0_1 a0_2 l0_3 = some r) :
 Calls Tryz.prog 9 #[.agg #[.string a0_0, .int .i64 a0_1, .int .i64 a0_2, .slice A0_3 l0_3.length c0_3]] w fun e w' => e = .returned (.int .i64 r) ∧ Below w.heap.size w w' := by
 have hu24 := Tryz.underlying24
 have hu44 := Tryz.underlying44
 have HR0_3 := zA hr0_3
 have HC0_3 := zA hc0_3
 clear hr0_3 hc0_3
 have HB := zA (Below.refl w.heap.size w)
 have H := h; clear h; unfold cubbyref07_Check.f at H
 replace H := qb H; obtain ⟨t236, A2, H⟩ := H
 by_cases c3 : t236 = true
 ·subst c3
  have H1 : ((cubbyref07_Shape.f k a0_1 a0_2 l0_3).bind fun t237 => (if t237 = true then (cubbyref07_Check.l0 k 0 a0_0 a0_1 a0_2 l0_3) else (some 71))) = some r := by rw [zC rfl] at H; exact H
  clear H
  have H := H1
  clear H1
  replace H := qb H; obtain ⟨t237, A4, H⟩ := H
  by_cases c5 : t237 = true
  ·subst c5
   have H1 : (cubbyref07_Check.l0 k 0 a0_0 a0_1 a0_2 l0_3) = some r := by rw [zC rfl] at H; exact H
   clear H
   have H := H1
   clear H1
   have H' := zA H
   clear H
   go_enter Tryz.func9, Tryz.ntmps9
   go_wp2_with (first | ((with_reducible refine gate_dst (N := 1) rfl ?_); refine box_event (by rfl) (N := 1) (by rfl) (cs := #[.string a0_0, .int .i64 a0_1, .int .i64 a0_2, .slice A0_3 l0_3.length c0_3]) (t := 24) ?hr ?_; (case hr => go_simp <;> rfl); intro gb235 hg w6 hbox hb; have BK235 := zA (hbox); have GW235 := qG hg; have GE235 := GW235; replace HB := qH hb; clear hb hbox hg; have z7_0 := bk4 BK235.out) | ((with_reducible refine gate_callee (f := 22) rfl ?_); refine goesL_ (some 8) rfl rfl Tryz.func22 (by kernel_rfl) rfl #[.string a0_0] rfl qL ?_; (with_reducible refine (cubbyref07_Name.calls k a0_0 true _ A2.out).mono ?_); rintro e w' ⟨rfl, ⟨nd, rfl⟩⟩; refine ⟨_, rfl, ?_⟩) | ((with_reducible refine gate_callee (f := 23) rfl ?_); refine goesL_ (some 16) rfl rfl Tryz.func23 (by kernel_rfl) rfl #[.int .i64 a0_1, .int .i64 a0_2, .slice A0_3 l0_3.length c0_3] rfl qL ?_; (with_reducible refine (cubbyref07_Shape.calls k a0_1 a0_2 _ _ l0_3 true _ ?side1 ?side2 A4.out).mono ?_); (case side1 => repeat (first | exact (Kd.C_below HR0_3.out qB) | (with_reducible refine Kd.C_alloc ?_ _) | (with_reducible refine Kd.C_drewN ?_ _) | (with_reducible refine Kd.C_drew ?_))); (case side2 => exact HC0_3.out); rintro e w' ⟨rfl, ⟨nd, rfl⟩⟩; refine ⟨_, rfl, ?_⟩))
   go_loopg [3] k (fun kq v3 w' => ∃ (x3_1 : Int), v3 = .int .i64 x3_1 ∧ Aside0 (cubbyref07_Check.l0 kq x3_1 a0_0 a0_1 a0_2 l0_3 = some r) ∧ Aside0 (kq ≤ k) ∧ Aside0 (w'.heap[gb235]? = some (.cells #[.string a0_0, .int .i64 a0_1, .int .i64 a0_2, (.slice A0_3 l0_3.length c0_3)] 24 (0, 0))) ∧ Aside0 (Below w.heap.size w w'))
   case atStart => exact ⟨(0), qT, H', ⟨Nat.le_refl _⟩, ⟨qK BK235.out⟩, ⟨qB⟩⟩
   case round =>
    clear H'
    obtain ⟨x3_1, rfl, HA, HK1, BK235, HB⟩ := hrel
    cases gk with
    | zero => exact absurd HA.out (by simp [cubbyref07_Check.l0])
    | succ k1 =>
     have H := HA.out
     clear HA
     simp only [cubbyref07_Check.l0] at H
     by_cases c8 : x3_1 < (l0_3.length : Int)
     ·rw [zC c8] at H
      have c8b0 := zF c8
      clear c8
      have H' := zA H
      clear H
      have z9_0 := bk4 BK235.out
      go_wp2
      go_loopg [4] k1 (fun kq v4 w' => ∃ (x4_2 : Int), v4 = .int .i64 x4_2 ∧ Aside0 (cubbyref07_Check.l1 kq x3_1 x4_2 a0_0 a0_1 a0_2 l0_3 = some r) ∧ Aside0 (kq ≤ k1) ∧ Aside0 (w'.heap[gb235]? = some (.cells #[.string a0_0, .int .i64 a0_1, .int .i64 a0_2, (.slice A0_3 l0_3.length c0_3)] 24 (0, 0))) ∧ Aside0 (Below w.heap.size w w'))
      case atStart => exact ⟨(0), qT, H', ⟨Nat.le_refl _⟩, ⟨qK BK235.out⟩, ⟨qB⟩⟩
      case round =>
       clear H'
       obtain ⟨x4_2, rfl, HA, HK2, BK235, HB⟩ := hrel
       cases gk with
       | zero => exact absurd HA.out (by simp [cubbyref07_Check.l1])
       | succ k2 =>
        have H := HA.out
        clear HA
        simp only [cubbyref07_Check.l1] at H
        by_cases c10 : 0 ≤ x3_1
        ·rw [zC c10] at H
         have c10b0 := zF c10
         clear c10
         by_cases c11 : x3_1 < (l0_3.length : Int)
         ·rw [zC c11] at H
          have c11b0 := zF c11
          clear c11
          by_cases c12 : x4_2 < ((rd_LIns l0_3 x3_1).length : Int)
          ·rw [zC c12] at H
           have c12b0 := zF c12
           clear c12
           by_cases c13 : 0 ≤ x4_2
           ·rw [zC c13] at H
            have c13b0 := zF c13
            clear c13
            replace H := qb H; obtain ⟨t242, A14, H⟩ := H
            by_cases c15 : t242 = 0
            ·rw [zC c15] at H
             obtain ⟨c15b0, c15b1⟩ := qe c15; clear c15
             have H' := zA H
             clear H
             have z16_0 := bk4 BK235.out
             have p238 : 0 ≤ (x3_1 : Int) := zB qA
             have q238 : x3_1 < (l0_3.length : Int) := zB qA
             obtain ⟨ad238, A238_0, c238_0, e238, hx238_0, hl238_0, hi238_0⟩ := at_LIns HR0_3.out x3_1 p238 q238
             cases e238
             replace hx238_0 := (HB.out.cell (zE w _ hx238_0)).trans hx238_0
             have HR238_0 := zA hi238_0
             have HC238_0 := zA hl238_0
             clear hi238_0 hl238_0
             replace p238 := eq_true p238
             replace q238 := eq_true q238
             try go_wp2
             have n0_ := zA (blk_drew BK235.out)
             have n1_ := zA (below_drew1 HB.out)
             clear BK235
             clear HB
             have BK235 := n0_
             have HB := n1_
             clear n0_ n1_
             have p239 : 0 ≤ (x3_1 : Int) := zB qA
             have q239 : x3_1 < (l0_3.length : Int) := zB qA
             obtain ⟨ad239, A239_0, c239_0, e239, hx239_0, hl239_0, hi239_0⟩ := at_LIns HR0_3.out x3_1 p239 q239
             have hw239_0 := hx239_0
             obtain rfl : ad238 = ad239 := (by injection e239)
             replace hx239_0 := (HB.out.cell (zE w _ hx239_0)).trans hx239_0
             have HR239_0 := zA hi239_0
             have HC239_0 := zA hl239_0
             clear hi239_0 hl239_0
             replace p239 := eq_true p239
             replace q239 := eq_true q239
             have p240 : 0 ≤ (x4_2 : Int) := zB qA
             have q240 : x4_2 < ((rd_LIns l0_3 x3_1).length : Int) := zB qA
             obtain ⟨ad240, A240_5, c240_5, e240, hx240_0, hx240_1, hx240_2, hx240_3, hx240_4, hx240_5, hl240_5, hi240_5⟩ := at_TIns HR239_0.out x4_2 p240 q240
             have hw240_5 := hx240_5
             have hw240_4 := hx240_4
             have hw240_3 := hx240_3
             have hw240_2 := hx240_2
             have hw240_1 := hx240_1
             have hw240_0 := hx240_0
             cases e240
             replace hx240_0 := (HB.out.cell (zE w _ hx240_0)).trans hx240_0
             replace hx240_1 := (HB.out.cell (zE w _ hx240_1)).trans hx240_1
             replace hx240_2 := (HB.out.cell (zE w _ hx240_2)).trans hx240_2
             replace hx240_3 := (HB.out.cell (zE w _ hx240_3)).trans hx240_3
             replace hx240_4 := (HB.out.cell (zE w _ hx240_4)).trans hx240_4
             replace hx240_5 := (HB.out.cell (zE w _ hx240_5)).trans hx240_5
             have HR240_5 := zA hi240_5
             have HC240_5 := zA hl240_5
             clear hi240_5 hl240_5
             replace p240 := eq_true p240
             replace q240 := eq_true q240
             have p241 : 0 ≤ (x3_1 : Int) := zB qA
             have q241 : x3_1 < (l0_3.length : Int) := zB qA
             obtain ⟨ad241, A241_0, c241_0, e241, hx241_0, hl241_0, hi241_0⟩ := at_LIns HR0_3.out x3_1 p241 q241
             have hw241_0 := hx241_0
             obtain rfl : ad238 = ad241 := (by injection e241)
             replace hx241_0 := (HB.out.cell (zE w _ hx241_0)).trans hx241_0
             have HR241_0 := zA hi241_0
             have HC241_0 := zA hl241_0
             clear hi241_0 hl241_0
             replace p241 := eq_true p241
             replace q241 := eq_true q241
             have ea_ := zI (hx239_0.symm.trans hx241_0)
             injection ea_ with ea_ en_ ec_
             subst ea_
             subst ec_
             clear en_
             refine start_ (n := 24) (S := fun w' => w'.cell? ⟨gb235, 0, none⟩ = some (.string a0_0) ∧ w'.cell? ⟨gb235, 1, none⟩ = some (.int .i64 a0_1) ∧ w'.cell? ⟨gb235, 2, none⟩ = some (.int .i64 a0_2) ∧ w'.cell? ⟨gb235, 3, none⟩ = some (.slice (some ad238) l0_3.length c0_3) ∧ w'.cell? (ad238.add (x3_1).toNat) = some (.slice (some ad240) (rd_LIns l0_3 x3_1).length c239_0) ∧ w'.cell? (ad240.add ((x4_2).toNat * 6)) = some (.int .i64 ((rd_TIns (rd_LIns l0_3 x3_1) x4_2).f0)) ∧ w'.cell? ⟨(ad240.add ((x4_2).toNat * 6)).block, (ad240.add ((x4_2).toNat * 6)).off + 1, none⟩ = some (.int .i64 ((rd_TIns (rd_LIns l0_3 x3_1) x4_2).f1)) ∧ w'.cell? ⟨(ad240.add ((x4_2).toNat * 6)).block, (ad240.add ((x4_2).toNat * 6)).off + 2, none⟩ = some (.int .i64 ((rd_TIns (rd_LIns l0_3 x3_1) x4_2).f2)) ∧ w'.cell? ⟨(ad240.add ((x4_2).toNat * 6)).block, (ad240.add ((x4_2).toNat * 6)).off + 3, none⟩ = some (.int .i64 ((rd_TIns (rd_LIns l0_3 x3_1) x4_2).f3)) ∧ w'.cell? ⟨(ad240.add ((x4_2).toNat * 6)).block, (ad240.add ((x4_2).toNat * 6)).off + 4, none⟩ = some (.string ((rd_TIns (rd_LIns l0_3 x3_1) x4_2).f4)) ∧ w'.cell? ⟨(ad240.add ((x4_2).toNat * 6)).block, (ad240.add ((x4_2).toNat * 6)).off + 5, none⟩ = some (.slice A240_5 ((rd_TIns (rd_LIns l0_3 x3_1) x4_2).f5).length c240_5) ∧ w'.cell? (ad238.add (x3_1).toNat) = some (.slice (some ad240) (rd_LIns l0_3 x3_1).length c239_0)) (ds := []) (bA 24 0) (by kernel_rfl) rfl rfl ⟨(blk_cell BK235.out 0).trans rfl, (blk_cell BK235.out 1).trans rfl, (blk_cell BK235.out 2).trans rfl, (blk_cell BK235.out 3).trans rfl, ((HB.out.cell (zE w _ hw239_0)).trans hw239_0), ((HB.out.cell (zE w _ hw240_0)).trans hw240_0), ((HB.out.cell (zE w _ hw240_1)).trans hw240_1), ((HB.out.cell (zE w _ hw240_2)).trans hw240_2), ((HB.out.cell (zE w _ hw240_3)).trans hw240_3), ((HB.out.cell (zE w _ hw240_4)).trans hw240_4), ((HB.out.cell (zE w _ hw240_5)).trans hw240_5), ((HB.out.cell (zE w _ hw241_0)).trans hw241_0)⟩ (fun hHeld => ?_); refine with_tabW cubbyref07_Check.tab11 cubbyref07_Check.bits11 (fun HT_ HW_ => ?_)
             generalize wr.drew = w17 at BK235 HB HR239_0 HR240_5 HR241_0 hx239_0 hx240_0 hx240_1 hx240_2 hx240_3 hx240_4 hx240_5 hx241_0 hHeld ⊢
             refine pu_ (i := 0) (N := some 35) (bA 24 1) ?_
             refine pu_ (i := 2) (N := some 37) (bA 24 5) ?_
             refine pu_ (i := 5) (N := some 40) (bA 24 37) ?_
             refine pu_ (i := 8) (N := some 43) (bA 24 293) ?_
             refine pu_ (i := 10) (N := some 45) (bA 24 1317) ?_
             refine pu_ (i := 13) (N := some 48) (bA 24 9509) ?_
             refine pu_ (i := 14) (N := some 49) (bA 24 25893) ?_
             refine pu_ (i := 16) (N := some 51) (bA 24 91429) ?_
             refine tk_ (i := 1) (N := some 36) (bA 24 91431) ?_
             refine pu_ (i := 3) (N := some 38) (bA 24 91439) ?_
             refine tk_ (i := 4) (N := some 39) (bA 24 91455) ?_
             refine pu_ (i := 6) (N := some 41) (bA 24 91519) ?_
             refine tk_ (i := 7) (N := some 42) (bA 24 91647) ?_
             refine tk_ (i := 9) (N := some 44) (bA 24 92159) ?_
             refine tk_ (i := 11) (N := some 46) (bA 24 94207) ?_
             refine pu_ (i := 12) (N := some 47) (bA 24 98303) ?_
             refine tk_ (i := 15) (N := some 50) (bA 24 131071) ?_
             refine pu_ (i := 17) (N := some 52) (bA 24 262143) ?_
             refine tk_ (i := 18) (N := some 53) (bA 24 524287) ?_
             refine pu_ (i := 19) (N := some 54) (bA 24 1048575) ?_
             refine pu_ (i := 20) (N := some 55) (bA 24 2097151) ?_
             refine pu_ (i := 21) (N := some 56) (bA 24 4194303) ?_
             refine one_ (i := 22) (N := some 57) (bA 24 8388607) rfl rfl (one_of HT_.out (by kernel_rfl)) (by decide) (fun K hK => ?_)
             refine goes_ Tryz.func24 (by kernel_rfl) rfl #[.agg #[.int .i64 ((rd_TIns (rd_LIns l0_3 x3_1) x4_2).f0), .int .i64 ((rd_TIns (rd_LIns l0_3 x3_1) x4_2).f1), .int .i64 ((rd_TIns (rd_LIns l0_3 x3_1) x4_2).f2), .int .i64 ((rd_TIns (rd_LIns l0_3 x3_1) x4_2).f3), .string ((rd_TIns (rd_LIns l0_3 x3_1) x4_2).f4), .slice A240_5 ((rd_TIns (rd_LIns l0_3 x3_1) x4_2).f5).length c240_5], .int .i64 a0_2, .int .i64 (l0_3.length : Int), .bool (x4_2 == (wrap64 (((rd_LIns l0_3 x3_1).length : Int) - 1)))] (by rfl) rfl rfl qL ?_
             with_reducible refine (cubbyref07_One.calls k2 ((rd_TIns (rd_LIns l0_3 x3_1) x4_2).f0) ((rd_TIns (rd_LIns l0_3 x3_1) x4_2).f1) ((rd_TIns (rd_LIns l0_3 x3_1) x4_2).f2) ((rd_TIns (rd_LIns l0_3 x3_1) x4_2).f3) ((rd_TIns (rd_LIns l0_3 x3_1) x4_2).f4) _ _ ((rd_TIns (rd_LIns l0_3 x3_1) x4_2).f5) a0_2 (l0_3.length : Int) (x4_2 == (wrap64 (((rd_LIns l0_3 x3_1).length : Int) - 1))) t242 _ ?side1 ?side2 A14.out).mono ?_
             (case side1 => exact qCB HR240_5.out)
             (case side2 => exact HC240_5.out)
             rintro e w18 ⟨rfl, hb⟩
             refine ⟨_, rfl, ?_⟩
             have n0_ := qW BK235 hb
             have n1_ := qH hb
             clear BK235
             clear HB
             have BK235 := n0_
             have HB := n1_
             clear n0_ n1_
             (try clear hb)
             (try clear hb2)
             (try clear hk)
             (try clear hi)
             refine hK.out _ _ ⟨(blk_cell BK235.out 0).trans rfl, (blk_cell BK235.out 1).trans rfl, (blk_cell BK235.out 2).trans rfl, (blk_cell BK235.out 3).trans rfl, ((HB.out.cell (zE w _ hw239_0)).trans hw239_0), ((HB.out.cell (zE w _ hw240_0)).trans hw240_0), ((HB.out.cell (zE w _ hw240_1)).trans hw240_1), ((HB.out.cell (zE w _ hw240_2)).trans hw240_2), ((HB.out.cell (zE w _ hw240_3)).trans hw240_3), ((HB.out.cell (zE w _ hw240_4)).trans hw240_4), ((HB.out.cell (zE w _ hw240_5)).trans hw240_5), ((HB.out.cell (zE w _ hw241_0)).trans hw241_0)⟩ (fun hHeld => ?_)
             clear hK K
             refine norm_ (a' := ?_) ?_ ?_
             rotate_left
             ·show Act.put _ (some 57) _ = _
              simp only [Act.put, List.setIfInBounds_toArray, List.set_cons_zero, List.set_cons_succ, i64_w, i32_w]
              rfl
             refine pu_ (i := 23) (N := some 5) (bA 24 16777215) ?_
             refine done_ (done_of HT_.out (by kernel_rfl)) ?_
             try go_wp2
             go_roundg k2
             case measure => have := HK1.out; have := HK2.out; omega
             case rel => exact ⟨(wrap64 (x4_2 + 1)), qT, H', ⟨by have := HK1.out; have := HK2.out; omega⟩, ⟨qK BK235.out⟩, ⟨qB⟩⟩
            ·rw [zD c15] at H
             obtain ⟨c15b0, c15b1⟩ := qn c15
             obtain rfl := zI H
             have z19_0 := bk4 BK235.out
             have p238 : 0 ≤ (x3_1 : Int) := zB qA
             have q238 : x3_1 < (l0_3.length : Int) := zB qA
             obtain ⟨ad238, A238_0, c238_0, e238, hx238_0, hl238_0, hi238_0⟩ := at_LIns HR0_3.out x3_1 p238 q238
             cases e238
             replace hx238_0 := (HB.out.cell (zE w _ hx238_0)).trans hx238_0
             have HR238_0 := zA hi238_0
             have HC238_0 := zA hl238_0
             clear hi238_0 hl238_0
             replace p238 := eq_true p238
             replace q238 := eq_true q238
             try go_wp2
             have n0_ := zA (blk_drew BK235.out)
             have n1_ := zA (below_drew1 HB.out)
             clear BK235
             clear HB
             have BK235 := n0_
             have HB := n1_
             clear n0_ n1_
             have p239 : 0 ≤ (x3_1 : Int) := zB qA
             have q239 : x3_1 < (l0_3.length : Int) := zB qA
             obtain ⟨ad239, A239_0, c239_0, e239, hx239_0, hl239_0, hi239_0⟩ := at_LIns HR0_3.out x3_1 p239 q239
             have hw239_0 := hx239_0
             obtain rfl : ad238 = ad239 := (by injection e239)
             replace hx239_0 := (HB.out.cell (zE w _ hx239_0)).trans hx239_0
             have HR239_0 := zA hi239_0
             have HC239_0 := zA hl239_0
             clear hi239_0 hl239_0
             replace p239 := eq_true p239
             replace q239 := eq_true q239
             have p240 : 0 ≤ (x4_2 : Int) := zB qA
             have q240 : x4_2 < ((rd_LIns l0_3 x3_1).length : Int) := zB qA
             obtain ⟨ad240, A240_5, c240_5, e240, hx240_0, hx240_1, hx240_2, hx240_3, hx240_4, hx240_5, hl240_5, hi240_5⟩ := at_TIns HR239_0.out x4_2 p240 q240
             have hw240_5 := hx240_5
             have hw240_4 := hx240_4
             have hw240_3 := hx240_3
             have hw240_2 := hx240_2
             have hw240_1 := hx240_1
             have hw240_0 := hx240_0
             cases e240
             replace hx240_0 := (HB.out.cell (zE w _ hx240_0)).trans hx240_0
             replace hx240_1 := (HB.out.cell (zE w _ hx240_1)).trans hx240_1
             replace hx240_2 := (HB.out.cell (zE w _ hx240_2)).trans hx240_2
             replace hx240_3 := (HB.out.cell (zE w _ hx240_3)).trans hx240_3
             replace hx240_4 := (HB.out.cell (zE w _ hx240_4)).trans hx240_4
             replace hx240_5 := (HB.out.cell (zE w _ hx240_5)).trans hx240_5
             have HR240_5 := zA hi240_5
             have HC240_5 := zA hl240_5
             clear hi240_5 hl240_5
             replace p240 := eq_true p240
             replace q240 := eq_true q240
             have p241 : 0 ≤ (x3_1 : Int) := zB qA
             have q241 : x3_1 < (l0_3.length : Int) := zB qA
             obtain ⟨ad241, A241_0, c241_0, e241, hx241_0, hl241_0, hi241_0⟩ := at_LIns HR0_3.out x3_1 p241 q241
             have hw241_0 := hx241_0
             obtain rfl : ad238 = ad241 := (by injection e241)
             replace hx241_0 := (HB.out.cell (zE w _ hx241_0)).trans hx241_0
             have HR241_0 := zA hi241_0
             have HC241_0 := zA hl241_0
             clear hi241_0 hl241_0
             replace p241 := eq_true p241
             replace q241 := eq_true q241
             have ea_ := zI (hx239_0.symm.trans hx241_0)
             injection ea_ with ea_ en_ ec_
             subst ea_
             subst ec_
             clear en_
             refine start_ (n := 24) (S := fun w' => w'.cell? ⟨gb235, 0, none⟩ = some (.string a0_0) ∧ w'.cell? ⟨gb235, 1, none⟩ = some (.int .i64 a0_1) ∧ w'.cell? ⟨gb235, 2, none⟩ = some (.int .i64 a0_2) ∧ w'.cell? ⟨gb235, 3, none⟩ = some (.slice (some ad238) l0_3.length c0_3) ∧ w'.cell? (ad238.add (x3_1).toNat) = some (.slice (some ad240) (rd_LIns l0_3 x3_1).length c239_0) ∧ w'.cell? (ad240.add ((x4_2).toNat * 6)) = some (.int .i64 ((rd_TIns (rd_LIns l0_3 x3_1) x4_2).f0)) ∧ w'.cell? ⟨(ad240.add ((x4_2).toNat * 6)).block, (ad240.add ((x4_2).toNat * 6)).off + 1, none⟩ = some (.int .i64 ((rd_TIns (rd_LIns l0_3 x3_1) x4_2).f1)) ∧ w'.cell? ⟨(ad240.add ((x4_2).toNat * 6)).block, (ad240.add ((x4_2).toNat * 6)).off + 2, none⟩ = some (.int .i64 ((rd_TIns (rd_LIns l0_3 x3_1) x4_2).f2)) ∧ w'.cell? ⟨(ad240.add ((x4_2).toNat * 6)).block, (ad240.add ((x4_2).toNat * 6)).off + 3, none⟩ = some (.int .i64 ((rd_TIns (rd_LIns l0_3 x3_1) x4_2).f3)) ∧ w'.cell? ⟨(ad240.add ((x4_2).toNat * 6)).block, (ad240.add ((x4_2).toNat * 6)).off + 4, none⟩ = some (.string ((rd_TIns (rd_LIns l0_3 x3_1) x4_2).f4)) ∧ w'.cell? ⟨(ad240.add ((x4_2).toNat * 6)).block, (ad240.add ((x4_2).toNat * 6)).off + 5, none⟩ = some (.slice A240_5 ((rd_TIns (rd_LIns l0_3 x3_1) x4_2).f5).length c240_5) ∧ w'.cell? (ad238.add (x3_1).toNat) = some (.slice (some ad240) (rd_LIns l0_3 x3_1).length c239_0)) (ds := []) (bA 24 0) (by kernel_rfl) rfl rfl ⟨(blk_cell BK235.out 0).trans rfl, (blk_cell BK235.out 1).trans rfl, (blk_cell BK235.out 2).trans rfl, (blk_cell BK235.out 3).trans rfl, ((HB.out.cell (zE w _ hw239_0)).trans hw239_0), ((HB.out.cell (zE w _ hw240_0)).trans hw240_0), ((HB.out.cell (zE w _ hw240_1)).trans hw240_1), ((HB.out.cell (zE w _ hw240_2)).trans hw240_2), ((HB.out.cell (zE w _ hw240_3)).trans hw240_3), ((HB.out.cell (zE w _ hw240_4)).trans hw240_4), ((HB.out.cell (zE w _ hw240_5)).trans hw240_5), ((HB.out.cell (zE w _ hw241_0)).trans hw241_0)⟩ (fun hHeld => ?_); refine with_tabW cubbyref07_Check.tab11 cubbyref07_Check.bits11 (fun HT_ HW_ => ?_)
             generalize wr.drew = w20 at BK235 HB HR239_0 HR240_5 HR241_0 hx239_0 hx240_0 hx240_1 hx240_2 hx240_3 hx240_4 hx240_5 hx241_0 hHeld ⊢
             refine pu_ (i := 0) (N := some 35) (bA 24 1) ?_
             refine pu_ (i := 2) (N := some 37) (bA 24 5) ?_
             refine pu_ (i := 5) (N := some 40) (bA 24 37) ?_
             refine pu_ (i := 8) (N := some 43) (bA 24 293) ?_
             refine pu_ (i := 10) (N := some 45) (bA 24 1317) ?_
             refine pu_ (i := 13) (N := some 48) (bA 24 9509) ?_
             refine pu_ (i := 14) (N := some 49) (bA 24 25893) ?_
             refine pu_ (i := 16) (N := some 51) (bA 24 91429) ?_
             refine tk_ (i := 1) (N := some 36) (bA 24 91431) ?_
             refine pu_ (i := 3) (N := some 38) (bA 24 91439) ?_
             refine tk_ (i := 4) (N := some 39) (bA 24 91455) ?_
             refine pu_ (i := 6) (N := some 41) (bA 24 91519) ?_
             refine tk_ (i := 7) (N := some 42) (bA 24 91647) ?_
             refine tk_ (i := 9) (N := some 44) (bA 24 92159) ?_
             refine tk_ (i := 11) (N := some 46) (bA 24 94207) ?_
             refine pu_ (i := 12) (N := some 47) (bA 24 98303) ?_
             refine tk_ (i := 15) (N := some 50) (bA 24 131071) ?_
             refine pu_ (i := 17) (N := some 52) (bA 24 262143) ?_
             refine tk_ (i := 18) (N := some 53) (bA 24 524287) ?_
             refine pu_ (i := 19) (N := some 54) (bA 24 1048575) ?_
             refine pu_ (i := 20) (N := some 55) (bA 24 2097151) ?_
             refine pu_ (i := 21) (N := some 56) (bA 24 4194303) ?_
             refine one_ (i := 22) (N := some 57) (bA 24 8388607) rfl rfl (one_of HT_.out (by kernel_rfl)) (by decide) (fun K hK => ?_)
             refine goes_ Tryz.func24 (by kernel_rfl) rfl #[.agg #[.int .i64 ((rd_TIns (rd_LIns l0_3 x3_1) x4_2).f0), .int .i64 ((rd_TIns (rd_LIns l0_3 x3_1) x4_2).f1), .int .i64 ((rd_TIns (rd_LIns l0_3 x3_1) x4_2).f2), .int .i64 ((rd_TIns (rd_LIns l0_3 x3_1) x4_2).f3), .string ((rd_TIns (rd_LIns l0_3 x3_1) x4_2).f4), .slice A240_5 ((rd_TIns (rd_LIns l0_3 x3_1) x4_2).f5).length c240_5], .int .i64 a0_2, .int .i64 (l0_3.length : Int), .bool (x4_2 == (wrap64 (((rd_LIns l0_3 x3_1).length : Int) - 1)))] (by rfl) rfl rfl qL ?_
             with_reducible refine (cubbyref07_One.calls k2 ((rd_TIns (rd_LIns l0_3 x3_1) x4_2).f0) ((rd_TIns (rd_LIns l0_3 x3_1) x4_2).f1) ((rd_TIns (rd_LIns l0_3 x3_1) x4_2).f2) ((rd_TIns (rd_LIns l0_3 x3_1) x4_2).f3) ((rd_TIns (rd_LIns l0_3 x3_1) x4_2).f4) _ _ ((rd_TIns (rd_LIns l0_3 x3_1) x4_2).f5) a0_2 (l0_3.length : Int) (x4_2 == (wrap64 (((rd_LIns l0_3 x3_1).length : Int) - 1))) t242 _ ?side1 ?side2 A14.out).mono ?_
             (case side1 => exact qCB HR240_5.out)
             (case side2 => exact HC240_5.out)
             rintro e w21 ⟨rfl, hb⟩
             refine ⟨_, rfl, ?_⟩
             have n0_ := qW BK235 hb
             have n1_ := qH hb
             clear BK235
             clear HB
             have BK235 := n0_
             have HB := n1_
             clear n0_ n1_
             (try clear hb)
             (try clear hb2)
             (try clear hk)
             (try clear hi)
             refine hK.out _ _ ⟨(blk_cell BK235.out 0).trans rfl, (blk_cell BK235.out 1).trans rfl, (blk_cell BK235.out 2).trans rfl, (blk_cell BK235.out 3).trans rfl, ((HB.out.cell (zE w _ hw239_0)).trans hw239_0), ((HB.out.cell (zE w _ hw240_0)).trans hw240_0), ((HB.out.cell (zE w _ hw240_1)).trans hw240_1), ((HB.out.cell (zE w _ hw240_2)).trans hw240_2), ((HB.out.cell (zE w _ hw240_3)).trans hw240_3), ((HB.out.cell (zE w _ hw240_4)).trans hw240_4), ((HB.out.cell (zE w _ hw240_5)).trans hw240_5), ((HB.out.cell (zE w _ hw241_0)).trans hw241_0)⟩ (fun hHeld => ?_)
             clear hK K
             refine norm_ (a' := ?_) ?_ ?_
             rotate_left
             ·show Act.put _ (some 57) _ = _
              simp only [Act.put, List.setIfInBounds_toArray, List.set_cons_zero, List.set_cons_succ, i64_w, i32_w]
              rfl
             refine pu_ (i := 23) (N := some 5) (bA 24 16777215) ?_
             refine done_ (done_of HT_.out (by kernel_rfl)) ?_
             try go_wp2
             go_ret
             exact ⟨qE, qB⟩
           ·rw [zD c13] at H
            exact absurd H (by simp)
          ·rw [zD c12] at H
           have c12b0 := zG c12
           clear c12
           have H' := zA H
           clear H
           have z22_0 := bk4 BK235.out
           have p238 : 0 ≤ (x3_1 : Int) := zB qA
           have q238 : x3_1 < (l0_3.length : Int) := zB qA
           obtain ⟨ad238, A238_0, c238_0, e238, hx238_0, hl238_0, hi238_0⟩ := at_LIns HR0_3.out x3_1 p238 q238
           cases e238
           replace hx238_0 := (HB.out.cell (zE w _ hx238_0)).trans hx238_0
           have HR238_0 := zA hi238_0
           have HC238_0 := zA hl238_0
           clear hi238_0 hl238_0
           replace p238 := eq_true p238
           replace q238 := eq_true q238
           go_wp2
           go_roundg k2
           case measure => have := HK1.out; have := HK2.out; omega
           case rel => exact ⟨(wrap64 (x3_1 + 1)), qT, H', ⟨by have := HK1.out; have := HK2.out; omega⟩, ⟨qK BK235.out⟩, ⟨qB⟩⟩
         ·rw [zD c11] at H
          exact absurd H (by simp)
        ·rw [zD c10] at H
         exact absurd H (by simp)
     ·rw [zD c8] at H
      have c8b0 := zG c8
      clear c8
      obtain rfl := zI H
      have z23_0 := bk4 BK235.out
      go_wp2
      go_ret
      exact ⟨qE, qB⟩
  ·replace c5 := Bool.eq_false_iff.mpr c5
   subst c5
   have H1 : (some 71) = some r := by rw [zD (show ¬ (false = true) by decide)] at H; exact H
   clear H
   have H := H1
   clear H1
   obtain rfl := zI H
   go_enter Tryz.func9, Tryz.ntmps9
   go_wp2_with (first | ((with_reducible refine gate_dst (N := 1) rfl ?_); refine box_event (by rfl) (N := 1) (by rfl) (cs := #[.string a0_0, .int .i64 a0_1, .int .i64 a0_2, .slice A0_3 l0_3.length c0_3]) (t := 24) ?hr ?_; (case hr => go_simp <;> rfl); intro gb235 hg w24 hbox hb; have BK235 := zA (hbox); have GW235 := qG hg; have GE235 := GW235; replace HB := qH hb; clear hb hbox hg; have z25_0 := bk4 BK235.out) | ((with_reducible refine gate_callee (f := 22) rfl ?_); refine goesL_ (some 8) rfl rfl Tryz.func22 (by kernel_rfl) rfl #[.string a0_0] rfl qL ?_; (with_reducible refine (cubbyref07_Name.calls k a0_0 true _ A2.out).mono ?_); rintro e w' ⟨rfl, ⟨nd, rfl⟩⟩; refine ⟨_, rfl, ?_⟩) | ((with_reducible refine gate_callee (f := 23) rfl ?_); refine goesL_ (some 16) rfl rfl Tryz.func23 (by kernel_rfl) rfl #[.int .i64 a0_1, .int .i64 a0_2, .slice A0_3 l0_3.length c0_3] rfl qL ?_; (with_reducible refine (cubbyref07_Shape.calls k a0_1 a0_2 _ _ l0_3 false _ ?side1 ?side2 A4.out).mono ?_); (case side1 => repeat (first | exact (Kd.C_below HR0_3.out qB) | (with_reducible refine Kd.C_alloc ?_ _) | (with_reducible refine Kd.C_drewN ?_ _) | (with_reducible refine Kd.C_drew ?_))); (case side2 => exact HC0_3.out); rintro e w' ⟨rfl, ⟨nd, rfl⟩⟩; refine ⟨_, rfl, ?_⟩))
   go_ret
   exact ⟨qE, qB⟩
 ·replace c3 := Bool.eq_false_iff.mpr c3
  subst c3
  have H1 : (some 70) = some r := by rw [zD (show ¬ (false = true) by decide)] at H; exact H
  clear H
  have H := H1
  clear H1
  obtain rfl := zI H
  go_enter Tryz.func9, Tryz.ntmps9
  go_wp2_with (first | ((with_reducible refine gate_dst (N := 1) rfl ?_); refine box_event (by rfl) (N := 1) (by rfl) (cs := #[.string a0_0, .int .i64 a0_1, .int .i64 a0_2, .slice A0_3 l0_3.length c0_3]) (t := 24) ?hr ?_; (case hr => go_simp <;> rfl); intro gb235 hg w26 hbox hb; have BK235 := zA (hbox); have GW235 := qG hg; have GE235 := GW235; replace HB := qH hb; clear hb hbox hg; have z27_0 := bk4 BK235.out) | ((with_reducible refine gate_callee (f := 22) rfl ?_); refine goesL_ (some 8) rfl rfl Tryz.func22 (by kernel_rfl) rfl #[.string a0_0] rfl qL ?_; (with_reducible refine (cubbyref07_Name.calls k a0_0 false _ A2.out).mono ?_); rintro e w' ⟨rfl, ⟨nd, rfl⟩⟩; refine ⟨_, rfl, ?_⟩))
  go_ret
  exact ⟨qE, qB⟩

def cubbyref08_Digits.l0 : Nat → Int → ByteArray → Option (ByteArray)
 | 0, _, _ => none
 | k + 1, x0, x3 => if x0 > 9 then (if 0 ≤ (Int.tmod x0 10) then (if (Int.tmod x0 10) ≤ (wrap64 ((Int.tmod x0 10) + 1)) then (if (wrap64 ((Int.tmod x0 10) + 1)) ≤ 10 then (if ((⟨#[48, 49, 50, 51, 52, 53, 54, 55, 56, 57]⟩ : ByteArray).extract ((Int.tmod x0 10) : Int).toNat ((wrap64 ((Int.tmod x0 10) + 1)) : Int).toNat).size + x3.size ≤ 9223372036854775807 then (cubbyref08_Digits.l0 k (wrap64 (Int.tdiv x0 10)) (((⟨#[48, 49, 50, 51, 52, 53, 54, 55, 56, 57]⟩ : ByteArray).extract ((Int.tmod x0 10) : Int).toNat ((wrap64 ((Int.tmod x0 10) + 1)) : Int).toNat) ++ x3)) else (none)) else (none)) else (none)) else (none)) else (if 0 ≤ x0 then (if x0 ≤ (wrap64 (x0 + 1)) then (if (wrap64 (x0 + 1)) ≤ 10 then (if ((⟨#[48, 49, 50, 51, 52, 53, 54, 55, 56, 57]⟩ : ByteArray).extract (x0 : Int).toNat ((wrap64 (x0 + 1)) : Int).toNat).size + x3.size ≤ 9223372036854775807 then (some (((⟨#[48, 49, 50, 51, 52, 53, 54, 55, 56, 57]⟩ : ByteArray).extract (x0 : Int).toNat ((wrap64 (x0 + 1)) : Int).toNat) ++ x3)) else (none)) else (none)) else (none)) else (none))
def cubbyref08_Digits.f (k : Nat) (a0 : Int) : Option (ByteArray) := cubbyref08_Digits.l0 k a0 (⟨#[]⟩ : ByteArray)
set_option maxHeartbeats 8000000 in
set_option maxRecDepth 100000 in
theorem cubbyref08_Digits.calls (k : Nat) (a0 : Int) (r : ByteArray) (w : World) (h : cubbyref08_Digits.f k a0 = some r) :
 Calls Tryz.prog 37 #[.int .i64 a0] w fun e w' => e = .returned (.string r) ∧ Drawn0 w w' := by
 have H := h; clear h; unfold cubbyref08_Digits.f at H
 have H' := zA H
 clear H
 go_enter Tryz.func37, Tryz.ntmps37
 go_wp2
 go_loopg [0, 3] k (fun kq v0 v3 w' => ∃ (x0_1 : Int) (x3_1 : ByteArray), v0 = .int .i64 x0_1 ∧ v3 = .string x3_1 ∧ Aside0 (cubbyref08_Digits.l0 kq x0_1 x3_1 = some r) ∧ Aside0 (kq ≤ k) ∧ Drawn0 w w')
 case atStart => exact ⟨(a0), ((⟨#[]⟩ : ByteArray)), qT, qT, H', ⟨Nat.le_refl _⟩, qD⟩
 case round =>
  clear H'
  obtain ⟨x0_1, x3_1, rfl, rfl, HA, HK1, ⟨m1, rfl⟩⟩ := hrel
  cases gk with
  | zero => exact absurd HA.out (by simp [cubbyref08_Digits.l0])
  | succ k1 =>
   have H := HA.out
   clear HA
   simp only [cubbyref08_Digits.l0] at H
   by_cases c2 : x0_1 > 9
   ·rw [zC c2] at H
    have c2b0 : decide (9 < x0_1) = true := zF c2
    clear c2
    obtain ⟨ji3, hji3⟩ : ∃ j_ : Int, (Int.tmod x0_1 10) = j_ := ⟨_, rfl⟩
    replace H : (if 0 ≤ (ji3) then (if (ji3) ≤ (wrap64 ((ji3) + 1)) then (if (wrap64 ((ji3) + 1)) ≤ 10 then (if ((⟨#[48, 49, 50, 51, 52, 53, 54, 55, 56, 57]⟩ : ByteArray).extract ((ji3) : Int).toNat ((wrap64 ((ji3) + 1)) : Int).toNat).size + x3_1.size ≤ 9223372036854775807 then (cubbyref08_Digits.l0 k1 (wrap64 (Int.tdiv x0_1 10)) (((⟨#[48, 49, 50, 51, 52, 53, 54, 55, 56, 57]⟩ : ByteArray).extract ((ji3) : Int).toNat ((wrap64 ((ji3) + 1)) : Int).toNat) ++ x3_1)) else (none)) else (none)) else (none)) else (none)) = some r := by first | (rw [hji3] at H; exact H) | (simp only [hji3] at H ⊢; exact H)
    by_cases c4 : 0 ≤ (ji3)
    ·rw [zC c4] at H
     have c4b0 := eq_true c4
     have c4b1 := zF c4
     clear c4
     by_cases c5 : (ji3) ≤ (wrap64 ((ji3) + 1))
     ·rw [zC c5] at H
      have c5b0 := eq_true c5
      have c5b1 := zF c5
      by_cases c6 : (wrap64 ((ji3) + 1)) ≤ 10
      ·rw [zC c6] at H
       have c6b0 := eq_true c6
       have c6b1 := zF c6
       by_cases c7 : ((⟨#[48, 49, 50, 51, 52, 53, 54, 55, 56, 57]⟩ : ByteArray).extract ((ji3) : Int).toNat ((wrap64 ((ji3) + 1)) : Int).toNat).size + x3_1.size ≤ 9223372036854775807
       ·rw [zC c7] at H
        have c7b0 := eq_true c7
        have c7b1 := zF c7
        try have c7b2 : (9223372036854775807 < ((⟨#[48, 49, 50, 51, 52, 53, 54, 55, 56, 57]⟩ : ByteArray).extract ((ji3) : Int).toNat ((wrap64 ((ji3) + 1)) : Int).toNat).size + x3_1.size) = False := eq_false (Nat.not_lt.2 c7)
        have H' := zA H
        clear H
        go_wp2
        go_roundg k1
        case measure => have := HK1.out; omega
        case rel => exact ⟨(wrap64 (Int.tdiv x0_1 10)), (((⟨#[48, 49, 50, 51, 52, 53, 54, 55, 56, 57]⟩ : ByteArray).extract ((ji3) : Int).toNat ((wrap64 ((ji3) + 1)) : Int).toNat) ++ x3_1), qT, (by first | rfl | (simp; done) | (simp only [← hji3] <;> (first | rfl | simp)) | (simp [*]; done)), H', ⟨by have := HK1.out; omega⟩, qD⟩
       ·rw [zD c7] at H
        exact absurd H (by simp)
      ·rw [zD c6] at H
       exact absurd H (by simp)
     ·rw [zD c5] at H
      exact absurd H (by simp)
    ·rw [zD c4] at H
     exact absurd H (by simp)
   ·rw [zD c2] at H
    have c2b0 : decide (9 < x0_1) = false := zG c2
    clear c2
    by_cases c8 : 0 ≤ x0_1
    ·rw [zC c8] at H
     have c8b0 := eq_true c8
     have c8b1 := zF c8
     clear c8
     by_cases c9 : x0_1 ≤ (wrap64 (x0_1 + 1))
     ·rw [zC c9] at H
      have c9b0 := eq_true c9
      have c9b1 := zF c9
      by_cases c10 : (wrap64 (x0_1 + 1)) ≤ 10
      ·rw [zC c10] at H
       have c10b0 := eq_true c10
       have c10b1 := zF c10
       by_cases c11 : ((⟨#[48, 49, 50, 51, 52, 53, 54, 55, 56, 57]⟩ : ByteArray).extract (x0_1 : Int).toNat ((wrap64 (x0_1 + 1)) : Int).toNat).size + x3_1.size ≤ 9223372036854775807
       ·rw [zC c11] at H
        have c11b0 := eq_true c11
        have c11b1 := zF c11
        try have c11b2 : (9223372036854775807 < ((⟨#[48, 49, 50, 51, 52, 53, 54, 55, 56, 57]⟩ : ByteArray).extract (x0_1 : Int).toNat ((wrap64 (x0_1 + 1)) : Int).toNat).size + x3_1.size) = False := eq_false (Nat.not_lt.2 c11)
        obtain rfl := zI H
        go_wp2
        go_ret
        exact ⟨by first | rfl | (simp; done) | (simp [*]; done), qD⟩
       ·rw [zD c11] at H
        exact absurd H (by simp)
      ·rw [zD c10] at H
       exact absurd H (by simp)
     ·rw [zD c9] at H
      exact absurd H (by simp)
    ·rw [zD c8] at H
     exact absurd H (by simp)

mutual
def cubbyref08_line.j0 : Nat → ByteArray → ByteArray → Bool → Int → List Int → Bool → Option (ByteArray × Int)
 | 0, _, _, _, _, _, _ => none
 | k + 1, x0, x1, x2, x3, x4, x23 => if x23 = true then (some ((⟨#[]⟩ : ByteArray), 80)) else (cubbyref08_line.l0 k x1 x2 x3 x4 x0 0)
def cubbyref08_line.l0 : Nat → ByteArray → Bool → Int → List Int → ByteArray → Int → Option (ByteArray × Int)
 | 0, _, _, _, _, _, _ => none
 | k + 1, x1, x2, x3, x4, x12, x13 => if x13 ≤ (x4.length : Int) then (if x2 = true then (cubbyref08_line.j2 k x1 x2 x3 x4 x12 x13 (x13 == x3)) else (cubbyref08_line.j2 k x1 x2 x3 x4 x12 x13 false)) else (if x12.size + 1 ≤ 9223372036854775807 then (some (x12 ++ (⟨#[10]⟩ : ByteArray), 0)) else (none))
def cubbyref08_line.j2 : Nat → ByteArray → Bool → Int → List Int → ByteArray → Int → Bool → Option (ByteArray × Int)
 | 0, _, _, _, _, _, _, _ => none
 | k + 1, x1, x2, x3, x4, x12, x13, x36 => if x36 = true then (if x12.size + 1 ≤ 9223372036854775807 then (if (x12 ++ (⟨#[32]⟩ : ByteArray)).size + x1.size ≤ 9223372036854775807 then (cubbyref08_line.j3 k x1 x2 x3 x4 ((x12 ++ (⟨#[32]⟩ : ByteArray)) ++ x1) x13) else (none)) else (none)) else (cubbyref08_line.j3 k x1 x2 x3 x4 x12 x13)
def cubbyref08_line.j3 : Nat → ByteArray → Bool → Int → List Int → ByteArray → Int → Option (ByteArray × Int)
 | 0, _, _, _, _, _, _ => none
 | k + 1, x1, x2, x3, x4, x12, x13 => if x13 < (x4.length : Int) then (if 0 ≤ x13 then (if (rd x4 x13) < 0 then (some ((⟨#[]⟩ : ByteArray), 81)) else (if (rd x4 x13) > 2147483647 then (some ((⟨#[]⟩ : ByteArray), 81)) else (if x12.size + 1 ≤ 9223372036854775807 then ((cubbyref08_Digits.f k (rd x4 x13)).bind fun t115 => (if (x12 ++ (⟨#[32]⟩ : ByteArray)).size + t115.size ≤ 9223372036854775807 then (cubbyref08_line.l0 k x1 x2 x3 x4 ((x12 ++ (⟨#[32]⟩ : ByteArray)) ++ t115) (wrap64 (x13 + 1))) else (none))) else (none)))) else (none)) else (cubbyref08_line.l0 k x1 x2 x3 x4 x12 (wrap64 (x13 + 1)))
end
def cubbyref08_line.f (k : Nat) (a0 : ByteArray) (a1 : ByteArray) (a2 : Bool) (a3 : Int) (l4 : List Int) : Option (ByteArray × Int) := if a0.toList = ([] : List UInt8) then (cubbyref08_line.j0 k a0 a1 a2 a3 l4 true) else (if a2 = true then ((cubbyref07_Name.f k a1).bind fun t111 => (cubbyref08_line.j0 k a0 a1 a2 a3 l4 (!t111))) else (cubbyref08_line.j0 k a0 a1 a2 a3 l4 false))
set_option maxHeartbeats 8000000 in
set_option maxRecDepth 100000 in
theorem cubbyref08_line.calls (k : Nat) (a0 : ByteArray) (a1 : ByteArray) (a2 : Bool) (a3 : Int) (A4 : Option Addr) (c4 : Nat) (l4 : List Int) (r1 : ByteArray) (r2 : Int) (w : World) (hr4 : Kd.C (Kd.int .i64) w A4 l4.length l4) (hc4 : l4.length ≤ c4) (h : cubbyref08_line.f k a0 a1 a2 a3 l4 = some (r1, r2)) :
 Calls Tryz.prog 20 #[.string a0, .string a1, .bool a2, .int .i64 a3, .slice A4 l4.length c4] w fun e w' => e = .returned (.tuple #[.string r1, .int .i64 r2]) ∧ Drawn0 w w' := by
 have HR4 := zA hr4
 have HC4 := zA hc4
 clear hr4 hc4
 have H := h; clear h; unfold cubbyref08_line.f at H
 have HC6 := zA H
 clear H
 go_enter Tryz.func20, Tryz.ntmps20
 go_upto_region 1 with (fail)
 go_cut [23] (fun v23 wc => ∃ (kq : Nat) (x23_5 : Bool), v23 = .bool x23_5 ∧ Aside0 (cubbyref08_line.j0 kq a0 a1 a2 a3 l4 x23_5 = some (r1, r2)) ∧ Aside0 (kq ≤ k) ∧ Drawn0 w wc)
 case first =>
  have H := HC6.out
  clear HC6
  by_cases c7 : a0.toList = ([] : List UInt8)
  ·rw [zC c7] at H
   obtain ⟨c7b0, c7b1⟩ := qe c7; clear c7
   (first | rw [c7b0] | (simp only [i64_w, i32_w]; rw [c7b0]) | skip)
   have H' := zA H
   clear H
   go_wp2
   go_meet
   case rel => exact ⟨_, (true), qT, H', ⟨qO⟩, qD⟩
  ·rw [zD c7] at H
   obtain ⟨c7b0, c7b1⟩ := qn c7
   (first | rw [c7b0] | (simp only [i64_w, i32_w]; rw [c7b0]) | skip)
   by_cases c8 : a2 = true
   ·subst c8
    have H1 : ((cubbyref07_Name.f k a1).bind fun t111 => (cubbyref08_line.j0 k a0 a1 true a3 l4 (!t111))) = some (r1, r2) := by rw [zC rfl] at H; exact H
    clear H
    have H := H1
    clear H1
    replace H := qb H; obtain ⟨t111, A9, H⟩ := H
    have H' := zA H
    clear H
    go_wp2_with (first | (go_at_call 22; (with_reducible refine (cubbyref07_Name.calls k a1 t111 _ A9.out).mono ?_); (try clear A9); rintro e w' ⟨rfl, ⟨nd, rfl⟩⟩))
    go_meet
    case rel => exact ⟨_, (!t111), qT, H', ⟨qO⟩, qD⟩
   ·replace c8 := Bool.eq_false_iff.mpr c8
    subst c8
    have H1 : (cubbyref08_line.j0 k a0 a1 false a3 l4 false) = some (r1, r2) := by rw [zD (show ¬ (false = true) by decide)] at H; exact H
    clear H
    have H := H1
    clear H1
    have H' := zA H
    clear H
    go_wp2
    go_meet
    case rel => exact ⟨_, (false), qT, H', ⟨qO⟩, qD⟩
 case rest =>
  clear HC6
  try clear c2; try clear p2; try clear c4; try clear c7; try clear c7b0 c7b1; try clear c8
  obtain ⟨kq, x23_5, rfl, HA, HJ5, ⟨mc5, rfl⟩⟩ := hcut
  cases kq with
  | zero => exact absurd HA.out (by simp [cubbyref08_line.j0])
  | succ kj5 =>
   have H := HA.out
   clear HA
   simp only [cubbyref08_line.j0] at H
   by_cases c10 : x23_5 = true
   ·subst c10
    have H1 : (some ((⟨#[]⟩ : ByteArray), 80)) = some (r1, r2) := by rw [zC rfl] at H; exact H
    clear H
    have H := H1
    clear H1
    simp only [Option.some.injEq, Prod.mk.injEq] at H
    obtain ⟨rfl, rfl⟩ := H
    go_wp2
    go_ret2
    exact ⟨by first | rfl | (simp; done) | (simp [*]; done), qD⟩
   ·replace c10 := Bool.eq_false_iff.mpr c10
    subst c10
    have H1 : (cubbyref08_line.l0 kj5 a1 a2 a3 l4 a0 0) = some (r1, r2) := by rw [zD (show ¬ (false = true) by decide)] at H; exact H
    clear H
    have H := H1
    clear H1
    have H' := zA H
    clear H
    go_wp2
    go_loopg [12, 13] kj5 (fun kq v12 v13 w' => ∃ (x12_2 : ByteArray) (x13_2 : Int), v12 = .string x12_2 ∧ v13 = .int .i64 x13_2 ∧ Aside0 (cubbyref08_line.l0 kq a1 a2 a3 l4 x12_2 x13_2 = some (r1, r2)) ∧ Aside0 (kq ≤ kj5) ∧ Drawn0 w w')
    case atStart => exact ⟨(a0), (0), qT, qT, H', ⟨Nat.le_refl _⟩, qD⟩
    case round =>
     clear H'
     try clear c1; try clear c2; try clear p2; try clear c4; try clear c5; try clear c7; try clear c7b0 c7b1; try clear c8; try clear c10
     obtain ⟨x12_2, x13_2, rfl, rfl, HA, HK2, ⟨m2, rfl⟩⟩ := hrel
     cases gk with
     | zero => exact absurd HA.out (by simp [cubbyref08_line.l0])
     | succ k2 =>
      have H := HA.out
      clear HA
      simp only [cubbyref08_line.l0] at H
      by_cases c11 : x13_2 ≤ (l4.length : Int)
      ·rw [zC c11] at H
       have c11b0 := zF c11
       clear c11
       have HC12 := zA H
       clear H
       go_upto_region 7 with (fail)
       go_cut [36] (fun v36 wc => ∃ (kq : Nat) (x36_11 : Bool), v36 = .bool x36_11 ∧ Aside0 (cubbyref08_line.j2 kq a1 a2 a3 l4 x12_2 x13_2 x36_11 = some (r1, r2)) ∧ Aside0 (kq ≤ k2) ∧ Drawn0 w wc)
       case first =>
        have H := HC12.out
        clear HC12
        by_cases c13 : a2 = true
        ·subst c13
         have H1 : (cubbyref08_line.j2 k2 a1 true a3 l4 x12_2 x13_2 (x13_2 == a3)) = some (r1, r2) := by rw [zC rfl] at H; exact H
         clear H
         have H := H1
         clear H1
         have H' := zA H
         clear H
         go_wp2
         go_meet
         case rel => exact ⟨_, ((x13_2 == a3)), qT, H', ⟨by have := HJ5.out; have := HK2.out; first | omega | exact Nat.le_refl _⟩, qD⟩
        ·replace c13 := Bool.eq_false_iff.mpr c13
         subst c13
         have H1 : (cubbyref08_line.j2 k2 a1 false a3 l4 x12_2 x13_2 false) = some (r1, r2) := by rw [zD (show ¬ (false = true) by decide)] at H; exact H
         clear H
         have H := H1
         clear H1
         have H' := zA H
         clear H
         go_wp2
         go_meet
         case rel => exact ⟨_, (false), qT, H', ⟨by have := HJ5.out; have := HK2.out; first | omega | exact Nat.le_refl _⟩, qD⟩
       case rest =>
        clear HC12
        try clear c1; try clear c2; try clear p2; try clear c4; try clear c5; try clear c7; try clear c7b0 c7b1; try clear c8; try clear c10; try clear c11b0; try clear c13
        obtain ⟨kq, x36_11, rfl, HA, HJ11, ⟨mc11, rfl⟩⟩ := hcut
        cases kq with
        | zero => exact absurd HA.out (by simp [cubbyref08_line.j2])
        | succ kj11 =>
         have H := HA.out
         clear HA
         simp only [cubbyref08_line.j2] at H
         have HC14 := zA H
         clear H
         go_upto_if 36 with (fail)
         go_cut [12] (fun v12 wc => ∃ (kq : Nat) (x12_13 : ByteArray), v12 = .string x12_13 ∧ Aside0 (cubbyref08_line.j3 kq a1 a2 a3 l4 x12_13 x13_2 = some (r1, r2)) ∧ Aside0 (kq ≤ kj11) ∧ Drawn0 w wc)
         case first =>
          have H := HC14.out
          clear HC14
          by_cases c15 : x36_11 = true
          ·subst c15
           have H1 : (if x12_2.size + 1 ≤ 9223372036854775807 then (if (x12_2 ++ (⟨#[32]⟩ : ByteArray)).size + a1.size ≤ 9223372036854775807 then (cubbyref08_line.j3 kj11 a1 a2 a3 l4 ((x12_2 ++ (⟨#[32]⟩ : ByteArray)) ++ a1) x13_2) else (none)) else (none)) = some (r1, r2) := by rw [zC rfl] at H; exact H
           clear H
           have H := H1
           clear H1
           by_cases c16 : x12_2.size + 1 ≤ 9223372036854775807
           ·rw [zC c16] at H
            have c16b0 := eq_true c16
            have c16b1 := zF c16
            try have c16b2 : (9223372036854775807 < x12_2.size + 1) = False := eq_false (Nat.not_lt.2 c16)
            by_cases c17 : (x12_2 ++ (⟨#[32]⟩ : ByteArray)).size + a1.size ≤ 9223372036854775807
            ·rw [zC c17] at H
             have c17b0 := eq_true c17
             have c17z : (9223372036854775807 < x12_2.size + 1 + a1.size) = False := eq_false (by have h_ := c17; simp only [ByteArray.size_append] at h_; exact Nat.not_lt.2 h_)
             have c17b1 := zF c17
             try have c17b2 : (9223372036854775807 < (x12_2 ++ (⟨#[32]⟩ : ByteArray)).size + a1.size) = False := eq_false (Nat.not_lt.2 c17)
             have H' := zA H
             clear H
             go_wp2
             go_meet
             case rel => exact ⟨_, ((x12_2 ++ (⟨#[32]⟩ : ByteArray)) ++ a1), qT, H', ⟨by have := HJ5.out; have := HK2.out; have := HJ11.out; first | omega | exact Nat.le_refl _⟩, qD⟩
            ·rw [zD c17] at H
             exact absurd H (by simp)
           ·rw [zD c16] at H
            exact absurd H (by simp)
          ·replace c15 := Bool.eq_false_iff.mpr c15
           subst c15
           have H1 : (cubbyref08_line.j3 kj11 a1 a2 a3 l4 x12_2 x13_2) = some (r1, r2) := by rw [zD (show ¬ (false = true) by decide)] at H; exact H
           clear H
           have H := H1
           clear H1
           have H' := zA H
           clear H
           go_wp2
           go_meet
           case rel => exact ⟨_, (x12_2), qT, H', ⟨by have := HJ5.out; have := HK2.out; have := HJ11.out; first | omega | exact Nat.le_refl _⟩, qD⟩
         case rest =>
          clear HC14
          try clear c1; try clear c2; try clear p2; try clear c4; try clear c5; try clear c7; try clear c7b0 c7b1; try clear c8; try clear c10; try clear c11b0; try clear c13; try clear c15; try clear c16; try clear c16b0 c16b1 c16b2; try clear c17; try clear c17b0 c17b1 c17b2
          obtain ⟨kq, x12_13, rfl, HA, HJ13, ⟨mc13, rfl⟩⟩ := hcut
          cases kq with
          | zero => exact absurd HA.out (by simp [cubbyref08_line.j3])
          | succ kj13 =>
           have H := HA.out
           clear HA
           simp only [cubbyref08_line.j3] at H
           by_cases c18 : x13_2 < (l4.length : Int)
           ·rw [zC c18] at H
            have c18b0 := zF c18
            clear c18
            by_cases c19 : 0 ≤ x13_2
            ·rw [zC c19] at H
             have c19b0 := zF c19
             clear c19
             by_cases c20 : (rd l4 x13_2) < 0
             ·rw [zC c20] at H
              have c20b0 := zF c20
              clear c20
              simp only [Option.some.injEq, Prod.mk.injEq] at H
              obtain ⟨rfl, rfl⟩ := H
              have p112 : 0 ≤ (x13_2 : Int) := zB qA
              have q112 : x13_2 < (l4.length : Int) := zB qA
              obtain ⟨ad112, e112, hx112_0⟩ := Kd.at_int HR4.out x13_2 p112 q112
              cases e112
              replace p112 := eq_true p112
              replace q112 := eq_true q112
              go_wp2
              go_ret2
              exact ⟨by first | rfl | (simp; done) | (simp [*]; done), qD⟩
             ·rw [zD c20] at H
              have c20b0 := zG c20
              clear c20
              by_cases c21 : (rd l4 x13_2) > 2147483647
              ·rw [zC c21] at H
               have c21b0 : decide (2147483647 < (rd l4 x13_2)) = true := zF c21
               clear c21
               simp only [Option.some.injEq, Prod.mk.injEq] at H
               obtain ⟨rfl, rfl⟩ := H
               have p112 : 0 ≤ (x13_2 : Int) := zB qA
               have q112 : x13_2 < (l4.length : Int) := zB qA
               obtain ⟨ad112, e112, hx112_0⟩ := Kd.at_int HR4.out x13_2 p112 q112
               cases e112
               replace p112 := eq_true p112
               replace q112 := eq_true q112
               have p113 : 0 ≤ (x13_2 : Int) := zB qA
               have q113 : x13_2 < (l4.length : Int) := zB qA
               obtain ⟨ad113, e113, hx113_0⟩ := Kd.at_int HR4.out x13_2 p113 q113
               obtain rfl : ad112 = ad113 := (by injection e113)
               replace p113 := eq_true p113
               replace q113 := eq_true q113
               go_wp2
               go_ret2
               exact ⟨by first | rfl | (simp; done) | (simp [*]; done), qD⟩
              ·rw [zD c21] at H
               have c21b0 : decide (2147483647 < (rd l4 x13_2)) = false := zG c21
               clear c21
               by_cases c22 : x12_13.size + 1 ≤ 9223372036854775807
               ·rw [zC c22] at H
                have c22b0 := eq_true c22
                have c22b1 := zF c22
                try have c22b2 : (9223372036854775807 < x12_13.size + 1) = False := eq_false (Nat.not_lt.2 c22)
                replace H := qb H; obtain ⟨t115, A23, H⟩ := H
                by_cases c24 : (x12_13 ++ (⟨#[32]⟩ : ByteArray)).size + t115.size ≤ 9223372036854775807
                ·rw [zC c24] at H
                 have c24b0 := eq_true c24
                 have c24z : (9223372036854775807 < x12_13.size + 1 + t115.size) = False := eq_false (by have h_ := c24; simp only [ByteArray.size_append] at h_; exact Nat.not_lt.2 h_)
                 have c24b1 := zF c24
                 try have c24b2 : (9223372036854775807 < (x12_13 ++ (⟨#[32]⟩ : ByteArray)).size + t115.size) = False := eq_false (Nat.not_lt.2 c24)
                 have H' := zA H
                 clear H
                 have p112 : 0 ≤ (x13_2 : Int) := zB qA
                 have q112 : x13_2 < (l4.length : Int) := zB qA
                 obtain ⟨ad112, e112, hx112_0⟩ := Kd.at_int HR4.out x13_2 p112 q112
                 cases e112
                 replace p112 := eq_true p112
                 replace q112 := eq_true q112
                 have p113 : 0 ≤ (x13_2 : Int) := zB qA
                 have q113 : x13_2 < (l4.length : Int) := zB qA
                 obtain ⟨ad113, e113, hx113_0⟩ := Kd.at_int HR4.out x13_2 p113 q113
                 obtain rfl : ad112 = ad113 := (by injection e113)
                 replace p113 := eq_true p113
                 replace q113 := eq_true q113
                 have p114 : 0 ≤ (x13_2 : Int) := zB qA
                 have q114 : x13_2 < (l4.length : Int) := zB qA
                 obtain ⟨ad114, e114, hx114_0⟩ := Kd.at_int HR4.out x13_2 p114 q114
                 obtain rfl : ad112 = ad114 := (by injection e114)
                 replace p114 := eq_true p114
                 replace q114 := eq_true q114
                 go_wp2_with (first | ((with_reducible refine gate_callee (f := 37) rfl ?_); refine goesL_ (some 63) rfl rfl Tryz.func37 (by kernel_rfl) rfl #[.int .i64 (rd l4 x13_2)] rfl qL ?_; (with_reducible refine (cubbyref08_Digits.calls kj13 (rd l4 x13_2) t115 _ A23.out).mono ?_); rintro e w' ⟨rfl, ⟨nd, rfl⟩⟩; refine ⟨_, rfl, ?_⟩))
                 go_roundg kj13
                 case measure => have := HJ5.out; have := HK2.out; have := HJ11.out; have := HJ13.out; omega
                 case rel => exact ⟨((x12_13 ++ (⟨#[32]⟩ : ByteArray)) ++ t115), (wrap64 (x13_2 + 1)), qT, qT, H', ⟨by have := HJ5.out; have := HK2.out; have := HJ11.out; have := HJ13.out; omega⟩, qD⟩
                ·rw [zD c24] at H
                 exact absurd H (by simp)
               ·rw [zD c22] at H
                exact absurd H (by simp)
            ·rw [zD c19] at H
             exact absurd H (by simp)
           ·rw [zD c18] at H
            have c18b0 := zG c18
            clear c18
            have H' := zA H
            clear H
            go_wp2
            go_roundg kj13
            case measure => have := HJ5.out; have := HK2.out; have := HJ11.out; have := HJ13.out; omega
            case rel => exact ⟨(x12_13), (wrap64 (x13_2 + 1)), qT, qT, H', ⟨by have := HJ5.out; have := HK2.out; have := HJ11.out; have := HJ13.out; omega⟩, qD⟩
      ·rw [zD c11] at H
       have c11b0 := zG c11
       clear c11
       by_cases c25 : x12_2.size + 1 ≤ 9223372036854775807
       ·rw [zC c25] at H
        have c25b0 := eq_true c25
        have c25b1 := zF c25
        try have c25b2 : (9223372036854775807 < x12_2.size + 1) = False := eq_false (Nat.not_lt.2 c25)
        simp only [Option.some.injEq, Prod.mk.injEq] at H
        obtain ⟨rfl, rfl⟩ := H
        go_wp2
        go_ret2
        exact ⟨by first | rfl | (simp; done) | (simp [*]; done), qD⟩
       ·rw [zD c25] at H
        exact absurd H (by simp)

mutual
def cubbyref08_numbers.j0 : Nat → Bool → List Int → Int → Bool → Int → Int → Int → Int → ByteArray → List Int → Option (List Int)
 | 0, _, _, _, _, _, _, _, _, _, _ => none
 | k + 1, x1, x5, x8, x9, x121000, x121001, x121002, x121003, x121004, x121005 => if x9 = true then ((some (([x121001, x121002, x121003] : List Int) : List Int)).bind fun y124 => (if x5.length + y124.length < 17592186044416 then (some (x5 ++ y124)) else (none))) else (if x8 = 9 then ((some (([x121002, x121003] : List Int) : List Int)).bind fun y130 => (if x5.length + y130.length < 17592186044416 then (some (x5 ++ y130)) else (none))) else (if x8 = 10 then (cubbyref08_numbers.j1 k x1 x5 x8 (x8 == 10) x121000 x121001 x121002 x121003 x121004 x121005) else (if x8 = 12 then (cubbyref08_numbers.j1 k x1 x5 x8 (x8 == 12) x121000 x121001 x121002 x121003 x121004 x121005) else (cubbyref08_numbers.j1 k x1 x5 x8 (x8 == 14) x121000 x121001 x121002 x121003 x121004 x121005))))
def cubbyref08_numbers.j1 : Nat → Bool → List Int → Int → Bool → Int → Int → Int → Int → ByteArray → List Int → Option (List Int)
 | 0, _, _, _, _, _, _, _, _, _, _ => none
 | k + 1, x1, x5, x8, x33, x121000, x121001, x121002, x121003, x121004, x121005 => if x33 = true then (if x5.length < 17592186044416 then (some (x5 ++ [x121002])) else (none)) else (if x8 = 13 then ((some (([x121002, x121003, x121001] : List Int) : List Int)).bind fun y139 => (if x5.length + y139.length < 17592186044416 then (some (x5 ++ y139)) else (none))) else (if x8 = 11 then (if x5.length < 17592186044416 then ((some (x5 ++ [x121001] : List Int)).bind fun y145 => (if x1 = true then (if y145.length < 17592186044416 then (some (y145 ++ [x121002])) else (none)) else (if y145.length + x121005.length < 17592186044416 then (some (y145 ++ x121005)) else (none)))) else (none)) else ((some (([x121001, x121002] : List Int) : List Int)).bind fun y154 => (if x5.length + y154.length < 17592186044416 then (some (x5 ++ y154)) else (none)))))
end
def cubbyref08_numbers.f (k : Nat) (a0_0 : Int) (a0_1 : Int) (a0_2 : Int) (a0_3 : Int) (a0_4 : ByteArray) (l0_5 : List Int) (a1 : Bool) : Option (List Int) := (some (([] : List Int) : List Int)).bind fun y121 => (if a0_0 = 3 then (cubbyref08_numbers.j0 k a1 y121 a0_0 (a0_0 == 3) a0_0 a0_1 a0_2 a0_3 a0_4 l0_5) else (if a0_0 = 4 then (cubbyref08_numbers.j0 k a1 y121 a0_0 (a0_0 == 4) a0_0 a0_1 a0_2 a0_3 a0_4 l0_5) else (if a0_0 = 5 then (cubbyref08_numbers.j0 k a1 y121 a0_0 (a0_0 == 5) a0_0 a0_1 a0_2 a0_3 a0_4 l0_5) else (if a0_0 = 6 then (cubbyref08_numbers.j0 k a1 y121 a0_0 (a0_0 == 6) a0_0 a0_1 a0_2 a0_3 a0_4 l0_5) else (cubbyref08_numbers.j0 k a1 y121 a0_0 (a0_0 == 7) a0_0 a0_1 a0_2 a0_3 a0_4 l0_5)))))
set_option maxHeartbeats 8000000 in
set_option maxRecDepth 100000 in
theorem cubbyref08_numbers.calls (k : Nat) (a0_0 : Int) (a0_1 : Int) (a0_2 : Int) (a0_3 : Int) (a0_4 : ByteArray) (A0_5 : Option Addr) (c0_5 : Nat) (l0_5 : List Int) (a1 : Bool) (r : List Int) (w : World) (hr0_5 : Kd.C (Kd.int .i64) w A0_5 l0_5.length l0_5) (hc0_5 : l0_5.length ≤ c0_5) (h : cubbyref08_numbers.f k a0_0 a0_1 a0_2 a0_3 a0_4 l0_5 a1 = some r) :
 Calls Tryz.prog 39 #[.agg #[.int .i64 a0_0, .int .i64 a0_1, .int .i64 a0_2, .int .i64 a0_3, .string a0_4, .slice A0_5 l0_5.length c0_5], .bool a1] w fun e w' => ∃ v0_ : Value, e = .returned (v0_) ∧ Kd.R (Kd.int .i64) 3 w' w.heap.size (fun _ => True) v0_ r ∧ Below w.heap.size w w' := by
 have hu44 := Tryz.underlying44
 have HR0_5 := zA hr0_5
 have HC0_5 := zA hc0_5
 clear hr0_5 hc0_5
 have HB := zA (Below.refl w.heap.size w)
 have H := h; clear h; unfold cubbyref08_numbers.f at H
 obtain ⟨y121, hy121⟩ : ∃ y_ : List Int, y_ = (([] : List Int)) := ⟨_, rfl⟩
 replace H : (if a0_0 = 3 then (cubbyref08_numbers.j0 k a1 y121 a0_0 (a0_0 == 3) a0_0 a0_1 a0_2 a0_3 a0_4 l0_5) else (if a0_0 = 4 then (cubbyref08_numbers.j0 k a1 y121 a0_0 (a0_0 == 4) a0_0 a0_1 a0_2 a0_3 a0_4 l0_5) else (if a0_0 = 5 then (cubbyref08_numbers.j0 k a1 y121 a0_0 (a0_0 == 5) a0_0 a0_1 a0_2 a0_3 a0_4 l0_5) else (if a0_0 = 6 then (cubbyref08_numbers.j0 k a1 y121 a0_0 (a0_0 == 6) a0_0 a0_1 a0_2 a0_3 a0_4 l0_5) else (cubbyref08_numbers.j0 k a1 y121 a0_0 (a0_0 == 7) a0_0 a0_1 a0_2 a0_3 a0_4 l0_5))))) = some r := by (try rw [hy121]); first | with_reducible exact H | exact (zJ _ _).symm.trans H | exact H
 have Ny121 := zA hy121
 clear hy121
 have HC3 := zA H
 clear H
 go_enter Tryz.func39, Tryz.ntmps39
 go_upto_if 9 with (first | ((with_reducible refine gate_dst (N := 2) rfl ?_); refine box_event (by rfl) (N := 2) (by rfl) (cs := #[.int .i64 a0_0, .int .i64 a0_1, .int .i64 a0_2, .int .i64 a0_3, .string a0_4, .slice A0_5 l0_5.length c0_5]) (t := 44) ?hr ?_; (case hr => go_simp <;> rfl); intro gb120 hg w4 hbox hb; have BK120 := zA (hbox); have GW120 := qG hg; have GE120 := GW120; replace HB := qH hb; clear hb hbox hg) | ((with_reducible refine gate_dst (N := 6) rfl ?_); refine Kd.R_lit (Kd.int .i64) _ 3 (by rfl) (N := 6) (by rfl) (xs := ([] : List Int)) (inner := []) (ok := fun _ => True) (okp := fun _ => True) ?hr ?hp (fun _ hk => hk) trivial (Below.refl _ _) (Nat.le_refl _) (by simp) ?_; (case hr => go_simp <;> rfl); (case hp => exact (Reps.none _ _)); intro v122 w5 ho6 hb hg_ hnew_; clear hg_ hnew_; (first | rw [← Ny121.out] at ho6 | (simp only [Int.reduceToNat] at ho6; rw [← Ny121.out] at ho6)); have HO123 := zA (Kd.R_lower ho6 (below_size qB)); replace BK120 := qW BK120 hb; replace HB := qH hb; clear hb ho6; have z7_0 := bk6 BK120.out))
 (try simp only [Act.put, List.setIfInBounds_toArray, List.set_cons_zero, List.set_cons_succ])
 go_cut [9] (fun v9 wc => ∃ (kq : Nat) (x9_2 : Bool), v9 = .bool x9_2 ∧ Aside0 (cubbyref08_numbers.j0 kq a1 y121 a0_0 x9_2 a0_0 a0_1 a0_2 a0_3 a0_4 l0_5 = some r) ∧ Aside0 (kq ≤ k) ∧ Aside0 (Kd.R (Kd.int .i64) 3 wc w.heap.size (fun _ => True) v122 y121) ∧ Aside0 (wc.heap[gb120]? = some (.cells #[.int .i64 a0_0, .int .i64 a0_1, .int .i64 a0_2, .int .i64 a0_3, .string a0_4, (.slice A0_5 l0_5.length c0_5)] 44 (0, 0))) ∧ Aside0 (Below w.heap.size w wc))
 case first =>
  have H := HC3.out
  clear HC3
  by_cases c8 : a0_0 = 3
  ·rw [zC c8] at H
   obtain ⟨c8b0, c8b1⟩ := qe c8; clear c8
   (first | rw [c8b0] | (simp only [i64_w, i32_w]; rw [c8b0]) | skip)
   have H' := zA H
   clear H
   go_wp2
   go_meet
   case rel => exact ⟨_, ((a0_0 == 3)), qT, H', ⟨qO⟩, ⟨qR HO123.out⟩, ⟨qK BK120.out⟩, ⟨qB⟩⟩
  ·rw [zD c8] at H
   obtain ⟨c8b0, c8b1⟩ := qn c8
   (first | rw [c8b0] | (simp only [i64_w, i32_w]; rw [c8b0]) | skip)
   by_cases c9 : a0_0 = 4
   ·rw [zC c9] at H
    obtain ⟨c9b0, c9b1⟩ := qe c9; clear c9
    have H' := zA H
    clear H
    go_wp2
    go_meet
    case rel => exact ⟨_, ((a0_0 == 4)), qT, H', ⟨qO⟩, ⟨qR HO123.out⟩, ⟨qK BK120.out⟩, ⟨qB⟩⟩
   ·rw [zD c9] at H
    obtain ⟨c9b0, c9b1⟩ := qn c9
    by_cases c10 : a0_0 = 5
    ·rw [zC c10] at H
     obtain ⟨c10b0, c10b1⟩ := qe c10; clear c10
     have H' := zA H
     clear H
     go_wp2
     go_meet
     case rel => exact ⟨_, ((a0_0 == 5)), qT, H', ⟨qO⟩, ⟨qR HO123.out⟩, ⟨qK BK120.out⟩, ⟨qB⟩⟩
    ·rw [zD c10] at H
     obtain ⟨c10b0, c10b1⟩ := qn c10
     by_cases c11 : a0_0 = 6
     ·rw [zC c11] at H
      obtain ⟨c11b0, c11b1⟩ := qe c11; clear c11
      have H' := zA H
      clear H
      go_wp2
      go_meet
      case rel => exact ⟨_, ((a0_0 == 6)), qT, H', ⟨qO⟩, ⟨qR HO123.out⟩, ⟨qK BK120.out⟩, ⟨qB⟩⟩
     ·rw [zD c11] at H
      obtain ⟨c11b0, c11b1⟩ := qn c11
      have H' := zA H
      clear H
      go_wp2
      go_meet
      case rel => exact ⟨_, ((a0_0 == 7)), qT, H', ⟨qO⟩, ⟨qR HO123.out⟩, ⟨qK BK120.out⟩, ⟨qB⟩⟩
 case rest =>
  clear HC3
  try clear c1; try clear p2; try clear c3; try clear c8; try clear c8b0 c8b1; try clear c9; try clear c9b0 c9b1; try clear c10; try clear c10b0 c10b1; try clear c11; try clear c11b0 c11b1; try clear z7_0
  obtain ⟨kq, x9_2, rfl, HA, HJ2, HO_5, BK120, HB⟩ := hcut
  cases kq with
  | zero => exact absurd HA.out (by simp [cubbyref08_numbers.j0])
  | succ kj2 =>
   have H := HA.out
   clear HA
   simp only [cubbyref08_numbers.j0] at H
   by_cases c12 : x9_2 = true
   ·subst c12
    have H1 : ((some (([a0_1, a0_2, a0_3] : List Int) : List Int)).bind fun y124 => (if y121.length + y124.length < 17592186044416 then (some (y121 ++ y124)) else (none))) = some r := by rw [zC rfl] at H; exact H
    clear H
    have H := H1
    clear H1
    obtain ⟨y124, hy124⟩ : ∃ y_ : List Int, y_ = (([a0_1, a0_2, a0_3] : List Int)) := ⟨_, rfl⟩
    replace H : (if y121.length + y124.length < 17592186044416 then (some (y121 ++ y124)) else (none)) = some r := by (try rw [hy124]); first | with_reducible exact H | exact (zJ _ _).symm.trans H | exact H
    have Ny124 := zA hy124
    clear hy124
    by_cases c13 : y121.length + y124.length < 17592186044416
    ·rw [zC c13] at H
     have LMc13 := zA c13
     clear c13
     obtain ⟨y127, hy127⟩ : ∃ y_ : List Int, y_ = (y121 ++ y124) := ⟨_, rfl⟩
     replace H : (some y127) = some r := by (try rw [hy127]); first | with_reducible exact H | exact (zJ _ _).symm.trans H | exact H
     have Ny127 := zA hy127
     clear hy127
     obtain rfl := zI H
     have z14_0 := bk6 BK120.out
     go_wp2_with (first | ((with_reducible refine gate_dst (N := 22) rfl ?_); refine Kd.R_lit (Kd.int .i64) _ 3 (by rfl) (N := 22) (by rfl) (xs := ([a0_1, a0_2, a0_3] : List Int)) (inner := [.int .i64 a0_1, .int .i64 a0_2, .int .i64 a0_3]) (ok := fun _ => True) (okp := fun _ => True) ?hr ?hp (fun _ hk => hk) trivial (Below.refl _ _) (Nat.le_refl _) (by simp) ?_; (case hr => go_simp <;> rfl); (case hp => exact (Reps.one (show Kd.M (Kd.int .i64) _ _ _ a0_1 [.int .i64 a0_1] from rfl) (Reps.one (show Kd.M (Kd.int .i64) _ _ _ a0_2 [.int .i64 a0_2] from rfl) (Reps.one (show Kd.M (Kd.int .i64) _ _ _ a0_3 [.int .i64 a0_3] from rfl) (Reps.none _ _))))); intro v125 w15 ho16 hb hg_ hnew_; clear hg_ hnew_; (first | rw [← Ny124.out] at ho16 | (simp only [Int.reduceToNat] at ho16; rw [← Ny124.out] at ho16)); have HO126 := zA (Kd.R_lower (Kd.R_new' ho16 (Kd.R_lt (qR HO_5.out))) (below_size qB)); replace HO_5 := zA (Kd.R_elder' (qR HO_5.out) (Kd.R_base ho16) hb); replace BK120 := qW BK120 hb; replace HB := qH hb; clear hb ho16; obtain ⟨Ao18, co18, eo18⟩ := Kd.R_slice HO126.out; subst eo18) | ((with_reducible refine gate_builtin (b := .append) (xs := #[.tmp 15, .tmp 22]) rfl ?_); at_builtin; refine Kd.R_append_rows (Kd.int .i64) (w0 := w) w.heap.size rfl (.tmp 15) (.tmp 22) 42 3 (.int .i64 0) 8 rfl Tryz.underlying42 info3 rfl (by decide) (by omega) v122 y121 y124 _ _ _ (fun k_ => some k_ ≠ (.slice Ao18 y124.length co18 : Value).ownBlock) (fun _ => False) rfl rfl ?aO ?aR (fun _ _ h => h) (fun _ h => h.elim) ?aF ?aB ?aS ?aL ?_; (case aR => repeat (first | exact (Kd.R_reads' HO126.out).2.2 | (with_reducible refine Kd.C_alloc ?_ _) | (with_reducible refine Kd.C_drewN ?_ _) | (with_reducible refine Kd.C_drew ?_))); (case aB => exact qB); (case aF => exact (fun k_ hk => Kd.fresh' (Kd.R_lt (qR HO126.out)) k_ hk)); (case aO => exact (by (with_reducible repeat (first | apply Kd.R_alloc | apply Kd.R_drewN | apply Kd.R_drew)); exact Kd.R_mono HO_5.out (fun _ hk => hk.2))); (case aS => exact (below_size qB)); (case aL => have := LMc13.out; omega); intro v128 w17 ho hb hg hat; rw [← Ny127.out] at ho; replace BK120 := zA (blk_grown (qK BK120.out) hg (Kd.R_ne HO_5.out BK120.out (by decide))); replace HO126 := zA (Kd.R_after (ok := (fun _ => True)) (qR HO126.out) hg hat); replace HB := zA (hb); have HO129 := zA (ho); clear HO_5; clear ho hb hg hat))
     go_ret
     exact ⟨_, qE, by (with_reducible repeat (first | apply Kd.R_alloc | apply Kd.R_drewN | apply Kd.R_drew)); exact Kd.R_mono HO129.out (fun _ hk => trivial), qB⟩
    ·rw [zD c13] at H
     exact absurd H (by simp)
   ·replace c12 := Bool.eq_false_iff.mpr c12
    subst c12
    have H1 : (if a0_0 = 9 then ((some (([a0_2, a0_3] : List Int) : List Int)).bind fun y130 => (if y121.length + y130.length < 17592186044416 then (some (y121 ++ y130)) else (none))) else (if a0_0 = 10 then (cubbyref08_numbers.j1 kj2 a1 y121 a0_0 (a0_0 == 10) a0_0 a0_1 a0_2 a0_3 a0_4 l0_5) else (if a0_0 = 12 then (cubbyref08_numbers.j1 kj2 a1 y121 a0_0 (a0_0 == 12) a0_0 a0_1 a0_2 a0_3 a0_4 l0_5) else (cubbyref08_numbers.j1 kj2 a1 y121 a0_0 (a0_0 == 14) a0_0 a0_1 a0_2 a0_3 a0_4 l0_5)))) = some r := by rw [zD (show ¬ (false = true) by decide)] at H; exact H
    clear H
    have H := H1
    clear H1
    by_cases c19 : a0_0 = 9
    ·rw [zC c19] at H
     obtain ⟨c19b0, c19b1⟩ := qe c19; clear c19
     obtain ⟨y130, hy130⟩ : ∃ y_ : List Int, y_ = (([a0_2, a0_3] : List Int)) := ⟨_, rfl⟩
     replace H : (if y121.length + y130.length < 17592186044416 then (some (y121 ++ y130)) else (none)) = some r := by (try rw [hy130]); first | with_reducible exact H | exact (zJ _ _).symm.trans H | exact H
     have Ny130 := zA hy130
     clear hy130
     by_cases c20 : y121.length + y130.length < 17592186044416
     ·rw [zC c20] at H
      have LMc20 := zA c20
      clear c20
      obtain ⟨y133, hy133⟩ : ∃ y_ : List Int, y_ = (y121 ++ y130) := ⟨_, rfl⟩
      replace H : (some y133) = some r := by (try rw [hy133]); first | with_reducible exact H | exact (zJ _ _).symm.trans H | exact H
      have Ny133 := zA hy133
      clear hy133
      obtain rfl := zI H
      have z21_0 := bk6 BK120.out
      go_wp2_with (first | ((with_reducible refine gate_dst (N := 31) rfl ?_); refine Kd.R_lit (Kd.int .i64) _ 3 (by rfl) (N := 31) (by rfl) (xs := ([a0_2, a0_3] : List Int)) (inner := [.int .i64 a0_2, .int .i64 a0_3]) (ok := fun _ => True) (okp := fun _ => True) ?hr ?hp (fun _ hk => hk) trivial (Below.refl _ _) (Nat.le_refl _) (by simp) ?_; (case hr => go_simp <;> rfl); (case hp => exact (Reps.one (show Kd.M (Kd.int .i64) _ _ _ a0_2 [.int .i64 a0_2] from rfl) (Reps.one (show Kd.M (Kd.int .i64) _ _ _ a0_3 [.int .i64 a0_3] from rfl) (Reps.none _ _)))); intro v131 w22 ho23 hb hg_ hnew_; clear hg_ hnew_; (first | rw [← Ny130.out] at ho23 | (simp only [Int.reduceToNat] at ho23; rw [← Ny130.out] at ho23)); have HO132 := zA (Kd.R_lower (Kd.R_new' ho23 (Kd.R_lt (qR HO_5.out))) (below_size qB)); replace HO_5 := zA (Kd.R_elder' (qR HO_5.out) (Kd.R_base ho23) hb); replace BK120 := qW BK120 hb; replace HB := qH hb; clear hb ho23; obtain ⟨Ao25, co25, eo25⟩ := Kd.R_slice HO132.out; subst eo25) | ((with_reducible refine gate_builtin (b := .append) (xs := #[.tmp 26, .tmp 31]) rfl ?_); at_builtin; refine Kd.R_append_rows (Kd.int .i64) (w0 := w) w.heap.size rfl (.tmp 26) (.tmp 31) 42 3 (.int .i64 0) 8 rfl Tryz.underlying42 info3 rfl (by decide) (by omega) v122 y121 y130 _ _ _ (fun k_ => some k_ ≠ (.slice Ao25 y130.length co25 : Value).ownBlock) (fun _ => False) rfl rfl ?aO ?aR (fun _ _ h => h) (fun _ h => h.elim) ?aF ?aB ?aS ?aL ?_; (case aR => repeat (first | exact (Kd.R_reads' HO132.out).2.2 | (with_reducible refine Kd.C_alloc ?_ _) | (with_reducible refine Kd.C_drewN ?_ _) | (with_reducible refine Kd.C_drew ?_))); (case aB => exact qB); (case aF => exact (fun k_ hk => Kd.fresh' (Kd.R_lt (qR HO132.out)) k_ hk)); (case aO => exact (by (with_reducible repeat (first | apply Kd.R_alloc | apply Kd.R_drewN | apply Kd.R_drew)); exact Kd.R_mono HO_5.out (fun _ hk => hk.2))); (case aS => exact (below_size qB)); (case aL => have := LMc20.out; omega); intro v134 w24 ho hb hg hat; rw [← Ny133.out] at ho; replace BK120 := zA (blk_grown (qK BK120.out) hg (Kd.R_ne HO_5.out BK120.out (by decide))); replace HO132 := zA (Kd.R_after (ok := (fun _ => True)) (qR HO132.out) hg hat); replace HB := zA (hb); have HO135 := zA (ho); clear HO_5; clear ho hb hg hat))
      go_ret
      exact ⟨_, qE, by (with_reducible repeat (first | apply Kd.R_alloc | apply Kd.R_drewN | apply Kd.R_drew)); exact Kd.R_mono HO135.out (fun _ hk => trivial), qB⟩
     ·rw [zD c20] at H
      exact absurd H (by simp)
    ·rw [zD c19] at H
     obtain ⟨c19b0, c19b1⟩ := qn c19
     have HC26 := zA H
     clear H
     go_upto_if 33 with (fail)
     go_cut [33] (fun v33 wc => ∃ (kq : Nat) (x33_25 : Bool), v33 = .bool x33_25 ∧ Aside0 (cubbyref08_numbers.j1 kq a1 y121 a0_0 x33_25 a0_0 a0_1 a0_2 a0_3 a0_4 l0_5 = some r) ∧ Aside0 (kq ≤ kj2) ∧ Aside0 (Kd.R (Kd.int .i64) 3 wc w.heap.size (fun _ => True) v122 y121) ∧ Aside0 (wc.heap[gb120]? = some (.cells #[.int .i64 a0_0, .int .i64 a0_1, .int .i64 a0_2, .int .i64 a0_3, .string a0_4, (.slice A0_5 l0_5.length c0_5)] 44 (0, 0))) ∧ Aside0 (Below w.heap.size w wc))
     case first =>
      have H := HC26.out
      clear HC26
      by_cases c27 : a0_0 = 10
      ·rw [zC c27] at H
       obtain ⟨c27b0, c27b1⟩ := qe c27; clear c27
       (first | rw [c27b0] | (simp only [i64_w, i32_w]; rw [c27b0]) | skip)
       have H' := zA H
       clear H
       go_wp2
       go_meet
       case rel => exact ⟨_, ((a0_0 == 10)), qT, H', ⟨by have := HJ2.out; first | omega | exact Nat.le_refl _⟩, ⟨qR HO_5.out⟩, ⟨qK BK120.out⟩, ⟨qB⟩⟩
      ·rw [zD c27] at H
       obtain ⟨c27b0, c27b1⟩ := qn c27
       (first | rw [c27b0] | (simp only [i64_w, i32_w]; rw [c27b0]) | skip)
       by_cases c28 : a0_0 = 12
       ·rw [zC c28] at H
        obtain ⟨c28b0, c28b1⟩ := qe c28; clear c28
        have H' := zA H
        clear H
        go_wp2
        go_meet
        case rel => exact ⟨_, ((a0_0 == 12)), qT, H', ⟨by have := HJ2.out; first | omega | exact Nat.le_refl _⟩, ⟨qR HO_5.out⟩, ⟨qK BK120.out⟩, ⟨qB⟩⟩
       ·rw [zD c28] at H
        obtain ⟨c28b0, c28b1⟩ := qn c28
        have H' := zA H
        clear H
        go_wp2
        go_meet
        case rel => exact ⟨_, ((a0_0 == 14)), qT, H', ⟨by have := HJ2.out; first | omega | exact Nat.le_refl _⟩, ⟨qR HO_5.out⟩, ⟨qK BK120.out⟩, ⟨qB⟩⟩
     case rest =>
      clear HC26
      try clear c1; try clear c2; try clear p2; try clear c3; try clear c8; try clear c8b0 c8b1; try clear c9; try clear c9b0 c9b1; try clear c10; try clear c10b0 c10b1; try clear c11; try clear c11b0 c11b1; try clear c12; try clear c13; try clear c19; try clear c19b0 c19b1; try clear c20; try clear c27; try clear c27b0 c27b1; try clear c28; try clear c28b0 c28b1; try clear z14_0; try clear z21_0; try clear z7_0
      obtain ⟨kq, x33_25, rfl, HA, HJ25, HO_5, BK120, HB⟩ := hcut
      cases kq with
      | zero => exact absurd HA.out (by simp [cubbyref08_numbers.j1])
      | succ kj25 =>
       have H := HA.out
       clear HA
       simp only [cubbyref08_numbers.j1] at H
       by_cases c29 : x33_25 = true
       ·subst c29
        have H1 : (if y121.length < 17592186044416 then (some (y121 ++ [a0_2])) else (none)) = some r := by rw [zC rfl] at H; exact H
        clear H
        have H := H1
        clear H1
        by_cases c30 : y121.length < 17592186044416
        ·rw [zC c30] at H
         have LMc30 := zA c30
         clear c30
         obtain ⟨y136, hy136⟩ : ∃ y_ : List Int, y_ = (y121 ++ [a0_2]) := ⟨_, rfl⟩
         replace H : (some y136) = some r := by (try rw [hy136]); first | with_reducible exact H | exact (zJ _ _).symm.trans H | exact H
         have Ny136 := zA hy136
         clear hy136
         obtain rfl := zI H
         have z31_0 := bk6 BK120.out
         go_wp2_with (first | ((with_reducible refine gate_builtin (b := .append) (xs := #[.tmp 37, .tmp 40]) rfl ?_); at_builtin; refine Kd.R_append (Kd.int .i64) (w0 := w) w.heap.size rfl (.tmp 37) (.tmp 40) 42 3 (.int .i64 0) 8 rfl Tryz.underlying42 info3 rfl (by decide) (by omega) v122 y121 a0_2 [.int .i64 a0_2] (fun _ => True) (fun _ => False) rfl rfl ?aP (fun _ hk => hk.elim) ?aF ?aO ?aB ?aS ?aL ?_; (case aP => exact rfl); (case aB => exact qB); (case aF => exact (fun _ _ => trivial)); (case aO => exact (qR HO_5.out)); (case aS => exact (below_size qB)); (case aL => have := LMc30.out; omega); intro v137 w32 ho hb hg hat; rw [← Ny136.out] at ho; replace BK120 := zA (blk_grown (qK BK120.out) hg (Kd.R_ne HO_5.out BK120.out (by decide))); replace HB := zA (hb); have HO138 := zA (ho); clear HO_5; clear ho hb hg hat))
         go_ret
         exact ⟨_, qE, qR HO138.out, qB⟩
        ·rw [zD c30] at H
         exact absurd H (by simp)
       ·replace c29 := Bool.eq_false_iff.mpr c29
        subst c29
        have H1 : (if a0_0 = 13 then ((some (([a0_2, a0_3, a0_1] : List Int) : List Int)).bind fun y139 => (if y121.length + y139.length < 17592186044416 then (some (y121 ++ y139)) else (none))) else (if a0_0 = 11 then (if y121.length < 17592186044416 then ((some (y121 ++ [a0_1] : List Int)).bind fun y145 => (if a1 = true then (if y145.length < 17592186044416 then (some (y145 ++ [a0_2])) else (none)) else (if y145.length + l0_5.length < 17592186044416 then (some (y145 ++ l0_5)) else (none)))) else (none)) else ((some (([a0_1, a0_2] : List Int) : List Int)).bind fun y154 => (if y121.length + y154.length < 17592186044416 then (some (y121 ++ y154)) else (none))))) = some r := by rw [zD (show ¬ (false = true) by decide)] at H; exact H
        clear H
        have H := H1
        clear H1
        by_cases c33 : a0_0 = 13
        ·rw [zC c33] at H
         obtain ⟨c33b0, c33b1⟩ := qe c33; clear c33
         obtain ⟨y139, hy139⟩ : ∃ y_ : List Int, y_ = (([a0_2, a0_3, a0_1] : List Int)) := ⟨_, rfl⟩
         replace H : (if y121.length + y139.length < 17592186044416 then (some (y121 ++ y139)) else (none)) = some r := by (try rw [hy139]); first | with_reducible exact H | exact (zJ _ _).symm.trans H | exact H
         have Ny139 := zA hy139
         clear hy139
         by_cases c34 : y121.length + y139.length < 17592186044416
         ·rw [zC c34] at H
          have LMc34 := zA c34
          clear c34
          obtain ⟨y142, hy142⟩ : ∃ y_ : List Int, y_ = (y121 ++ y139) := ⟨_, rfl⟩
          replace H : (some y142) = some r := by (try rw [hy142]); first | with_reducible exact H | exact (zJ _ _).symm.trans H | exact H
          have Ny142 := zA hy142
          clear hy142
          obtain rfl := zI H
          have z35_0 := bk6 BK120.out
          go_wp2_with (first | ((with_reducible refine gate_dst (N := 51) rfl ?_); refine Kd.R_lit (Kd.int .i64) _ 3 (by rfl) (N := 51) (by rfl) (xs := ([a0_2, a0_3, a0_1] : List Int)) (inner := [.int .i64 a0_2, .int .i64 a0_3, .int .i64 a0_1]) (ok := fun _ => True) (okp := fun _ => True) ?hr ?hp (fun _ hk => hk) trivial (Below.refl _ _) (Nat.le_refl _) (by simp) ?_; (case hr => go_simp <;> rfl); (case hp => exact (Reps.one (show Kd.M (Kd.int .i64) _ _ _ a0_2 [.int .i64 a0_2] from rfl) (Reps.one (show Kd.M (Kd.int .i64) _ _ _ a0_3 [.int .i64 a0_3] from rfl) (Reps.one (show Kd.M (Kd.int .i64) _ _ _ a0_1 [.int .i64 a0_1] from rfl) (Reps.none _ _))))); intro v140 w36 ho37 hb hg_ hnew_; clear hg_ hnew_; (first | rw [← Ny139.out] at ho37 | (simp only [Int.reduceToNat] at ho37; rw [← Ny139.out] at ho37)); have HO141 := zA (Kd.R_lower (Kd.R_new' ho37 (Kd.R_lt (qR HO_5.out))) (below_size qB)); replace HO_5 := zA (Kd.R_elder' (qR HO_5.out) (Kd.R_base ho37) hb); replace BK120 := qW BK120 hb; replace HB := qH hb; clear hb ho37; obtain ⟨Ao39, co39, eo39⟩ := Kd.R_slice HO141.out; subst eo39) | ((with_reducible refine gate_builtin (b := .append) (xs := #[.tmp 44, .tmp 51]) rfl ?_); at_builtin; refine Kd.R_append_rows (Kd.int .i64) (w0 := w) w.heap.size rfl (.tmp 44) (.tmp 51) 42 3 (.int .i64 0) 8 rfl Tryz.underlying42 info3 rfl (by decide) (by omega) v122 y121 y139 _ _ _ (fun k_ => some k_ ≠ (.slice Ao39 y139.length co39 : Value).ownBlock) (fun _ => False) rfl rfl ?aO ?aR (fun _ _ h => h) (fun _ h => h.elim) ?aF ?aB ?aS ?aL ?_; (case aR => repeat (first | exact (Kd.R_reads' HO141.out).2.2 | (with_reducible refine Kd.C_alloc ?_ _) | (with_reducible refine Kd.C_drewN ?_ _) | (with_reducible refine Kd.C_drew ?_))); (case aB => exact qB); (case aF => exact (fun k_ hk => Kd.fresh' (Kd.R_lt (qR HO141.out)) k_ hk)); (case aO => exact (by (with_reducible repeat (first | apply Kd.R_alloc | apply Kd.R_drewN | apply Kd.R_drew)); exact Kd.R_mono HO_5.out (fun _ hk => hk.2))); (case aS => exact (below_size qB)); (case aL => have := LMc34.out; omega); intro v143 w38 ho hb hg hat; rw [← Ny142.out] at ho; replace BK120 := zA (blk_grown (qK BK120.out) hg (Kd.R_ne HO_5.out BK120.out (by decide))); replace HO141 := zA (Kd.R_after (ok := (fun _ => True)) (qR HO141.out) hg hat); replace HB := zA (hb); have HO144 := zA (ho); clear HO_5; clear ho hb hg hat))
          go_ret
          exact ⟨_, qE, by (with_reducible repeat (first | apply Kd.R_alloc | apply Kd.R_drewN | apply Kd.R_drew)); exact Kd.R_mono HO144.out (fun _ hk => trivial), qB⟩
         ·rw [zD c34] at H
          exact absurd H (by simp)
        ·rw [zD c33] at H
         obtain ⟨c33b0, c33b1⟩ := qn c33
         by_cases c40 : a0_0 = 11
         ·rw [zC c40] at H
          obtain ⟨c40b0, c40b1⟩ := qe c40; clear c40
          by_cases c41 : y121.length < 17592186044416
          ·rw [zC c41] at H
           have LMc41 := zA c41
           clear c41
           obtain ⟨y145, hy145⟩ : ∃ y_ : List Int, y_ = (y121 ++ [a0_1]) := ⟨_, rfl⟩
           replace H : (if a1 = true then (if y145.length < 17592186044416 then (some (y145 ++ [a0_2])) else (none)) else (if y145.length + l0_5.length < 17592186044416 then (some (y145 ++ l0_5)) else (none))) = some r := by (try rw [hy145]); first | with_reducible exact H | exact (zJ _ _).symm.trans H | exact H
           have Ny145 := zA hy145
           clear hy145
           by_cases c42 : a1 = true
           ·subst c42
            have H1 : (if y145.length < 17592186044416 then (some (y145 ++ [a0_2])) else (none)) = some r := by rw [zC rfl] at H; exact H
            clear H
            have H := H1
            clear H1
            by_cases c43 : y145.length < 17592186044416
            ·rw [zC c43] at H
             have LMc43 := zA c43
             clear c43
             obtain ⟨y148, hy148⟩ : ∃ y_ : List Int, y_ = (y145 ++ [a0_2]) := ⟨_, rfl⟩
             replace H : (some y148) = some r := by (try rw [hy148]); first | with_reducible exact H | exact (zJ _ _).symm.trans H | exact H
             have Ny148 := zA hy148
             clear hy148
             obtain rfl := zI H
             have z44_0 := bk6 BK120.out
             go_wp2_with (first | ((with_reducible refine gate_builtin (b := .append) (xs := #[.tmp 55, .tmp 58]) rfl ?_); at_builtin; refine Kd.R_append (Kd.int .i64) (w0 := w) w.heap.size rfl (.tmp 55) (.tmp 58) 42 3 (.int .i64 0) 8 rfl Tryz.underlying42 info3 rfl (by decide) (by omega) v122 y121 a0_1 [.int .i64 a0_1] (fun _ => True) (fun _ => False) rfl rfl ?aP (fun _ hk => hk.elim) ?aF ?aO ?aB ?aS ?aL ?_; (case aP => exact rfl); (case aB => exact qB); (case aF => exact (fun _ _ => trivial)); (case aO => exact (qR HO_5.out)); (case aS => exact (below_size qB)); (case aL => have := LMc41.out; omega); intro v146 w45 ho hb hg hat; rw [← Ny145.out] at ho; replace BK120 := zA (blk_grown (qK BK120.out) hg (Kd.R_ne HO_5.out BK120.out (by decide))); replace HB := zA (hb); have HO147 := zA (ho); clear HO_5; clear ho hb hg hat; have z46_0 := bk6 BK120.out) | ((with_reducible refine gate_builtin (b := .append) (xs := #[.tmp 61, .tmp 64]) rfl ?_); at_builtin; refine Kd.R_append (Kd.int .i64) (w0 := w) w.heap.size rfl (.tmp 61) (.tmp 64) 42 3 (.int .i64 0) 8 rfl Tryz.underlying42 info3 rfl (by decide) (by omega) v146 y145 a0_2 [.int .i64 a0_2] (fun _ => True) (fun _ => False) rfl rfl ?aP (fun _ hk => hk.elim) ?aF ?aO ?aB ?aS ?aL ?_; (case aP => exact rfl); (case aB => exact qB); (case aF => exact (fun _ _ => trivial)); (case aO => exact (qR HO147.out)); (case aS => exact (below_size qB)); (case aL => have := LMc43.out; omega); intro v149 w47 ho hb hg hat; rw [← Ny148.out] at ho; replace BK120 := zA (blk_grown (qK BK120.out) hg (Kd.R_ne HO147.out BK120.out (by decide))); replace HB := zA (hb); have HO150 := zA (ho); clear HO147; clear ho hb hg hat))
             go_ret
             exact ⟨_, qE, qR HO150.out, qB⟩
            ·rw [zD c43] at H
             exact absurd H (by simp)
           ·replace c42 := Bool.eq_false_iff.mpr c42
            subst c42
            have H1 : (if y145.length + l0_5.length < 17592186044416 then (some (y145 ++ l0_5)) else (none)) = some r := by rw [zD (show ¬ (false = true) by decide)] at H; exact H
            clear H
            have H := H1
            clear H1
            by_cases c48 : y145.length + l0_5.length < 17592186044416
            ·rw [zC c48] at H
             have LMc48 := zA c48
             clear c48
             obtain ⟨y151, hy151⟩ : ∃ y_ : List Int, y_ = (y145 ++ l0_5) := ⟨_, rfl⟩
             replace H : (some y151) = some r := by (try rw [hy151]); first | with_reducible exact H | exact (zJ _ _).symm.trans H | exact H
             have Ny151 := zA hy151
             clear hy151
             obtain rfl := zI H
             have z49_0 := bk6 BK120.out
             go_wp2_with (first | ((with_reducible refine gate_builtin (b := .append) (xs := #[.tmp 55, .tmp 58]) rfl ?_); at_builtin; refine Kd.R_append (Kd.int .i64) (w0 := w) w.heap.size rfl (.tmp 55) (.tmp 58) 42 3 (.int .i64 0) 8 rfl Tryz.underlying42 info3 rfl (by decide) (by omega) v122 y121 a0_1 [.int .i64 a0_1] (fun _ => True) (fun _ => False) rfl rfl ?aP (fun _ hk => hk.elim) ?aF ?aO ?aB ?aS ?aL ?_; (case aP => exact rfl); (case aB => exact qB); (case aF => exact (fun _ _ => trivial)); (case aO => exact (qR HO_5.out)); (case aS => exact (below_size qB)); (case aL => have := LMc41.out; omega); intro v146 w50 ho hb hg hat; rw [← Ny145.out] at ho; replace BK120 := zA (blk_grown (qK BK120.out) hg (Kd.R_ne HO_5.out BK120.out (by decide))); replace HB := zA (hb); have HO147 := zA (ho); clear HO_5; clear ho hb hg hat; have z51_0 := bk6 BK120.out) | ((with_reducible refine gate_builtin (b := .append) (xs := #[.tmp 66, .tmp 68]) rfl ?_); at_builtin; refine Kd.R_append_rows (Kd.int .i64) (w0 := w) w.heap.size rfl (.tmp 66) (.tmp 68) 42 3 (.int .i64 0) 8 rfl Tryz.underlying42 info3 rfl (by decide) (by omega) v146 y145 l0_5 _ _ _ (fun _ => True) (fun _ => False) rfl rfl ?aO ?aR (fun _ _ h => h) (fun _ h => h.elim) ?aF ?aB ?aS ?aL ?_; (case aR => exact qCB HR0_5.out); (case aB => exact qB); (case aF => exact (fun _ _ => trivial)); (case aO => exact (qR HO147.out)); (case aS => exact (below_size qB)); (case aL => have := LMc48.out; omega); intro v152 w52 ho hb hg hat; rw [← Ny151.out] at ho; replace BK120 := zA (blk_grown (qK BK120.out) hg (Kd.R_ne HO147.out BK120.out (by decide))); replace HB := zA (hb); have HO153 := zA (ho); clear HO147; clear ho hb hg hat))
             go_ret
             exact ⟨_, qE, qR HO153.out, qB⟩
            ·rw [zD c48] at H
             exact absurd H (by simp)
          ·rw [zD c41] at H
           exact absurd H (by simp)
         ·rw [zD c40] at H
          obtain ⟨c40b0, c40b1⟩ := qn c40
          obtain ⟨y154, hy154⟩ : ∃ y_ : List Int, y_ = (([a0_1, a0_2] : List Int)) := ⟨_, rfl⟩
          replace H : (if y121.length + y154.length < 17592186044416 then (some (y121 ++ y154)) else (none)) = some r := by (try rw [hy154]); first | with_reducible exact H | exact (zJ _ _).symm.trans H | exact H
          have Ny154 := zA hy154
          clear hy154
          by_cases c53 : y121.length + y154.length < 17592186044416
          ·rw [zC c53] at H
           have LMc53 := zA c53
           clear c53
           obtain ⟨y157, hy157⟩ : ∃ y_ : List Int, y_ = (y121 ++ y154) := ⟨_, rfl⟩
           replace H : (some y157) = some r := by (try rw [hy157]); first | with_reducible exact H | exact (zJ _ _).symm.trans H | exact H
           have Ny157 := zA hy157
           clear hy157
           obtain rfl := zI H
           have z54_0 := bk6 BK120.out
           go_wp2_with (first | ((with_reducible refine gate_dst (N := 75) rfl ?_); refine Kd.R_lit (Kd.int .i64) _ 3 (by rfl) (N := 75) (by rfl) (xs := ([a0_1, a0_2] : List Int)) (inner := [.int .i64 a0_1, .int .i64 a0_2]) (ok := fun _ => True) (okp := fun _ => True) ?hr ?hp (fun _ hk => hk) trivial (Below.refl _ _) (Nat.le_refl _) (by simp) ?_; (case hr => go_simp <;> rfl); (case hp => exact (Reps.one (show Kd.M (Kd.int .i64) _ _ _ a0_1 [.int .i64 a0_1] from rfl) (Reps.one (show Kd.M (Kd.int .i64) _ _ _ a0_2 [.int .i64 a0_2] from rfl) (Reps.none _ _)))); intro v155 w55 ho56 hb hg_ hnew_; clear hg_ hnew_; (first | rw [← Ny154.out] at ho56 | (simp only [Int.reduceToNat] at ho56; rw [← Ny154.out] at ho56)); have HO156 := zA (Kd.R_lower (Kd.R_new' ho56 (Kd.R_lt (qR HO_5.out))) (below_size qB)); replace HO_5 := zA (Kd.R_elder' (qR HO_5.out) (Kd.R_base ho56) hb); replace BK120 := qW BK120 hb; replace HB := qH hb; clear hb ho56; obtain ⟨Ao58, co58, eo58⟩ := Kd.R_slice HO156.out; subst eo58) | ((with_reducible refine gate_builtin (b := .append) (xs := #[.tmp 70, .tmp 75]) rfl ?_); at_builtin; refine Kd.R_append_rows (Kd.int .i64) (w0 := w) w.heap.size rfl (.tmp 70) (.tmp 75) 42 3 (.int .i64 0) 8 rfl Tryz.underlying42 info3 rfl (by decide) (by omega) v122 y121 y154 _ _ _ (fun k_ => some k_ ≠ (.slice Ao58 y154.length co58 : Value).ownBlock) (fun _ => False) rfl rfl ?aO ?aR (fun _ _ h => h) (fun _ h => h.elim) ?aF ?aB ?aS ?aL ?_; (case aR => repeat (first | exact (Kd.R_reads' HO156.out).2.2 | (with_reducible refine Kd.C_alloc ?_ _) | (with_reducible refine Kd.C_drewN ?_ _) | (with_reducible refine Kd.C_drew ?_))); (case aB => exact qB); (case aF => exact (fun k_ hk => Kd.fresh' (Kd.R_lt (qR HO156.out)) k_ hk)); (case aO => exact (by (with_reducible repeat (first | apply Kd.R_alloc | apply Kd.R_drewN | apply Kd.R_drew)); exact Kd.R_mono HO_5.out (fun _ hk => hk.2))); (case aS => exact (below_size qB)); (case aL => have := LMc53.out; omega); intro v158 w57 ho hb hg hat; rw [← Ny157.out] at ho; replace BK120 := zA (blk_grown (qK BK120.out) hg (Kd.R_ne HO_5.out BK120.out (by decide))); replace HO156 := zA (Kd.R_after (ok := (fun _ => True)) (qR HO156.out) hg hat); replace HB := zA (hb); have HO159 := zA (ho); clear HO_5; clear ho hb hg hat))
           go_ret
           exact ⟨_, qE, by (with_reducible repeat (first | apply Kd.R_alloc | apply Kd.R_drewN | apply Kd.R_drew)); exact Kd.R_mono HO159.out (fun _ hk => trivial), qB⟩
          ·rw [zD c53] at H
           exact absurd H (by simp)

mutual
def cubbyref08_word.j0 : Nat → Int → Bool → List ByteArray → Bool → Option (ByteArray)
 | 0, _, _, _, _ => none
 | k + 1, x0, x1, x5, x14 => if x14 = true then (if 0 ≤ x0 then (if x0 < (x5.length : Int) then (some (rdOf ByteArray.empty x5 x0)) else (none)) else (none)) else (if x1 = true then (cubbyref08_word.j1 k x0 x1 (x0 == 21)) else (cubbyref08_word.j1 k x0 x1 false))
def cubbyref08_word.j1 : Nat → Int → Bool → Bool → Option (ByteArray)
 | 0, _, _, _ => none
 | k + 1, x0, x1, x23 => if x23 = true then (some (⟨#[102, 101, 116, 99, 104]⟩ : ByteArray)) else (if x1 = true then (if x0 = 22 then (some (⟨#[115, 97, 118, 101]⟩ : ByteArray)) else (some (⟨#[]⟩ : ByteArray))) else (some (⟨#[]⟩ : ByteArray)))
end
def cubbyref08_word.f (k : Nat) (a0 : Int) (a1 : Bool) : Option (ByteArray) := (some (([(⟨#[]⟩ : ByteArray), (⟨#[99, 111, 110, 115, 116]⟩ : ByteArray), (⟨#[99, 111, 112, 121]⟩ : ByteArray), (⟨#[97, 100, 100]⟩ : ByteArray), (⟨#[115, 117, 98]⟩ : ByteArray), (⟨#[109, 117, 108]⟩ : ByteArray), (⟨#[108, 101, 115, 115]⟩ : ByteArray), (⟨#[100, 105, 118]⟩ : ByteArray), (⟨#[108, 111, 97, 100]⟩ : ByteArray), (⟨#[115, 116, 111, 114, 101]⟩ : ByteArray), (⟨#[111, 117, 116]⟩ : ByteArray), (⟨#[99, 97, 108, 108]⟩ : ByteArray), (⟨#[106, 117, 109, 112]⟩ : ByteArray), (⟨#[98, 114, 97, 110, 99, 104]⟩ : ByteArray), (⟨#[114, 101, 116]⟩ : ByteArray)] : List ByteArray) : List ByteArray)).bind fun y116 => (if a0 ≥ 0 then (cubbyref08_word.j0 k a0 a1 y116 (decide (a0 < (y116.length : Int)))) else (cubbyref08_word.j0 k a0 a1 y116 false))
set_option maxHeartbeats 8000000 in
set_option maxRecDepth 100000 in
theorem cubbyref08_word.calls (k : Nat) (a0 : Int) (a1 : Bool) (r : ByteArray) (w : World) (h : cubbyref08_word.f k a0 a1 = some r) :
 Calls Tryz.prog 38 #[.int .i64 a0, .bool a1] w fun e w' => e = .returned (.string r) ∧ Below w.heap.size w w' := by
 have HB := zA (Below.refl w.heap.size w)
 have H := h; clear h; unfold cubbyref08_word.f at H
 obtain ⟨y116, hy116⟩ : ∃ y_ : List ByteArray, y_ = (([(⟨#[]⟩ : ByteArray), (⟨#[99, 111, 110, 115, 116]⟩ : ByteArray), (⟨#[99, 111, 112, 121]⟩ : ByteArray), (⟨#[97, 100, 100]⟩ : ByteArray), (⟨#[115, 117, 98]⟩ : ByteArray), (⟨#[109, 117, 108]⟩ : ByteArray), (⟨#[108, 101, 115, 115]⟩ : ByteArray), (⟨#[100, 105, 118]⟩ : ByteArray), (⟨#[108, 111, 97, 100]⟩ : ByteArray), (⟨#[115, 116, 111, 114, 101]⟩ : ByteArray), (⟨#[111, 117, 116]⟩ : ByteArray), (⟨#[99, 97, 108, 108]⟩ : ByteArray), (⟨#[106, 117, 109, 112]⟩ : ByteArray), (⟨#[98, 114, 97, 110, 99, 104]⟩ : ByteArray), (⟨#[114, 101, 116]⟩ : ByteArray)] : List ByteArray)) := ⟨_, rfl⟩
 replace H : (if a0 ≥ 0 then (cubbyref08_word.j0 k a0 a1 y116 (decide (a0 < (y116.length : Int)))) else (cubbyref08_word.j0 k a0 a1 y116 false)) = some r := by (try rw [hy116]); first | with_reducible exact H | exact (zJ _ _).symm.trans H | exact H
 have Ny116 := zA hy116
 clear hy116
 have HC3 := zA H
 clear H
 go_enter Tryz.func38, Tryz.ntmps38
 go_upto_region 2 with (first | ((with_reducible refine gate_dst (N := 6) rfl ?_); (try (refine gate_guard (by rfl) ?_; dsimp only)); refine Kd.R_lit Kd.string _ 9 (by rfl) (N := 6) (by rfl) (xs := ([(⟨#[]⟩ : ByteArray), (⟨#[99, 111, 110, 115, 116]⟩ : ByteArray), (⟨#[99, 111, 112, 121]⟩ : ByteArray), (⟨#[97, 100, 100]⟩ : ByteArray), (⟨#[115, 117, 98]⟩ : ByteArray), (⟨#[109, 117, 108]⟩ : ByteArray), (⟨#[108, 101, 115, 115]⟩ : ByteArray), (⟨#[100, 105, 118]⟩ : ByteArray), (⟨#[108, 111, 97, 100]⟩ : ByteArray), (⟨#[115, 116, 111, 114, 101]⟩ : ByteArray), (⟨#[111, 117, 116]⟩ : ByteArray), (⟨#[99, 97, 108, 108]⟩ : ByteArray), (⟨#[106, 117, 109, 112]⟩ : ByteArray), (⟨#[98, 114, 97, 110, 99, 104]⟩ : ByteArray), (⟨#[114, 101, 116]⟩ : ByteArray)] : List ByteArray)) (inner := [.string (⟨#[]⟩ : ByteArray), .string (⟨#[99, 111, 110, 115, 116]⟩ : ByteArray), .string (⟨#[99, 111, 112, 121]⟩ : ByteArray), .string (⟨#[97, 100, 100]⟩ : ByteArray), .string (⟨#[115, 117, 98]⟩ : ByteArray), .string (⟨#[109, 117, 108]⟩ : ByteArray), .string (⟨#[108, 101, 115, 115]⟩ : ByteArray), .string (⟨#[100, 105, 118]⟩ : ByteArray), .string (⟨#[108, 111, 97, 100]⟩ : ByteArray), .string (⟨#[115, 116, 111, 114, 101]⟩ : ByteArray), .string (⟨#[111, 117, 116]⟩ : ByteArray), .string (⟨#[99, 97, 108, 108]⟩ : ByteArray), .string (⟨#[106, 117, 109, 112]⟩ : ByteArray), .string (⟨#[98, 114, 97, 110, 99, 104]⟩ : ByteArray), .string (⟨#[114, 101, 116]⟩ : ByteArray)]) (ok := fun _ => True) (okp := fun _ => True) ?hr ?hp (fun _ hk => hk) trivial (Below.refl _ _) (Nat.le_refl _) (by simp) ?_; (case hr => go_simp <;> rfl); (case hp => exact (Reps.one (show Kd.M Kd.string _ _ _ (⟨#[]⟩ : ByteArray) [.string (⟨#[]⟩ : ByteArray)] from rfl) (Reps.one (show Kd.M Kd.string _ _ _ (⟨#[99, 111, 110, 115, 116]⟩ : ByteArray) [.string (⟨#[99, 111, 110, 115, 116]⟩ : ByteArray)] from rfl) (Reps.one (show Kd.M Kd.string _ _ _ (⟨#[99, 111, 112, 121]⟩ : ByteArray) [.string (⟨#[99, 111, 112, 121]⟩ : ByteArray)] from rfl) (Reps.one (show Kd.M Kd.string _ _ _ (⟨#[97, 100, 100]⟩ : ByteArray) [.string (⟨#[97, 100, 100]⟩ : ByteArray)] from rfl) (Reps.one (show Kd.M Kd.string _ _ _ (⟨#[115, 117, 98]⟩ : ByteArray) [.string (⟨#[115, 117, 98]⟩ : ByteArray)] from rfl) (Reps.one (show Kd.M Kd.string _ _ _ (⟨#[109, 117, 108]⟩ : ByteArray) [.string (⟨#[109, 117, 108]⟩ : ByteArray)] from rfl) (Reps.one (show Kd.M Kd.string _ _ _ (⟨#[108, 101, 115, 115]⟩ : ByteArray) [.string (⟨#[108, 101, 115, 115]⟩ : ByteArray)] from rfl) (Reps.one (show Kd.M Kd.string _ _ _ (⟨#[100, 105, 118]⟩ : ByteArray) [.string (⟨#[100, 105, 118]⟩ : ByteArray)] from rfl) (Reps.one (show Kd.M Kd.string _ _ _ (⟨#[108, 111, 97, 100]⟩ : ByteArray) [.string (⟨#[108, 111, 97, 100]⟩ : ByteArray)] from rfl) (Reps.one (show Kd.M Kd.string _ _ _ (⟨#[115, 116, 111, 114, 101]⟩ : ByteArray) [.string (⟨#[115, 116, 111, 114, 101]⟩ : ByteArray)] from rfl) (Reps.one (show Kd.M Kd.string _ _ _ (⟨#[111, 117, 116]⟩ : ByteArray) [.string (⟨#[111, 117, 116]⟩ : ByteArray)] from rfl) (Reps.one (show Kd.M Kd.string _ _ _ (⟨#[99, 97, 108, 108]⟩ : ByteArray) [.string (⟨#[99, 97, 108, 108]⟩ : ByteArray)] from rfl) (Reps.one (show Kd.M Kd.string _ _ _ (⟨#[106, 117, 109, 112]⟩ : ByteArray) [.string (⟨#[106, 117, 109, 112]⟩ : ByteArray)] from rfl) (Reps.one (show Kd.M Kd.string _ _ _ (⟨#[98, 114, 97, 110, 99, 104]⟩ : ByteArray) [.string (⟨#[98, 114, 97, 110, 99, 104]⟩ : ByteArray)] from rfl) (Reps.one (show Kd.M Kd.string _ _ _ (⟨#[114, 101, 116]⟩ : ByteArray) [.string (⟨#[114, 101, 116]⟩ : ByteArray)] from rfl) (Reps.none _ _))))))))))))))))); intro v117 w4 ho5 hb hg_ hnew_; clear hg_ hnew_; (first | rw [← Ny116.out] at ho5 | (simp only [Int.reduceToNat] at ho5; rw [← Ny116.out] at ho5)); have HO118 := zA (Kd.R_lower ho5 (below_size qB)); replace HB := qH hb; clear hb ho5))
 (try simp only [Act.put, List.setIfInBounds_toArray, List.set_cons_zero, List.set_cons_succ])
 go_cut [14] (fun v14 wc => ∃ (kq : Nat) (x14_2 : Bool), v14 = .bool x14_2 ∧ Aside0 (cubbyref08_word.j0 kq a0 a1 y116 x14_2 = some r) ∧ Aside0 (kq ≤ k) ∧ Aside0 (Kd.R Kd.string 9 wc w.heap.size (fun _ => True) v117 y116) ∧ Aside0 (Below w.heap.size w wc))
 case first =>
  have H := HC3.out
  clear HC3
  by_cases c6 : a0 ≥ 0
  ·rw [zC c6] at H
   have c6b0 : decide (0 ≤ a0) = true := zF c6
   clear c6
   (first | rw [c6b0] | (simp only [i64_w, i32_w]; rw [c6b0]) | skip)
   have H' := zA H
   clear H
   obtain ⟨Ao7, co7, eo7⟩ := Kd.R_slice HO118.out
   subst eo7
   go_wp2
   go_meet
   case rel => exact ⟨_, (decide (a0 < (y116.length : Int))), qT, H', ⟨qO⟩, ⟨qR HO118.out⟩, ⟨qB⟩⟩
  ·rw [zD c6] at H
   have c6b0 : decide (0 ≤ a0) = false := zG c6
   clear c6
   (first | rw [c6b0] | (simp only [i64_w, i32_w]; rw [c6b0]) | skip)
   have H' := zA H
   clear H
   go_wp2
   go_meet
   case rel => exact ⟨_, (false), qT, H', ⟨qO⟩, ⟨qR HO118.out⟩, ⟨qB⟩⟩
 case rest =>
  clear HC3
  try clear p2; try clear c3; try clear c6; try clear c6b0
  obtain ⟨kq, x14_2, rfl, HA, HJ2, HO_5, HB⟩ := hcut
  cases kq with
  | zero => exact absurd HA.out (by simp [cubbyref08_word.j0])
  | succ kj2 =>
   have H := HA.out
   clear HA
   simp only [cubbyref08_word.j0] at H
   by_cases c8 : x14_2 = true
   ·subst c8
    have H1 : (if 0 ≤ a0 then (if a0 < (y116.length : Int) then (some (rdOf ByteArray.empty y116 a0)) else (none)) else (none)) = some r := by rw [zC rfl] at H; exact H
    clear H
    have H := H1
    clear H1
    by_cases c9 : 0 ≤ a0
    ·rw [zC c9] at H
     have c9b0 := zF c9
     clear c9
     by_cases c10 : a0 < (y116.length : Int)
     ·rw [zC c10] at H
      have c10b0 := zF c10
      clear c10
      obtain rfl := zI H
      obtain ⟨Ao11, co11, eo11⟩ := Kd.R_slice HO_5.out
      subst eo11
      have p119 : 0 ≤ (a0 : Int) := zB qA
      have q119 : a0 < (y116.length : Int) := zB qA
      obtain ⟨ad119, e119, hx119_0⟩ := Kd.at_string (Kd.R_reads' HO_5.out).2.2 a0 p119 q119
      cases e119
      replace p119 := eq_true p119
      replace q119 := eq_true q119
      go_wp2
      go_ret
      exact ⟨qE, qB⟩
     ·rw [zD c10] at H
      exact absurd H (by simp)
    ·rw [zD c9] at H
     exact absurd H (by simp)
   ·replace c8 := Bool.eq_false_iff.mpr c8
    subst c8
    have H1 : (if a1 = true then (cubbyref08_word.j1 kj2 a0 a1 (a0 == 21)) else (cubbyref08_word.j1 kj2 a0 a1 false)) = some r := by rw [zD (show ¬ (false = true) by decide)] at H; exact H
    clear H
    have H := H1
    clear H1
    have HC12 := zA H
    clear H
    go_upto_region 4 with (fail)
    go_cut [23] (fun v23 wc => ∃ (kq : Nat) (x23_11 : Bool), v23 = .bool x23_11 ∧ Aside0 (cubbyref08_word.j1 kq a0 a1 x23_11 = some r) ∧ Aside0 (kq ≤ kj2) ∧ Aside0 (Below w.heap.size w wc))
    case first =>
     have H := HC12.out
     clear HC12
     by_cases c13 : a1 = true
     ·subst c13
      have H1 : (cubbyref08_word.j1 kj2 a0 true (a0 == 21)) = some r := by rw [zC rfl] at H; exact H
      clear H
      have H := H1
      clear H1
      have H' := zA H
      clear H
      go_wp2
      go_meet
      case rel => exact ⟨_, ((a0 == 21)), qT, H', ⟨by have := HJ2.out; first | omega | exact Nat.le_refl _⟩, ⟨qB⟩⟩
     ·replace c13 := Bool.eq_false_iff.mpr c13
      subst c13
      have H1 : (cubbyref08_word.j1 kj2 a0 false false) = some r := by rw [zD (show ¬ (false = true) by decide)] at H; exact H
      clear H
      have H := H1
      clear H1
      have H' := zA H
      clear H
      go_wp2
      go_meet
      case rel => exact ⟨_, (false), qT, H', ⟨by have := HJ2.out; first | omega | exact Nat.le_refl _⟩, ⟨qB⟩⟩
    case rest =>
     clear HC12
     try clear c1; try clear p1; try clear q1; try clear hx1; try clear p2; try clear c3; try clear c6; try clear c6b0; try clear c8; try clear c9; try clear c9b0; try clear c10; try clear c10b0; try clear p11; try clear q11; try clear hx11; try clear c13; try clear hx119_0; try clear p119; try clear q119
     obtain ⟨kq, x23_11, rfl, HA, HJ11, HB⟩ := hcut
     cases kq with
     | zero => exact absurd HA.out (by simp [cubbyref08_word.j1])
     | succ kj11 =>
      have H := HA.out
      clear HA
      simp only [cubbyref08_word.j1] at H
      by_cases c14 : x23_11 = true
      ·subst c14
       have H1 : (some (⟨#[102, 101, 116, 99, 104]⟩ : ByteArray)) = some r := by rw [zC rfl] at H; exact H
       clear H
       have H := H1
       clear H1
       obtain rfl := zI H
       go_wp2
       go_ret
       exact ⟨qE, qB⟩
      ·replace c14 := Bool.eq_false_iff.mpr c14
       subst c14
       have H1 : (if a1 = true then (if a0 = 22 then (some (⟨#[115, 97, 118, 101]⟩ : ByteArray)) else (some (⟨#[]⟩ : ByteArray))) else (some (⟨#[]⟩ : ByteArray))) = some r := by rw [zD (show ¬ (false = true) by decide)] at H; exact H
       clear H
       have H := H1
       clear H1
       by_cases c15 : a1 = true
       ·subst c15
        have H1 : (if a0 = 22 then (some (⟨#[115, 97, 118, 101]⟩ : ByteArray)) else (some (⟨#[]⟩ : ByteArray))) = some r := by rw [zC rfl] at H; exact H
        clear H
        have H := H1
        clear H1
        by_cases c16 : a0 = 22
        ·rw [zC c16] at H
         obtain ⟨c16b0, c16b1⟩ := qe c16; clear c16
         obtain rfl := zI H
         go_wp2
         go_ret
         exact ⟨qE, qB⟩
        ·rw [zD c16] at H
         obtain ⟨c16b0, c16b1⟩ := qn c16
         obtain rfl := zI H
         go_wp2
         go_ret
         exact ⟨qE, qB⟩
       ·replace c15 := Bool.eq_false_iff.mpr c15
        subst c15
        have H1 : (some (⟨#[]⟩ : ByteArray)) = some r := by rw [zD (show ¬ (false = true) by decide)] at H; exact H
        clear H
        have H := H1
        clear H1
        obtain rfl := zI H
        go_wp2
        go_ret
        exact ⟨qE, qB⟩

mutual
def cubbyref08_print.l0 : Nat → List (List (SIns)) → Bool → ByteArray → Int → Option (ByteArray × Int)
 | 0, _, _, _, _ => none
 | k + 1, x1, x2, x8, x9 => if x9 < (x1.length : Int) then (if x8.size + 6 ≤ 9223372036854775807 then (cubbyref08_print.l1 k x1 x2 (x8 ++ (⟨#[98, 108, 111, 99, 107, 10]⟩ : ByteArray)) x9 0) else (none)) else (some (x8, 0))
def cubbyref08_print.l1 : Nat → List (List (SIns)) → Bool → ByteArray → Int → Int → Option (ByteArray × Int)
 | 0, _, _, _, _, _ => none
 | k + 1, x1, x2, x8, x9, x10 => if 0 ≤ x9 then (if x9 < (x1.length : Int) then (if x10 < ((rd_LIns x1 x9).length : Int) then (if 0 ≤ x10 then ((cubbyref08_word.f k ((rd_TIns (rd_LIns x1 x9) x10).f0) x2).bind fun t164 => ((cubbyref08_numbers.f k ((rd_TIns (rd_LIns x1 x9) x10).f0) ((rd_TIns (rd_LIns x1 x9) x10).f1) ((rd_TIns (rd_LIns x1 x9) x10).f2) ((rd_TIns (rd_LIns x1 x9) x10).f3) ((rd_TIns (rd_LIns x1 x9) x10).f4) ((rd_TIns (rd_LIns x1 x9) x10).f5) x2).bind fun t165 => ((cubbyref08_line.f k t164 ((rd_TIns (rd_LIns x1 x9) x10).f4) (((rd_TIns (rd_LIns x1 x9) x10).f0) == 11) 1 t165).bind fun bt168 => (if bt168.2 = 0 then (if x8.size + bt168.1.size ≤ 9223372036854775807 then (cubbyref08_print.l1 k x1 x2 (x8 ++ bt168.1) x9 (wrap64 (x10 + 1))) else (none)) else (some ((⟨#[]⟩ : ByteArray), bt168.2)))))) else (none)) else (cubbyref08_print.l0 k x1 x2 x8 (wrap64 (x9 + 1)))) else (none)) else (none)
end
def cubbyref08_print.f (k : Nat) (a0 : ByteArray) (l1 : List (List (SIns))) (a2 : Bool) : Option (ByteArray × Int) := cubbyref08_print.l0 k l1 a2 a0 0
def cubbyref08_print.T10 : Bool × List (List Nat × List Nat) := (true, [([], []), ([0], [0]), ([], []), ([1, 2], [1, 2]), ([], []), ([4], [4]), ([], []), ([6], [6]), ([7], [7]), ([], []), ([], []), ([9, 10, 3], [9, 10]), ([3, 5, 8, 11, 11], [3, 5, 8, 11]), ([12], [12]), ([13], [13]), ([13], [13]), ([14, 12, 0, 1, 2, 3, 4, 5, 6, 7, 8, 9, 10, 11, 12, 13, 14], [14]), ([15, 16, 0, 1, 2, 3, 4, 5, 6, 7, 8, 9, 10, 11, 12, 13, 14, 15, 16], [15])])
def cubbyref08_print.B10 : List Nat := [0, 1, 0, 7, 0, 16, 0, 64, 192, 0, 0, 1551, 4095, 8191, 16383, 16383, 32767, 131071]
theorem cubbyref08_print.tab10 : rtab .any (opsOf Tryz.f21 10) = cubbyref08_print.T10 := by kernel_rfl
theorem cubbyref08_print.bits10 : waitsOk cubbyref08_print.T10.2 cubbyref08_print.B10 = true := by kernel_rfl
set_option maxHeartbeats 8000000 in
set_option maxRecDepth 100000 in
theorem cubbyref08_print.calls (k : Nat) (a0 : ByteArray) (A1 : Option Addr) (c1 : Nat) (l1 : List (List (SIns))) (a2 : Bool) (r1 : ByteArray) (r2 : Int) (w : World) (hr1 : Kd.C (Kd.slice 44 kIns) w A1 l1.length l1) (hc1 : l1.length ≤ c1) (h : cubbyref08_print.f k a0 l1 a2 = some (r1, r2)) :
 Calls Tryz.prog 21 #[.string a0, .slice A1 l1.length c1, .bool a2] w fun e w' => e = .returned (.tuple #[.string r1, .int .i64 r2]) ∧ Below w.heap.size w w' := by
 have hu44 := Tryz.underlying44
 have HR1 := zA hr1
 have HC1 := zA hc1
 clear hr1 hc1
 have HB := zA (Below.refl w.heap.size w)
 have H := h; clear h; unfold cubbyref08_print.f at H
 have H' := zA H
 clear H
 go_enter Tryz.func21, Tryz.ntmps21
 go_wp2
 go_loopg [8, 9] k (fun kq v8 v9 w' => ∃ (x8_1 : ByteArray) (x9_1 : Int), v8 = .string x8_1 ∧ v9 = .int .i64 x9_1 ∧ Aside0 (cubbyref08_print.l0 kq l1 a2 x8_1 x9_1 = some (r1, r2)) ∧ Aside0 (kq ≤ k) ∧ Aside0 (Below w.heap.size w w'))
 case atStart => exact ⟨(a0), (0), qT, qT, H', ⟨Nat.le_refl _⟩, ⟨qB⟩⟩
 case round =>
  clear H'
  try clear c1; try clear c2; try clear p2
  obtain ⟨x8_1, x9_1, rfl, rfl, HA, HK1, HB⟩ := hrel
  cases gk with
  | zero => exact absurd HA.out (by simp [cubbyref08_print.l0])
  | succ k1 =>
   have H := HA.out
   clear HA
   simp only [cubbyref08_print.l0] at H
   by_cases c4 : x9_1 < (l1.length : Int)
   ·rw [zC c4] at H
    have c4b0 := zF c4
    clear c4
    by_cases c5 : x8_1.size + 6 ≤ 9223372036854775807
    ·rw [zC c5] at H
     have c5b0 := eq_true c5
     have c5b1 := zF c5
     try have c5b2 : (9223372036854775807 < x8_1.size + 6) = False := eq_false (Nat.not_lt.2 c5)
     have H' := zA H
     clear H
     go_wp2
     go_loopg [8, 10] k1 (fun kq v8 v10 w' => ∃ (x8_2 : ByteArray) (x10_2 : Int), v8 = .string x8_2 ∧ v10 = .int .i64 x10_2 ∧ Aside0 (cubbyref08_print.l1 kq l1 a2 x8_2 x9_1 x10_2 = some (r1, r2)) ∧ Aside0 (kq ≤ k1) ∧ Aside0 (Below w.heap.size w w'))
     case atStart => exact ⟨(x8_1 ++ (⟨#[98, 108, 111, 99, 107, 10]⟩ : ByteArray)), (0), qT, qT, H', ⟨Nat.le_refl _⟩, ⟨qB⟩⟩
     case round =>
      clear H'
      try clear c1; try clear c2; try clear p2; try clear c4b0; try clear c5; try clear c5b0 c5b1 c5b2
      obtain ⟨x8_2, x10_2, rfl, rfl, HA, HK2, HB⟩ := hrel
      cases gk with
      | zero => exact absurd HA.out (by simp [cubbyref08_print.l1])
      | succ k2 =>
       have H := HA.out
       clear HA
       simp only [cubbyref08_print.l1] at H
       by_cases c6 : 0 ≤ x9_1
       ·rw [zC c6] at H
        have c6b0 := zF c6
        clear c6
        by_cases c7 : x9_1 < (l1.length : Int)
        ·rw [zC c7] at H
         have c7b0 := zF c7
         clear c7
         by_cases c8 : x10_2 < ((rd_LIns l1 x9_1).length : Int)
         ·rw [zC c8] at H
          have c8b0 := zF c8
          clear c8
          by_cases c9 : 0 ≤ x10_2
          ·rw [zC c9] at H
           have c9b0 := zF c9
           clear c9
           replace H := qb H; obtain ⟨t164, A10, H⟩ := H
           replace H := qb H; obtain ⟨t165, A11, H⟩ := H
           replace H := Option.bind_eq_some_iff.mp H
           obtain ⟨⟨t168, t169⟩, A120, H⟩ := H
           replace H : (if t169 = 0 then (if x8_2.size + t168.size ≤ 9223372036854775807 then (cubbyref08_print.l1 k2 l1 a2 (x8_2 ++ t168) x9_1 (wrap64 (x10_2 + 1))) else (none)) else (some ((⟨#[]⟩ : ByteArray), t169))) = some (r1, r2) := H
           have A12 := zA A120
           clear A120
           by_cases c13 : t169 = 0
           ·rw [zC c13] at H
            obtain ⟨c13b0, c13b1⟩ := qe c13; clear c13
            by_cases c14 : x8_2.size + t168.size ≤ 9223372036854775807
            ·rw [zC c14] at H
             have c14b0 := eq_true c14
             have c14b1 := zF c14
             try have c14b2 : (9223372036854775807 < x8_2.size + t168.size) = False := eq_false (Nat.not_lt.2 c14)
             have H' := zA H
             clear H
             have p160 : 0 ≤ (x9_1 : Int) := zB qA
             have q160 : x9_1 < (l1.length : Int) := zB qA
             obtain ⟨ad160, A160_0, c160_0, e160, hx160_0, hl160_0, hi160_0⟩ := at_LIns HR1.out x9_1 p160 q160
             cases e160
             replace hx160_0 := (HB.out.cell (zE w _ hx160_0)).trans hx160_0
             have HR160_0 := zA hi160_0
             have HC160_0 := zA hl160_0
             clear hi160_0 hl160_0
             replace p160 := eq_true p160
             replace q160 := eq_true q160
             have p161 : 0 ≤ (x9_1 : Int) := zB qA
             have q161 : x9_1 < (l1.length : Int) := zB qA
             obtain ⟨ad161, A161_0, c161_0, e161, hx161_0, hl161_0, hi161_0⟩ := at_LIns HR1.out x9_1 p161 q161
             obtain rfl : ad160 = ad161 := (by injection e161)
             replace hx161_0 := (HB.out.cell (zE w _ hx161_0)).trans hx161_0
             have HR161_0 := zA hi161_0
             have HC161_0 := zA hl161_0
             clear hi161_0 hl161_0
             replace p161 := eq_true p161
             replace q161 := eq_true q161
             have ea_ := zI (hx160_0.symm.trans hx161_0)
             injection ea_ with ea_ en_ ec_
             subst ea_
             subst ec_
             clear en_
             have p162 : 0 ≤ (x10_2 : Int) := zB qA
             have q162 : x10_2 < ((rd_LIns l1 x9_1).length : Int) := zB qA
             obtain ⟨ad162, A162_5, c162_5, e162, hx162_0, hx162_1, hx162_2, hx162_3, hx162_4, hx162_5, hl162_5, hi162_5⟩ := at_TIns HR161_0.out x10_2 p162 q162
             cases e162
             replace hx162_0 := (HB.out.cell (zE w _ hx162_0)).trans hx162_0
             replace hx162_1 := (HB.out.cell (zE w _ hx162_1)).trans hx162_1
             replace hx162_2 := (HB.out.cell (zE w _ hx162_2)).trans hx162_2
             replace hx162_3 := (HB.out.cell (zE w _ hx162_3)).trans hx162_3
             replace hx162_4 := (HB.out.cell (zE w _ hx162_4)).trans hx162_4
             replace hx162_5 := (HB.out.cell (zE w _ hx162_5)).trans hx162_5
             have HR162_5 := zA hi162_5
             have HC162_5 := zA hl162_5
             clear hi162_5 hl162_5
             replace p162 := eq_true p162
             replace q162 := eq_true q162
             try go_wp2_with (first | ((with_reducible refine gate_dst (N := 11) rfl ?_); refine box_event (by rfl) (N := 11) (by rfl) (cs := #[.int .i64 0, .int .i64 0, .int .i64 0, .int .i64 0, .string (⟨#[]⟩ : ByteArray), .slice none 0 0]) (t := 44) ?hr ?_; (case hr => go_simp <;> rfl); intro gb163 hg w15 hbox hb; have BK163 := zA (hbox); have GW163 := qG hg; have GE163 := GW163; replace HB := qH hb; clear hb hbox hg; have z16_0 := bk6 BK163.out))
             have n0_ : Aside0 (((((((w15.setCell ⟨gb163, 0, none⟩ (.int .i64 ((rd_TIns (rd_LIns l1 x9_1) x10_2).f0))).setCell ⟨gb163, 1, none⟩ (.int .i64 ((rd_TIns (rd_LIns l1 x9_1) x10_2).f1))).setCell ⟨gb163, 2, none⟩ (.int .i64 ((rd_TIns (rd_LIns l1 x9_1) x10_2).f2))).setCell ⟨gb163, 3, none⟩ (.int .i64 ((rd_TIns (rd_LIns l1 x9_1) x10_2).f3))).setCell ⟨gb163, 4, none⟩ (.string ((rd_TIns (rd_LIns l1 x9_1) x10_2).f4))).setCell ⟨gb163, 5, none⟩ (.slice A162_5 ((rd_TIns (rd_LIns l1 x9_1) x10_2).f5).length c162_5)).heap[gb163]? = some (.cells #[.int .i64 ((rd_TIns (rd_LIns l1 x9_1) x10_2).f0), .int .i64 ((rd_TIns (rd_LIns l1 x9_1) x10_2).f1), .int .i64 ((rd_TIns (rd_LIns l1 x9_1) x10_2).f2), .int .i64 ((rd_TIns (rd_LIns l1 x9_1) x10_2).f3), .string ((rd_TIns (rd_LIns l1 x9_1) x10_2).f4), .slice A162_5 ((rd_TIns (rd_LIns l1 x9_1) x10_2).f5).length c162_5] 44 (0, 0))) := ⟨by (with_reducible repeat (first | refine blk_drewN ?_ _ | refine blk_drew ?_ | refine blk_alloc ?_ _)); refine blk_put (cs := #[.int .i64 ((rd_TIns (rd_LIns l1 x9_1) x10_2).f0), .int .i64 ((rd_TIns (rd_LIns l1 x9_1) x10_2).f1), .int .i64 ((rd_TIns (rd_LIns l1 x9_1) x10_2).f2), .int .i64 ((rd_TIns (rd_LIns l1 x9_1) x10_2).f3), .string ((rd_TIns (rd_LIns l1 x9_1) x10_2).f4), .slice none 0 0]) ?_ 5 _ rfl; (with_reducible repeat (first | refine blk_drewN ?_ _ | refine blk_drew ?_ | refine blk_alloc ?_ _)); refine blk_put (cs := #[.int .i64 ((rd_TIns (rd_LIns l1 x9_1) x10_2).f0), .int .i64 ((rd_TIns (rd_LIns l1 x9_1) x10_2).f1), .int .i64 ((rd_TIns (rd_LIns l1 x9_1) x10_2).f2), .int .i64 ((rd_TIns (rd_LIns l1 x9_1) x10_2).f3), .string (⟨#[]⟩ : ByteArray), .slice none 0 0]) ?_ 4 _ rfl; (with_reducible repeat (first | refine blk_drewN ?_ _ | refine blk_drew ?_ | refine blk_alloc ?_ _)); refine blk_put (cs := #[.int .i64 ((rd_TIns (rd_LIns l1 x9_1) x10_2).f0), .int .i64 ((rd_TIns (rd_LIns l1 x9_1) x10_2).f1), .int .i64 ((rd_TIns (rd_LIns l1 x9_1) x10_2).f2), .int .i64 0, .string (⟨#[]⟩ : ByteArray), .slice none 0 0]) ?_ 3 _ rfl; (with_reducible repeat (first | refine blk_drewN ?_ _ | refine blk_drew ?_ | refine blk_alloc ?_ _)); refine blk_put (cs := #[.int .i64 ((rd_TIns (rd_LIns l1 x9_1) x10_2).f0), .int .i64 ((rd_TIns (rd_LIns l1 x9_1) x10_2).f1), .int .i64 0, .int .i64 0, .string (⟨#[]⟩ : ByteArray), .slice none 0 0]) ?_ 2 _ rfl; (with_reducible repeat (first | refine blk_drewN ?_ _ | refine blk_drew ?_ | refine blk_alloc ?_ _)); refine blk_put (cs := #[.int .i64 ((rd_TIns (rd_LIns l1 x9_1) x10_2).f0), .int .i64 0, .int .i64 0, .int .i64 0, .string (⟨#[]⟩ : ByteArray), .slice none 0 0]) ?_ 1 _ rfl; (with_reducible repeat (first | refine blk_drewN ?_ _ | refine blk_drew ?_ | refine blk_alloc ?_ _)); refine blk_put (cs := #[.int .i64 0, .int .i64 0, .int .i64 0, .int .i64 0, .string (⟨#[]⟩ : ByteArray), .slice none 0 0]) ?_ 0 _ rfl; (with_reducible repeat (first | refine blk_drewN ?_ _ | refine blk_drew ?_ | refine blk_alloc ?_ _)); exact BK163.out⟩
             have n1_ : Aside0 (Below w.heap.size w ((((((w15.setCell ⟨gb163, 0, none⟩ (.int .i64 ((rd_TIns (rd_LIns l1 x9_1) x10_2).f0))).setCell ⟨gb163, 1, none⟩ (.int .i64 ((rd_TIns (rd_LIns l1 x9_1) x10_2).f1))).setCell ⟨gb163, 2, none⟩ (.int .i64 ((rd_TIns (rd_LIns l1 x9_1) x10_2).f2))).setCell ⟨gb163, 3, none⟩ (.int .i64 ((rd_TIns (rd_LIns l1 x9_1) x10_2).f3))).setCell ⟨gb163, 4, none⟩ (.string ((rd_TIns (rd_LIns l1 x9_1) x10_2).f4))).setCell ⟨gb163, 5, none⟩ (.slice A162_5 ((rd_TIns (rd_LIns l1 x9_1) x10_2).f5).length c162_5))) := ⟨qB⟩
             (try clear BK163)
             (try clear HB)
             generalize ((((((w15.setCell ⟨gb163, 0, none⟩ (.int .i64 ((rd_TIns (rd_LIns l1 x9_1) x10_2).f0))).setCell ⟨gb163, 1, none⟩ (.int .i64 ((rd_TIns (rd_LIns l1 x9_1) x10_2).f1))).setCell ⟨gb163, 2, none⟩ (.int .i64 ((rd_TIns (rd_LIns l1 x9_1) x10_2).f2))).setCell ⟨gb163, 3, none⟩ (.int .i64 ((rd_TIns (rd_LIns l1 x9_1) x10_2).f3))).setCell ⟨gb163, 4, none⟩ (.string ((rd_TIns (rd_LIns l1 x9_1) x10_2).f4))).setCell ⟨gb163, 5, none⟩ (.slice A162_5 ((rd_TIns (rd_LIns l1 x9_1) x10_2).f5).length c162_5)) = w17 at n0_ n1_ ⊢
             have BK163 := n0_
             have HB := n1_
             clear n0_ n1_
             have n0_ := zA (blk_drew BK163.out)
             have n1_ := zA (below_drew1 HB.out)
             clear BK163
             clear HB
             have BK163 := n0_
             have HB := n1_
             clear n0_ n1_
             refine start_ (n := 18) (S := fun w' => w'.cell? ⟨gb163, 0, none⟩ = some (.int .i64 ((rd_TIns (rd_LIns l1 x9_1) x10_2).f0)) ∧ w'.cell? ⟨gb163, 1, none⟩ = some (.int .i64 ((rd_TIns (rd_LIns l1 x9_1) x10_2).f1)) ∧ w'.cell? ⟨gb163, 2, none⟩ = some (.int .i64 ((rd_TIns (rd_LIns l1 x9_1) x10_2).f2)) ∧ w'.cell? ⟨gb163, 3, none⟩ = some (.int .i64 ((rd_TIns (rd_LIns l1 x9_1) x10_2).f3)) ∧ w'.cell? ⟨gb163, 4, none⟩ = some (.string ((rd_TIns (rd_LIns l1 x9_1) x10_2).f4)) ∧ w'.cell? ⟨gb163, 5, none⟩ = some (.slice A162_5 ((rd_TIns (rd_LIns l1 x9_1) x10_2).f5).length c162_5)) (ds := []) (bA 18 0) (by kernel_rfl) rfl rfl ⟨(blk_cell BK163.out 0).trans rfl, (blk_cell BK163.out 1).trans rfl, (blk_cell BK163.out 2).trans rfl, (blk_cell BK163.out 3).trans rfl, (blk_cell BK163.out 4).trans rfl, (blk_cell BK163.out 5).trans rfl⟩ (fun hHeld => ?_); refine with_tabW cubbyref08_print.tab10 cubbyref08_print.bits10 (fun HT_ HW_ => ?_)
             generalize w17.drew = w18 at BK163 HB hHeld ⊢
             refine pu_ (i := 0) (N := some 40) (bA 18 1) ?_
             refine pu_ (i := 2) (N := some 42) (bA 18 5) ?_
             refine pu_ (i := 4) (N := some 44) (bA 18 21) ?_
             refine pu_ (i := 6) (N := some 46) (bA 18 85) ?_
             refine pu_ (i := 10) (N := some 50) (bA 18 1109) ?_
             refine tk_ (i := 1) (N := some 41) (bA 18 1111) ?_
             refine tk_ (i := 5) (N := some 45) (bA 18 1143) ?_
             refine tk_ (i := 7) (N := some 47) (bA 18 1271) ?_
             refine pu_ (i := 8) (N := some 48) (bA 18 1527) ?_
             refine tk_ (i := 9) (N := some 49) (bA 18 2039) ?_
             refine one_ (i := 3) (N := some 43) (bA 18 2047) rfl rfl (one_of HT_.out (by kernel_rfl)) (by decide) (fun K hK => ?_)
             refine goes_ Tryz.func38 (by kernel_rfl) rfl #[.int .i64 ((rd_TIns (rd_LIns l1 x9_1) x10_2).f0), .bool a2] (by rfl) rfl rfl qL ?_
             with_reducible refine (cubbyref08_word.calls k2 ((rd_TIns (rd_LIns l1 x9_1) x10_2).f0) a2 t164 _ A10.out).mono ?_
             rintro e w19 ⟨rfl, hb⟩
             refine ⟨_, rfl, ?_⟩
             have n0_ := qW BK163 hb
             have n1_ := qH hb
             clear BK163
             clear HB
             have BK163 := n0_
             have HB := n1_
             clear n0_ n1_
             (try clear hb)
             (try clear hb2)
             (try clear hk)
             (try clear hi)
             refine hK.out _ _ ⟨(blk_cell BK163.out 0).trans rfl, (blk_cell BK163.out 1).trans rfl, (blk_cell BK163.out 2).trans rfl, (blk_cell BK163.out 3).trans rfl, (blk_cell BK163.out 4).trans rfl, (blk_cell BK163.out 5).trans rfl⟩ (fun hHeld => ?_)
             clear hK K
             refine norm_ (a' := ?_) ?_ ?_
             rotate_left
             ·show Act.put _ (some 43) _ = _
              simp only [Act.put, List.setIfInBounds_toArray, List.set_cons_zero, List.set_cons_succ, i64_w, i32_w]
              rfl
             refine one_ (i := 11) (N := some 51) (bA 18 4095) rfl rfl (one_of HT_.out (by kernel_rfl)) (by decide) (fun K hK => ?_)
             refine goes_ Tryz.func39 (by kernel_rfl) rfl #[.agg #[.int .i64 ((rd_TIns (rd_LIns l1 x9_1) x10_2).f0), .int .i64 ((rd_TIns (rd_LIns l1 x9_1) x10_2).f1), .int .i64 ((rd_TIns (rd_LIns l1 x9_1) x10_2).f2), .int .i64 ((rd_TIns (rd_LIns l1 x9_1) x10_2).f3), .string ((rd_TIns (rd_LIns l1 x9_1) x10_2).f4), .slice A162_5 ((rd_TIns (rd_LIns l1 x9_1) x10_2).f5).length c162_5], .bool a2] (by rfl) rfl rfl qL ?_
             with_reducible refine (cubbyref08_numbers.calls k2 ((rd_TIns (rd_LIns l1 x9_1) x10_2).f0) ((rd_TIns (rd_LIns l1 x9_1) x10_2).f1) ((rd_TIns (rd_LIns l1 x9_1) x10_2).f2) ((rd_TIns (rd_LIns l1 x9_1) x10_2).f3) ((rd_TIns (rd_LIns l1 x9_1) x10_2).f4) _ _ ((rd_TIns (rd_LIns l1 x9_1) x10_2).f5) a2 t165 _ ?side1 ?side2 A11.out).mono ?_
             (case side1 => exact qCB HR162_5.out)
             (case side2 => exact HC162_5.out)
             rintro e w20 ⟨v166, rfl, ho0, hb⟩
             refine ⟨_, rfl, ?_⟩
             have n0_ := zA (Kd.R_lower ho0 (below_size qB))
             have n1_ := qW BK163 hb
             have n2_ := qH hb
             clear BK163
             clear HB
             have HO167 := n0_
             have BK163 := n1_
             have HB := n2_
             clear n0_ n1_ n2_
             (try clear hb)
             (try clear hb2)
             (try clear hk)
             (try clear hi)
             (try clear ho0)
             obtain ⟨Ao21, co21, eo21⟩ := Kd.R_slice HO167.out
             (first | subst eo21 | (injection eo21 with f1_ f2_ f3_; have f4_ := f1_.symm; have f5_ := f3_.symm; clear f1_ f2_ f3_; subst f4_; subst f5_))
             refine hK.out _ _ ⟨(blk_cell BK163.out 0).trans rfl, (blk_cell BK163.out 1).trans rfl, (blk_cell BK163.out 2).trans rfl, (blk_cell BK163.out 3).trans rfl, (blk_cell BK163.out 4).trans rfl, (blk_cell BK163.out 5).trans rfl⟩ (fun hHeld => ?_)
             clear hK K
             refine norm_ (a' := ?_) ?_ ?_
             rotate_left
             ·show Act.put _ (some 51) _ = _
              simp only [Act.put, List.setIfInBounds_toArray, List.set_cons_zero, List.set_cons_succ, i64_w, i32_w]
              rfl
             refine one_ (i := 12) (N := some 52) (bA 18 8191) rfl rfl (one_of HT_.out (by kernel_rfl)) (by decide) (fun K hK => ?_)
             refine goes_ Tryz.func20 (by kernel_rfl) rfl #[.string t164, .string ((rd_TIns (rd_LIns l1 x9_1) x10_2).f4), .bool (((rd_TIns (rd_LIns l1 x9_1) x10_2).f0) == 11), .int .i64 1, .slice Ao21 t165.length co21] (by rfl) rfl rfl qL ?_
             with_reducible refine (cubbyref08_line.calls k2 t164 ((rd_TIns (rd_LIns l1 x9_1) x10_2).f4) (((rd_TIns (rd_LIns l1 x9_1) x10_2).f0) == 11) 1 _ _ t165 t168 t169 _ ?side1 ?side2 A12.out).mono ?_
             (case side1 => repeat (first | exact (Kd.R_reads' HO167.out).2.2 | (with_reducible refine Kd.C_alloc ?_ _) | (with_reducible refine Kd.C_drewN ?_ _) | (with_reducible refine Kd.C_drew ?_)))
             (case side2 => exact (Kd.R_reads' HO167.out).2.1)
             rintro e w' ⟨rfl, ⟨nd, rfl⟩⟩
             refine ⟨_, rfl, ?_⟩
             refine hK.out _ _ ⟨(blk_cell BK163.out 0).trans rfl, (blk_cell BK163.out 1).trans rfl, (blk_cell BK163.out 2).trans rfl, (blk_cell BK163.out 3).trans rfl, (blk_cell BK163.out 4).trans rfl, (blk_cell BK163.out 5).trans rfl⟩ (fun hHeld => ?_)
             clear hK K
             refine norm_ (a' := ?_) ?_ ?_
             rotate_left
             ·show Act.put _ (some 52) _ = _
              simp only [Act.put, List.setIfInBounds_toArray, List.set_cons_zero, List.set_cons_succ, i64_w, i32_w]
              rfl
             refine pu_ (i := 13) (N := some 39) (bA 18 16383) ?_
             refine pu_ (i := 14) (N := some 53) (bA 18 32767) ?_
             refine pu_ (i := 15) (N := some 54) (bA 18 65535) ?_
             refine pu_ (i := 16) (N := some 12) (bA 18 131071) ?_
             refine pu_ (i := 17) (N := some 13) (bA 18 262143) ?_
             refine done_ (done_of HT_.out (by kernel_rfl)) ?_
             try go_wp2
             go_roundg k2
             case measure => have := HK1.out; have := HK2.out; omega
             case rel => exact ⟨(x8_2 ++ t168), (wrap64 (x10_2 + 1)), qT, qT, H', ⟨by have := HK1.out; have := HK2.out; omega⟩, ⟨qB⟩⟩
            ·rw [zD c14] at H
             exact absurd H (by simp)
           ·rw [zD c13] at H
            obtain ⟨c13b0, c13b1⟩ := qn c13
            simp only [Option.some.injEq, Prod.mk.injEq] at H
            obtain ⟨rfl, rfl⟩ := H
            have p160 : 0 ≤ (x9_1 : Int) := zB qA
            have q160 : x9_1 < (l1.length : Int) := zB qA
            obtain ⟨ad160, A160_0, c160_0, e160, hx160_0, hl160_0, hi160_0⟩ := at_LIns HR1.out x9_1 p160 q160
            cases e160
            replace hx160_0 := (HB.out.cell (zE w _ hx160_0)).trans hx160_0
            have HR160_0 := zA hi160_0
            have HC160_0 := zA hl160_0
            clear hi160_0 hl160_0
            replace p160 := eq_true p160
            replace q160 := eq_true q160
            have p161 : 0 ≤ (x9_1 : Int) := zB qA
            have q161 : x9_1 < (l1.length : Int) := zB qA
            obtain ⟨ad161, A161_0, c161_0, e161, hx161_0, hl161_0, hi161_0⟩ := at_LIns HR1.out x9_1 p161 q161
            obtain rfl : ad160 = ad161 := (by injection e161)
            replace hx161_0 := (HB.out.cell (zE w _ hx161_0)).trans hx161_0
            have HR161_0 := zA hi161_0
            have HC161_0 := zA hl161_0
            clear hi161_0 hl161_0
            replace p161 := eq_true p161
            replace q161 := eq_true q161
            have ea_ := zI (hx160_0.symm.trans hx161_0)
            injection ea_ with ea_ en_ ec_
            subst ea_
            subst ec_
            clear en_
            have p162 : 0 ≤ (x10_2 : Int) := zB qA
            have q162 : x10_2 < ((rd_LIns l1 x9_1).length : Int) := zB qA
            obtain ⟨ad162, A162_5, c162_5, e162, hx162_0, hx162_1, hx162_2, hx162_3, hx162_4, hx162_5, hl162_5, hi162_5⟩ := at_TIns HR161_0.out x10_2 p162 q162
            cases e162
            replace hx162_0 := (HB.out.cell (zE w _ hx162_0)).trans hx162_0
            replace hx162_1 := (HB.out.cell (zE w _ hx162_1)).trans hx162_1
            replace hx162_2 := (HB.out.cell (zE w _ hx162_2)).trans hx162_2
            replace hx162_3 := (HB.out.cell (zE w _ hx162_3)).trans hx162_3
            replace hx162_4 := (HB.out.cell (zE w _ hx162_4)).trans hx162_4
            replace hx162_5 := (HB.out.cell (zE w _ hx162_5)).trans hx162_5
            have HR162_5 := zA hi162_5
            have HC162_5 := zA hl162_5
            clear hi162_5 hl162_5
            replace p162 := eq_true p162
            replace q162 := eq_true q162
            try go_wp2_with (first | ((with_reducible refine gate_dst (N := 11) rfl ?_); refine box_event (by rfl) (N := 11) (by rfl) (cs := #[.int .i64 0, .int .i64 0, .int .i64 0, .int .i64 0, .string (⟨#[]⟩ : ByteArray), .slice none 0 0]) (t := 44) ?hr ?_; (case hr => go_simp <;> rfl); intro gb163 hg w22 hbox hb; have BK163 := zA (hbox); have GW163 := qG hg; have GE163 := GW163; replace HB := qH hb; clear hb hbox hg; have z23_0 := bk6 BK163.out))
            have n0_ : Aside0 (((((((w22.setCell ⟨gb163, 0, none⟩ (.int .i64 ((rd_TIns (rd_LIns l1 x9_1) x10_2).f0))).setCell ⟨gb163, 1, none⟩ (.int .i64 ((rd_TIns (rd_LIns l1 x9_1) x10_2).f1))).setCell ⟨gb163, 2, none⟩ (.int .i64 ((rd_TIns (rd_LIns l1 x9_1) x10_2).f2))).setCell ⟨gb163, 3, none⟩ (.int .i64 ((rd_TIns (rd_LIns l1 x9_1) x10_2).f3))).setCell ⟨gb163, 4, none⟩ (.string ((rd_TIns (rd_LIns l1 x9_1) x10_2).f4))).setCell ⟨gb163, 5, none⟩ (.slice A162_5 ((rd_TIns (rd_LIns l1 x9_1) x10_2).f5).length c162_5)).heap[gb163]? = some (.cells #[.int .i64 ((rd_TIns (rd_LIns l1 x9_1) x10_2).f0), .int .i64 ((rd_TIns (rd_LIns l1 x9_1) x10_2).f1), .int .i64 ((rd_TIns (rd_LIns l1 x9_1) x10_2).f2), .int .i64 ((rd_TIns (rd_LIns l1 x9_1) x10_2).f3), .string ((rd_TIns (rd_LIns l1 x9_1) x10_2).f4), .slice A162_5 ((rd_TIns (rd_LIns l1 x9_1) x10_2).f5).length c162_5] 44 (0, 0))) := ⟨by (with_reducible repeat (first | refine blk_drewN ?_ _ | refine blk_drew ?_ | refine blk_alloc ?_ _)); refine blk_put (cs := #[.int .i64 ((rd_TIns (rd_LIns l1 x9_1) x10_2).f0), .int .i64 ((rd_TIns (rd_LIns l1 x9_1) x10_2).f1), .int .i64 ((rd_TIns (rd_LIns l1 x9_1) x10_2).f2), .int .i64 ((rd_TIns (rd_LIns l1 x9_1) x10_2).f3), .string ((rd_TIns (rd_LIns l1 x9_1) x10_2).f4), .slice none 0 0]) ?_ 5 _ rfl; (with_reducible repeat (first | refine blk_drewN ?_ _ | refine blk_drew ?_ | refine blk_alloc ?_ _)); refine blk_put (cs := #[.int .i64 ((rd_TIns (rd_LIns l1 x9_1) x10_2).f0), .int .i64 ((rd_TIns (rd_LIns l1 x9_1) x10_2).f1), .int .i64 ((rd_TIns (rd_LIns l1 x9_1) x10_2).f2), .int .i64 ((rd_TIns (rd_LIns l1 x9_1) x10_2).f3), .string (⟨#[]⟩ : ByteArray), .slice none 0 0]) ?_ 4 _ rfl; (with_reducible repeat (first | refine blk_drewN ?_ _ | refine blk_drew ?_ | refine blk_alloc ?_ _)); refine blk_put (cs := #[.int .i64 ((rd_TIns (rd_LIns l1 x9_1) x10_2).f0), .int .i64 ((rd_TIns (rd_LIns l1 x9_1) x10_2).f1), .int .i64 ((rd_TIns (rd_LIns l1 x9_1) x10_2).f2), .int .i64 0, .string (⟨#[]⟩ : ByteArray), .slice none 0 0]) ?_ 3 _ rfl; (with_reducible repeat (first | refine blk_drewN ?_ _ | refine blk_drew ?_ | refine blk_alloc ?_ _)); refine blk_put (cs := #[.int .i64 ((rd_TIns (rd_LIns l1 x9_1) x10_2).f0), .int .i64 ((rd_TIns (rd_LIns l1 x9_1) x10_2).f1), .int .i64 0, .int .i64 0, .string (⟨#[]⟩ : ByteArray), .slice none 0 0]) ?_ 2 _ rfl; (with_reducible repeat (first | refine blk_drewN ?_ _ | refine blk_drew ?_ | refine blk_alloc ?_ _)); refine blk_put (cs := #[.int .i64 ((rd_TIns (rd_LIns l1 x9_1) x10_2).f0), .int .i64 0, .int .i64 0, .int .i64 0, .string (⟨#[]⟩ : ByteArray), .slice none 0 0]) ?_ 1 _ rfl; (with_reducible repeat (first | refine blk_drewN ?_ _ | refine blk_drew ?_ | refine blk_alloc ?_ _)); refine blk_put (cs := #[.int .i64 0, .int .i64 0, .int .i64 0, .int .i64 0, .string (⟨#[]⟩ : ByteArray), .slice none 0 0]) ?_ 0 _ rfl; (with_reducible repeat (first | refine blk_drewN ?_ _ | refine blk_drew ?_ | refine blk_alloc ?_ _)); exact BK163.out⟩
            have n1_ : Aside0 (Below w.heap.size w ((((((w22.setCell ⟨gb163, 0, none⟩ (.int .i64 ((rd_TIns (rd_LIns l1 x9_1) x10_2).f0))).setCell ⟨gb163, 1, none⟩ (.int .i64 ((rd_TIns (rd_LIns l1 x9_1) x10_2).f1))).setCell ⟨gb163, 2, none⟩ (.int .i64 ((rd_TIns (rd_LIns l1 x9_1) x10_2).f2))).setCell ⟨gb163, 3, none⟩ (.int .i64 ((rd_TIns (rd_LIns l1 x9_1) x10_2).f3))).setCell ⟨gb163, 4, none⟩ (.string ((rd_TIns (rd_LIns l1 x9_1) x10_2).f4))).setCell ⟨gb163, 5, none⟩ (.slice A162_5 ((rd_TIns (rd_LIns l1 x9_1) x10_2).f5).length c162_5))) := ⟨qB⟩
            (try clear BK163)
            (try clear HB)
            generalize ((((((w22.setCell ⟨gb163, 0, none⟩ (.int .i64 ((rd_TIns (rd_LIns l1 x9_1) x10_2).f0))).setCell ⟨gb163, 1, none⟩ (.int .i64 ((rd_TIns (rd_LIns l1 x9_1) x10_2).f1))).setCell ⟨gb163, 2, none⟩ (.int .i64 ((rd_TIns (rd_LIns l1 x9_1) x10_2).f2))).setCell ⟨gb163, 3, none⟩ (.int .i64 ((rd_TIns (rd_LIns l1 x9_1) x10_2).f3))).setCell ⟨gb163, 4, none⟩ (.string ((rd_TIns (rd_LIns l1 x9_1) x10_2).f4))).setCell ⟨gb163, 5, none⟩ (.slice A162_5 ((rd_TIns (rd_LIns l1 x9_1) x10_2).f5).length c162_5)) = w24 at n0_ n1_ ⊢
            have BK163 := n0_
            have HB := n1_
            clear n0_ n1_
            have n0_ := zA (blk_drew BK163.out)
            have n1_ := zA (below_drew1 HB.out)
            clear BK163
            clear HB
            have BK163 := n0_
            have HB := n1_
            clear n0_ n1_
            refine start_ (n := 18) (S := fun w' => w'.cell? ⟨gb163, 0, none⟩ = some (.int .i64 ((rd_TIns (rd_LIns l1 x9_1) x10_2).f0)) ∧ w'.cell? ⟨gb163, 1, none⟩ = some (.int .i64 ((rd_TIns (rd_LIns l1 x9_1) x10_2).f1)) ∧ w'.cell? ⟨gb163, 2, none⟩ = some (.int .i64 ((rd_TIns (rd_LIns l1 x9_1) x10_2).f2)) ∧ w'.cell? ⟨gb163, 3, none⟩ = some (.int .i64 ((rd_TIns (rd_LIns l1 x9_1) x10_2).f3)) ∧ w'.cell? ⟨gb163, 4, none⟩ = some (.string ((rd_TIns (rd_LIns l1 x9_1) x10_2).f4)) ∧ w'.cell? ⟨gb163, 5, none⟩ = some (.slice A162_5 ((rd_TIns (rd_LIns l1 x9_1) x10_2).f5).length c162_5)) (ds := []) (bA 18 0) (by kernel_rfl) rfl rfl ⟨(blk_cell BK163.out 0).trans rfl, (blk_cell BK163.out 1).trans rfl, (blk_cell BK163.out 2).trans rfl, (blk_cell BK163.out 3).trans rfl, (blk_cell BK163.out 4).trans rfl, (blk_cell BK163.out 5).trans rfl⟩ (fun hHeld => ?_); refine with_tabW cubbyref08_print.tab10 cubbyref08_print.bits10 (fun HT_ HW_ => ?_)
            generalize w24.drew = w25 at BK163 HB hHeld ⊢
            refine pu_ (i := 0) (N := some 40) (bA 18 1) ?_
            refine pu_ (i := 2) (N := some 42) (bA 18 5) ?_
            refine pu_ (i := 4) (N := some 44) (bA 18 21) ?_
            refine pu_ (i := 6) (N := some 46) (bA 18 85) ?_
            refine pu_ (i := 10) (N := some 50) (bA 18 1109) ?_
            refine tk_ (i := 1) (N := some 41) (bA 18 1111) ?_
            refine tk_ (i := 5) (N := some 45) (bA 18 1143) ?_
            refine tk_ (i := 7) (N := some 47) (bA 18 1271) ?_
            refine pu_ (i := 8) (N := some 48) (bA 18 1527) ?_
            refine tk_ (i := 9) (N := some 49) (bA 18 2039) ?_
            refine one_ (i := 3) (N := some 43) (bA 18 2047) rfl rfl (one_of HT_.out (by kernel_rfl)) (by decide) (fun K hK => ?_)
            refine goes_ Tryz.func38 (by kernel_rfl) rfl #[.int .i64 ((rd_TIns (rd_LIns l1 x9_1) x10_2).f0), .bool a2] (by rfl) rfl rfl qL ?_
            with_reducible refine (cubbyref08_word.calls k2 ((rd_TIns (rd_LIns l1 x9_1) x10_2).f0) a2 t164 _ A10.out).mono ?_
            rintro e w26 ⟨rfl, hb⟩
            refine ⟨_, rfl, ?_⟩
            have n0_ := qW BK163 hb
            have n1_ := qH hb
            clear BK163
            clear HB
            have BK163 := n0_
            have HB := n1_
            clear n0_ n1_
            (try clear hb)
            (try clear hb2)
            (try clear hk)
            (try clear hi)
            refine hK.out _ _ ⟨(blk_cell BK163.out 0).trans rfl, (blk_cell BK163.out 1).trans rfl, (blk_cell BK163.out 2).trans rfl, (blk_cell BK163.out 3).trans rfl, (blk_cell BK163.out 4).trans rfl, (blk_cell BK163.out 5).trans rfl⟩ (fun hHeld => ?_)
            clear hK K
            refine norm_ (a' := ?_) ?_ ?_
            rotate_left
            ·show Act.put _ (some 43) _ = _
             simp only [Act.put, List.setIfInBounds_toArray, List.set_cons_zero, List.set_cons_succ, i64_w, i32_w]
             rfl
            refine one_ (i := 11) (N := some 51) (bA 18 4095) rfl rfl (one_of HT_.out (by kernel_rfl)) (by decide) (fun K hK => ?_)
            refine goes_ Tryz.func39 (by kernel_rfl) rfl #[.agg #[.int .i64 ((rd_TIns (rd_LIns l1 x9_1) x10_2).f0), .int .i64 ((rd_TIns (rd_LIns l1 x9_1) x10_2).f1), .int .i64 ((rd_TIns (rd_LIns l1 x9_1) x10_2).f2), .int .i64 ((rd_TIns (rd_LIns l1 x9_1) x10_2).f3), .string ((rd_TIns (rd_LIns l1 x9_1) x10_2).f4), .slice A162_5 ((rd_TIns (rd_LIns l1 x9_1) x10_2).f5).length c162_5], .bool a2] (by rfl) rfl rfl qL ?_
            with_reducible refine (cubbyref08_numbers.calls k2 ((rd_TIns (rd_LIns l1 x9_1) x10_2).f0) ((rd_TIns (rd_LIns l1 x9_1) x10_2).f1) ((rd_TIns (rd_LIns l1 x9_1) x10_2).f2) ((rd_TIns (rd_LIns l1 x9_1) x10_2).f3) ((rd_TIns (rd_LIns l1 x9_1) x10_2).f4) _ _ ((rd_TIns (rd_LIns l1 x9_1) x10_2).f5) a2 t165 _ ?side1 ?side2 A11.out).mono ?_
            (case side1 => exact qCB HR162_5.out)
            (case side2 => exact HC162_5.out)
            rintro e w27 ⟨v166, rfl, ho0, hb⟩
            refine ⟨_, rfl, ?_⟩
            have n0_ := zA (Kd.R_lower ho0 (below_size qB))
            have n1_ := qW BK163 hb
            have n2_ := qH hb
            clear BK163
            clear HB
            have HO167 := n0_
            have BK163 := n1_
            have HB := n2_
            clear n0_ n1_ n2_
            (try clear hb)
            (try clear hb2)
            (try clear hk)
            (try clear hi)
            (try clear ho0)
            obtain ⟨Ao28, co28, eo28⟩ := Kd.R_slice HO167.out
            (first | subst eo28 | (injection eo28 with f1_ f2_ f3_; have f4_ := f1_.symm; have f5_ := f3_.symm; clear f1_ f2_ f3_; subst f4_; subst f5_))
            refine hK.out _ _ ⟨(blk_cell BK163.out 0).trans rfl, (blk_cell BK163.out 1).trans rfl, (blk_cell BK163.out 2).trans rfl, (blk_cell BK163.out 3).trans rfl, (blk_cell BK163.out 4).trans rfl, (blk_cell BK163.out 5).trans rfl⟩ (fun hHeld => ?_)
            clear hK K
            refine norm_ (a' := ?_) ?_ ?_
            rotate_left
            ·show Act.put _ (some 51) _ = _
             simp only [Act.put, List.setIfInBounds_toArray, List.set_cons_zero, List.set_cons_succ, i64_w, i32_w]
             rfl
            refine one_ (i := 12) (N := some 52) (bA 18 8191) rfl rfl (one_of HT_.out (by kernel_rfl)) (by decide) (fun K hK => ?_)
            refine goes_ Tryz.func20 (by kernel_rfl) rfl #[.string t164, .string ((rd_TIns (rd_LIns l1 x9_1) x10_2).f4), .bool (((rd_TIns (rd_LIns l1 x9_1) x10_2).f0) == 11), .int .i64 1, .slice Ao28 t165.length co28] (by rfl) rfl rfl qL ?_
            with_reducible refine (cubbyref08_line.calls k2 t164 ((rd_TIns (rd_LIns l1 x9_1) x10_2).f4) (((rd_TIns (rd_LIns l1 x9_1) x10_2).f0) == 11) 1 _ _ t165 t168 t169 _ ?side1 ?side2 A12.out).mono ?_
            (case side1 => repeat (first | exact (Kd.R_reads' HO167.out).2.2 | (with_reducible refine Kd.C_alloc ?_ _) | (with_reducible refine Kd.C_drewN ?_ _) | (with_reducible refine Kd.C_drew ?_)))
            (case side2 => exact (Kd.R_reads' HO167.out).2.1)
            rintro e w' ⟨rfl, ⟨nd, rfl⟩⟩
            refine ⟨_, rfl, ?_⟩
            refine hK.out _ _ ⟨(blk_cell BK163.out 0).trans rfl, (blk_cell BK163.out 1).trans rfl, (blk_cell BK163.out 2).trans rfl, (blk_cell BK163.out 3).trans rfl, (blk_cell BK163.out 4).trans rfl, (blk_cell BK163.out 5).trans rfl⟩ (fun hHeld => ?_)
            clear hK K
            refine norm_ (a' := ?_) ?_ ?_
            rotate_left
            ·show Act.put _ (some 52) _ = _
             simp only [Act.put, List.setIfInBounds_toArray, List.set_cons_zero, List.set_cons_succ, i64_w, i32_w]
             rfl
            refine pu_ (i := 13) (N := some 39) (bA 18 16383) ?_
            refine pu_ (i := 14) (N := some 53) (bA 18 32767) ?_
            refine pu_ (i := 15) (N := some 54) (bA 18 65535) ?_
            refine pu_ (i := 16) (N := some 12) (bA 18 131071) ?_
            refine pu_ (i := 17) (N := some 13) (bA 18 262143) ?_
            refine done_ (done_of HT_.out (by kernel_rfl)) ?_
            try go_wp2
            go_ret2
            exact ⟨qE, qB⟩
          ·rw [zD c9] at H
           exact absurd H (by simp)
         ·rw [zD c8] at H
          have c8b0 := zG c8
          clear c8
          have H' := zA H
          clear H
          have p160 : 0 ≤ (x9_1 : Int) := zB qA
          have q160 : x9_1 < (l1.length : Int) := zB qA
          obtain ⟨ad160, A160_0, c160_0, e160, hx160_0, hl160_0, hi160_0⟩ := at_LIns HR1.out x9_1 p160 q160
          cases e160
          replace hx160_0 := (HB.out.cell (zE w _ hx160_0)).trans hx160_0
          have HR160_0 := zA hi160_0
          have HC160_0 := zA hl160_0
          clear hi160_0 hl160_0
          replace p160 := eq_true p160
          replace q160 := eq_true q160
          go_wp2
          go_roundg k2
          case measure => have := HK1.out; have := HK2.out; omega
          case rel => exact ⟨(x8_2), (wrap64 (x9_1 + 1)), qT, qT, H', ⟨by have := HK1.out; have := HK2.out; omega⟩, ⟨qB⟩⟩
        ·rw [zD c7] at H
         exact absurd H (by simp)
       ·rw [zD c6] at H
        exact absurd H (by simp)
    ·rw [zD c5] at H
     exact absurd H (by simp)
   ·rw [zD c4] at H
    have c4b0 := zG c4
    clear c4
    simp only [Option.some.injEq, Prod.mk.injEq] at H
    obtain ⟨rfl, rfl⟩ := H
    go_wp2
    go_ret2
    exact ⟨qE, qB⟩

def cubbyref08_Print.f (k : Nat) (a0_0 : ByteArray) (a0_1 : Int) (a0_2 : Int) (l0_3 : List (List (SIns))) : Option (ByteArray × Int) := (cubbyref08_line.f k (⟨#[102, 117, 110, 99]⟩ : ByteArray) a0_0 true 0 (([a0_1, a0_2] : List Int))).bind fun bt174 => (if bt174.2 = 0 then ((cubbyref08_print.f k bt174.1 l0_3 false).bind fun bt176 => (some (bt176.1, bt176.2))) else (some ((⟨#[]⟩ : ByteArray), bt174.2)))
set_option maxHeartbeats 8000000 in
set_option maxRecDepth 100000 in
theorem cubbyref08_Print.calls (k : Nat) (a0_0 : ByteArray) (a0_1 : Int) (a0_2 : Int) (A0_3 : Option Addr) (c0_3 : Nat) (l0_3 : List (List (SIns))) (r1 : ByteArray) (r2 : Int) (w : World) (hr0_3 : Kd.C (Kd.slice 44 kIns) w A0_3 l0_3.length l0_3) (hc0_3 : l0_3.length ≤ c0_3) (h : cubbyref08_Print.f k a0_0 a0_1 a0_2 l0_3 = some (r1, r2)) :
 Calls Tryz.prog 8 #[.agg #[.string a0_0, .int .i64 a0_1, .int .i64 a0_2, .slice A0_3 l0_3.length c0_3]] w fun e w' => e = .returned (.tuple #[.string r1, .int .i64 r2]) ∧ Below w.heap.size w w' := by
 have hu24 := Tryz.underlying24
 have HR0_3 := zA hr0_3
 have HC0_3 := zA hc0_3
 clear hr0_3 hc0_3
 have HB := zA (Below.refl w.heap.size w)
 have H := h; clear h; unfold cubbyref08_Print.f at H
 obtain ⟨y171, hy171⟩ : ∃ y_ : List Int, y_ = (([a0_1, a0_2] : List Int)) := ⟨_, rfl⟩
 replace H : ((cubbyref08_line.f k (⟨#[102, 117, 110, 99]⟩ : ByteArray) a0_0 true 0 y171).bind fun bt174 => (if bt174.2 = 0 then ((cubbyref08_print.f k bt174.1 l0_3 false).bind fun bt176 => (some (bt176.1, bt176.2))) else (some ((⟨#[]⟩ : ByteArray), bt174.2)))) = some (r1, r2) := by (try rw [hy171]); first | with_reducible exact H | exact (zJ _ _).symm.trans H | exact H
 have Ny171 := zA hy171
 clear hy171
 replace H := Option.bind_eq_some_iff.mp H
 obtain ⟨⟨t174, t175⟩, A20, H⟩ := H
 replace H : (if t175 = 0 then ((cubbyref08_print.f k t174 l0_3 false).bind fun bt176 => (some (bt176.1, bt176.2))) else (some ((⟨#[]⟩ : ByteArray), t175))) = some (r1, r2) := H
 have A2 := zA A20
 clear A20
 by_cases c3 : t175 = 0
 ·rw [zC c3] at H
  obtain ⟨c3b0, c3b1⟩ := qe c3; clear c3
  replace H := Option.bind_eq_some_iff.mp H
  obtain ⟨⟨t176, t177⟩, A40, H⟩ := H
  replace H : (some (t176, t177)) = some (r1, r2) := H
  have A4 := zA A40
  clear A40
  simp only [Option.some.injEq, Prod.mk.injEq] at H
  obtain ⟨rfl, rfl⟩ := H
  go_enter Tryz.func8, Tryz.ntmps8
  go_wp2_with (first | ((with_reducible refine gate_dst (N := 1) rfl ?_); refine box_event (by rfl) (N := 1) (by rfl) (cs := #[.string a0_0, .int .i64 a0_1, .int .i64 a0_2, .slice A0_3 l0_3.length c0_3]) (t := 24) ?hr ?_; (case hr => go_simp <;> rfl); intro gb170 hg w5 hbox hb; have BK170 := zA (hbox); have GW170 := qG hg; have GE170 := GW170; replace HB := qH hb; clear hb hbox hg; have z6_0 := bk4 BK170.out) | ((with_reducible refine gate_dst (N := 11) rfl ?_); refine Kd.R_lit (Kd.int .i64) _ 3 (by rfl) (N := 11) (by rfl) (xs := ([a0_1, a0_2] : List Int)) (inner := [.int .i64 a0_1, .int .i64 a0_2]) (ok := fun _ => True) (okp := fun _ => True) ?hr ?hp (fun _ hk => hk) trivial (Below.refl _ _) (Nat.le_refl _) (by simp) ?_; (case hr => go_simp <;> rfl); (case hp => exact (Reps.one (show Kd.M (Kd.int .i64) _ _ _ a0_1 [.int .i64 a0_1] from rfl) (Reps.one (show Kd.M (Kd.int .i64) _ _ _ a0_2 [.int .i64 a0_2] from rfl) (Reps.none _ _)))); intro v172 w7 ho8 hb hg_ hnew_; clear hg_ hnew_; (first | rw [← Ny171.out] at ho8 | (simp only [Int.reduceToNat] at ho8; rw [← Ny171.out] at ho8)); have HO173 := zA (Kd.R_lower ho8 (below_size qB)); replace BK170 := qW BK170 hb; replace HB := qH hb; clear hb ho8; have z9_0 := bk4 BK170.out; obtain ⟨Ao10, co10, eo10⟩ := Kd.R_slice HO173.out; subst eo10) | ((with_reducible refine gate_callee (f := 20) rfl ?_); refine goesL_ (some 16) rfl rfl Tryz.func20 (by kernel_rfl) rfl #[.string (⟨#[102, 117, 110, 99]⟩ : ByteArray), .string a0_0, .bool true, .int .i64 0, .slice Ao10 y171.length co10] rfl qL ?_; (with_reducible refine (cubbyref08_line.calls k (⟨#[102, 117, 110, 99]⟩ : ByteArray) a0_0 true 0 _ _ y171 t174 t175 _ ?side1 ?side2 A2.out).mono ?_); (case side1 => repeat (first | exact (Kd.R_reads' HO173.out).2.2 | (with_reducible refine Kd.C_alloc ?_ _) | (with_reducible refine Kd.C_drewN ?_ _) | (with_reducible refine Kd.C_drew ?_))); (case side2 => exact (Kd.R_reads' HO173.out).2.1); rintro e w' ⟨rfl, ⟨nd, rfl⟩⟩; refine ⟨_, rfl, ?_⟩) | ((with_reducible refine gate_callee (f := 21) rfl ?_); refine goesL_ (some 25) rfl rfl Tryz.func21 (by kernel_rfl) rfl #[.string t174, .slice A0_3 l0_3.length c0_3, .bool false] rfl qL ?_; (with_reducible refine (cubbyref08_print.calls k t174 _ _ l0_3 false t176 t177 _ ?side1 ?side2 A4.out).mono ?_); (case side1 => repeat (first | exact (Kd.C_below HR0_3.out qB) | (with_reducible refine Kd.C_alloc ?_ _) | (with_reducible refine Kd.C_drewN ?_ _) | (with_reducible refine Kd.C_drew ?_))); (case side2 => exact HC0_3.out); rintro e w11 ⟨rfl, hb⟩; refine ⟨_, rfl, ?_⟩; replace HO173 := zA (Kd.R_below (qR HO173.out) hb); replace BK170 := qW BK170 hb; replace HB := qH hb; (try clear hb)))
  go_ret2
  exact ⟨qE, qB⟩
 ·rw [zD c3] at H
  obtain ⟨c3b0, c3b1⟩ := qn c3
  simp only [Option.some.injEq, Prod.mk.injEq] at H
  obtain ⟨rfl, rfl⟩ := H
  go_enter Tryz.func8, Tryz.ntmps8
  go_wp2_with (first | ((with_reducible refine gate_dst (N := 1) rfl ?_); refine box_event (by rfl) (N := 1) (by rfl) (cs := #[.string a0_0, .int .i64 a0_1, .int .i64 a0_2, .slice A0_3 l0_3.length c0_3]) (t := 24) ?hr ?_; (case hr => go_simp <;> rfl); intro gb170 hg w12 hbox hb; have BK170 := zA (hbox); have GW170 := qG hg; have GE170 := GW170; replace HB := qH hb; clear hb hbox hg; have z13_0 := bk4 BK170.out) | ((with_reducible refine gate_dst (N := 11) rfl ?_); refine Kd.R_lit (Kd.int .i64) _ 3 (by rfl) (N := 11) (by rfl) (xs := ([a0_1, a0_2] : List Int)) (inner := [.int .i64 a0_1, .int .i64 a0_2]) (ok := fun _ => True) (okp := fun _ => True) ?hr ?hp (fun _ hk => hk) trivial (Below.refl _ _) (Nat.le_refl _) (by simp) ?_; (case hr => go_simp <;> rfl); (case hp => exact (Reps.one (show Kd.M (Kd.int .i64) _ _ _ a0_1 [.int .i64 a0_1] from rfl) (Reps.one (show Kd.M (Kd.int .i64) _ _ _ a0_2 [.int .i64 a0_2] from rfl) (Reps.none _ _)))); intro v172 w14 ho15 hb hg_ hnew_; clear hg_ hnew_; (first | rw [← Ny171.out] at ho15 | (simp only [Int.reduceToNat] at ho15; rw [← Ny171.out] at ho15)); have HO173 := zA (Kd.R_lower ho15 (below_size qB)); replace BK170 := qW BK170 hb; replace HB := qH hb; clear hb ho15; have z16_0 := bk4 BK170.out; obtain ⟨Ao17, co17, eo17⟩ := Kd.R_slice HO173.out; subst eo17) | ((with_reducible refine gate_callee (f := 20) rfl ?_); refine goesL_ (some 16) rfl rfl Tryz.func20 (by kernel_rfl) rfl #[.string (⟨#[102, 117, 110, 99]⟩ : ByteArray), .string a0_0, .bool true, .int .i64 0, .slice Ao17 y171.length co17] rfl qL ?_; (with_reducible refine (cubbyref08_line.calls k (⟨#[102, 117, 110, 99]⟩ : ByteArray) a0_0 true 0 _ _ y171 t174 t175 _ ?side1 ?side2 A2.out).mono ?_); (case side1 => repeat (first | exact (Kd.R_reads' HO173.out).2.2 | (with_reducible refine Kd.C_alloc ?_ _) | (with_reducible refine Kd.C_drewN ?_ _) | (with_reducible refine Kd.C_drew ?_))); (case side2 => exact (Kd.R_reads' HO173.out).2.1); rintro e w' ⟨rfl, ⟨nd, rfl⟩⟩; refine ⟨_, rfl, ?_⟩))
  go_ret2
  exact ⟨qE, qB⟩
end Go.Proofs.YtniknpjeknmpjaaGreatDoor.Q
namespace Go.Proofs.YtniknpjeknmpjaaGreatDoor.Plain
open Go Go.RowKit Go.Proofs.YtniknpjeknmpjaaGreatDoorW.PrintWords Go.Proofs.YtniknpjeknmpjaaGreatDoorW.PrintMore
theorem wrap_nat {j : Nat} (h : j ≤ 4611686018427387904) : wrap64 ((j : Int) + 1) = ((j + 1 : Nat) : Int) := by
 unfold wrap64
 omega
theorem wrap_pred {j : Nat} (h0 : 0 < j) (h : j ≤ 4611686018427387904) : wrap64 ((j : Int) - 1) = ((j - 1 : Nat) : Int) := by
 unfold wrap64
 omega
theorem wrap_id {i : Int} (h0 : -4611686018427387904 ≤ i) (h : i ≤ 4611686018427387904) : wrap64 i = i := by
 unfold wrap64
 omega
theorem rd_nat (l : List Int) (j : Nat) : rd l (j : Int) = l.getD j 0 := rfl
theorem rd_get {l : List Int} {j : Nat} (h : j < l.length) : rd l (j : Int) = l[j] := by
 rw [rd_nat, List.getD_eq_getElem?_getD, List.getElem?_eq_getElem h]
 rfl
theorem drop_cons {α : Type} {l : List α} {j : Nat} (h : j < l.length) : l.drop j = l[j] :: l.drop (j + 1) := by
 rw [List.drop_eq_getElem_cons h]
theorem i64_range {n : Int} (h : (Lit.int .i64 n).wf = true) : -9223372036854775808 ≤ n ∧ n ≤ 9223372036854775807 := by
 have := bounds_i64 h
 omega
theorem loop_eq (bs : ByteArray) : ∀ (n i : Nat) (r : List UInt8), bs.size - i = n → ByteArray.toList.loop bs i r = r.reverse ++ bs.data.toList.drop i := by
 intro n
 induction n with
 | zero =>
  intro i r h
  unfold ByteArray.toList.loop
  rw [zD (by omega), List.drop_eq_nil_of_le (by simp; have : bs.data.size = bs.size := rfl; omega), List.append_nil]
 | succ n ih =>
  intro i r h
  unfold ByteArray.toList.loop
  have hs : bs.data.size = bs.size := rfl
  rw [zC (by omega), ih (i + 1) _ (by omega), List.drop_eq_getElem_cons (i := i) (by simp; omega)]
  have : bs.get! i = bs.data.toList[i]'(by simp; omega) := by
   show bs.data[i]! = _
   rw [getElem!_pos bs.data i (by omega)]
   simp
  rw [this]
  simp
theorem toList_data (bs : ByteArray) : bs.toList = bs.data.toList := by
 unfold ByteArray.toList
 rw [loop_eq bs _ 0 [] rfl]
 simp
theorem toList_inj {a b : ByteArray} : a.toList = b.toList ↔ a = b := by
 rw [toList_data, toList_data]
 constructor
 ·intro h
  cases a
  cases b
  simp at h
  rw [h]
 ·rintro rfl
  rfl
end Go.Proofs.YtniknpjeknmpjaaGreatDoor.Plain
namespace Go.Proofs.YtniknpjeknmpjaaGreatDoor.Q
open Go.RowKit Go.Shelf Go.Proofs.YtniknpjeknmpjaaGreatDoor.Plain Go.Proofs.YtniknpjeknmpjaaGreatDoorW.PrintWords Go.Proofs.YtniknpjeknmpjaaGreatDoorW.PrintLast Go.Proofs.YtniknpjeknmpjaaGreatDoorW.PrintMore
set_option linter.unusedVariables false
set_option linter.unusedSimpArgs false
theorem builderExtra : Builder.Extra Tryz.prog Tryz.lays156_ren :=
 { sizeBuilder := by kernel_rfl, liesBuilder := by kernel_rfl, t5 := Tryz.underlying5, a5 := Tryz.isAgg5, z5 := Tryz.sizeOf5, v5 := Tryz.zeroValue5, infoByte := by kernel_rfl, cellsByte := by kernel_rfl, sizeByte := by kernel_rfl, neB5 := by decide }
structure PrAt (base gp : Nat) (buf : List UInt8) (e : Int) (w : World) : Prop where
 ge : base ≤ gp
 at_ : ∃ (p : Option Addr) (v : Value), w.heap[gp]? = some (.cells #[.pointer p, v, .int .i64 e] 51 (0, 0)) ∧ (p = none ∨ p = some ⟨gp, 0, none⟩) ∧ w.ownsRow base 5 1 v (Lib.byteCells buf).length (Lib.byteCells buf)
theorem PrAt.below {base gp : Nat} {buf : List UInt8} {e : Int} {w w1 : World} (h : PrAt base gp buf e w) (hb : Below w.heap.size w w1) : PrAt base gp buf e w1 := by
 obtain ⟨ge, p, v, hk, hp, ho⟩ := h
 exact ⟨ge, p, v, blk_below hk hb, hp, pw_own_below ho hb⟩
theorem own_ne {base gp : Nat} {w : World} {v : Value} {n : Nat} {bs : List Value} {p : Option Addr} {u : Value} {e : Int} (hk : w.heap[gp]? = some (.cells #[.pointer p, u, .int .i64 e] 51 (0, 0))) (ho : w.ownsRow base 5 1 v n bs) : v.ownBlock ≠ some gp := by
 intro h
 obtain ⟨cells, hc⟩ := own_typed ho gp h
 have := hk.symm.trans hc
 simp at this
set_option maxHeartbeats 1000000 in
set_option maxRecDepth 100000 in
theorem copyCheck_calls {gp : Nat} {buf : List UInt8} {e0 : Int} {w0 w : World} (h : PrAt w0.heap.size gp buf e0 w) (hB : Below w0.heap.size w0 w) :
 Calls Tryz.prog 55 #[.pointer (some ⟨gp, 0, none⟩)] w fun e w' => e = .returned (.tuple #[]) ∧ (∃ v, w'.heap[gp]? = some (.cells #[.pointer (some ⟨gp, 0, none⟩), v, .int .i64 e0] 51 (0, 0)) ∧ w'.ownsRow w0.heap.size 5 1 v (Lib.byteCells buf).length (Lib.byteCells buf)) ∧ Below w0.heap.size w0 w' ∧ Kept w w' (fun k => k = gp) := by
 obtain ⟨ge, p, v, hk, hp, ho⟩ := h
 have hsz : (Tryz.prog.info? 49).map (·.size) = some 2 := by kernel_rfl
 obtain ⟨j, hj, hjs⟩ := Option.map_eq_some_iff.1 hsz
 have hne := own_ne hk ho
 have u1 := run_underlying Tryz.underlying49
 have u2 := run_underlying Tryz.underlying46
 have c0 : w.cell? ⟨gp, 0, none⟩ = some (.pointer p) := (blk_cell hk 0).trans rfl
 have f0 := blk_frozen hk 0
 rcases hp with rfl | rfl
 ·have hsh : w.shape? gp = some (51, 3) := by simp [World.shape?, hk]
  have hl : liesAt Tryz.prog Tryz.prog.depth 51 (3 / Tryz.prog.cellsOf 51) 0 49 1 = true := by kernel_rfl
  have HK := zA hk
  have HO := zA ho
  have HB := zA hB
  have HN := zA hne
  clear hk ho hB hne
  go_enter Tryz.func55, Tryz.ntmps55
  go_wp2
  rw [Lib.run_to_unsafe w ⟨gp, 0, none⟩ Tryz.underlying46 Tryz.underlying114 hj (by rw [hjs]; decide) hsh (Nat.zero_lt_succ 2)]
  simp only [Result.andThen]
  rw [Oper.upon_value]
  go_wp2
  rw [run_callFunc_extern Tryz.func69 (by kernel_rfl) (by kernel_rfl) (by kernel_rfl) (e := Extern.AbiNoEscape.same) (by kernel_rfl)]
  rw [Lib.run_noEscape]
  simp only [Result.andThen]
  rw [Oper.upon_value]
  go_wp2
  rw [Lib.run_from_unsafe w ⟨gp, 0, none⟩ Tryz.underlying114 Tryz.underlying46 hj hsh hl]
  simp only [Result.andThen]
  rw [Oper.upon_value]
  go_wp2
  go_end0
  exact ⟨rfl, ⟨v, blk_put HK.out 0 _ rfl, own_setCell HO.out (p := ⟨gp, 0, none⟩) (fun h => HN.out h.symm) _⟩, below_set HB.out ge, Kept.setCell (S := fun k => k = gp) (Kept.refl _ _) (.inl rfl) _⟩
 ·go_enter Tryz.func55, Tryz.ntmps55
  go_wp2
  rw [Lib.run_neq_ptr_same w _ Tryz.underlying46 hj]
  go_wp2
  go_end0
  exact ⟨rfl, ⟨v, hk, ho⟩, hB, Kept.refl _ _⟩
def KeptT (gp : Nat) (w w' : World) : Prop := w.heap.size ≤ w'.heap.size ∧ ∀ (k : Nat) (o : Obj), w.heap[k]? = some o → (∀ cs fr, o ≠ .cells cs 5 fr) → k ≠ gp → w'.heap[k]? = some o
theorem KeptT.refl (gp : Nat) (w : World) : KeptT gp w w := ⟨Nat.le_refl _, fun _ _ h _ _ => h⟩
theorem KeptT.trans {gp : Nat} {w w1 w2 : World} (h : KeptT gp w w1) (h2 : KeptT gp w1 w2) : KeptT gp w w2 := ⟨Nat.le_trans h.1 h2.1, fun k o hk ht hg => h2.2 k o (h.2 k o hk ht hg) ht hg⟩
theorem KeptT.below {gp : Nat} {w w1 w2 : World} (h : KeptT gp w w1) (hb : Below w1.heap.size w1 w2) : KeptT gp w w2 := h.trans ⟨hb.size, fun k o hk _ _ => blk_below hk hb⟩
theorem KeptT.of_kept {gp : Nat} {w w1 : World} (h : Kept w w1 (fun k => k = gp)) : KeptT gp w w1 := ⟨h.1, fun k o hk _ hg => blk_kept hk h hg⟩
theorem KeptT.set {gp : Nat} {w w1 : World} (h : KeptT gp w w1) (i : Nat) (v : Value) : KeptT gp w (w1.setCell ⟨gp, i, none⟩ v) := h.trans (KeptT.of_kept (Kept.setCell (S := fun k => k = gp) (Kept.refl _ _) (.inl rfl) _))
theorem KeptT.grown {gp : Nat} {w w1 w2 : World} {v : Value} {n : Nat} {bs : List Value} {base : Nat} (h : KeptT gp w w1) (ho : w1.ownsRow base 5 1 v n bs) (hg : w1.grownBy w2 v.ownBlock) : KeptT gp w w2 := by
 refine h.trans ⟨hg.size, fun k o hk ht hgp => (hg.block k (blk_lt hk) (fun e => ?_)).trans hk⟩
 obtain ⟨cells, hc⟩ := own_typed ho k e.symm
 exact ht cells (0, 0) (zI (hk.symm.trans hc))
theorem iter_cells {w : World} {k0 : Nat} {s : ByteArray} {p q : Nat} (hi : w.heap[k0]? = some (.stringIter s p)) {k t : Nat} {cs : Array Value} {fr : Nat × Nat} (hk : w.heap[k]? = some (.cells cs t fr)) : (w.iterAt k0 s q).heap[k]? = some (.cells cs t fr) := by
 refine (Lib.iterAt_other w k0 k s q (fun e => ?_)).trans hk
 subst e
 have := hi.symm.trans hk
 simp at this
set_option maxHeartbeats 2000000 in
set_option maxRecDepth 100000 in
theorem writeString_calls {gp : Nat} {buf : List UInt8} {e0 : Int} {w0 w : World} (h : PrAt w0.heap.size gp buf e0 w) (hB : Below w0.heap.size w0 w) (s : ByteArray) (hl : buf.length + s.size ≤ 140737488355328) :
 Calls Tryz.prog 28 #[.pointer (some ⟨gp, 0, none⟩), .string s] w fun e w' => e = .returned (.tuple #[.int .i64 s.size, .nilIface]) ∧ PrAt w0.heap.size gp (buf ++ s.data.toList) e0 w' ∧ Below w0.heap.size w0 w' ∧ KeptT gp w w' := by
 obtain ⟨i0, hi, hz0, hz1, hz2⟩ := info_parts builderExtra.infoByte
 have hge := h.ge
 have hcc := zA (copyCheck_calls h hB)
 clear h hB
 go_enter Tryz.func28, Tryz.ntmps28
 go_wp2_with (go_at_call 55; refine hcc.out.mono ?_; rintro e w1 ⟨rfl, ⟨v, hk, ho⟩, hB1, hkp⟩; refine Hid.out ?_)
 refine Lib.hid ?_
 have HK := zA hk
 have HO := zA ho
 have HB := zA hB1
 have HT := zA (KeptT.of_kept hkp)
 have hne := own_ne hk ho
 have HNE := zA hne
 have c1 : w1.cell? ⟨gp, 1, none⟩ = some v := (blk_cell hk 1).trans rfl
 clear hcc hkp hk ho hB1 hne
 go_wp2_with (at_builtin; refine Lib.wpList_append_own_string _ rfl _ _ 47 9 rfl w0.heap.size 5 i0 Tryz.underlying47 Tryz.underlying9 hi hz0 hz1 hz2 _ _ _ rfl HO.out s rfl ?c3 ?c4 ?c5 ?_)
 case c3 => have := Lib.byteCells_length buf; unfold maxLen; omega
 case c4 => have := Lib.byteCells_length buf; omega
 case c5 => exact below_size HB.out
 intro v' w2 hown' hgrow _
 have hk2 : w2.heap[gp]? = some (.cells #[.pointer (some ⟨gp, 0, none⟩), v, .int .i64 e0] 51 (0, 0)) := (hgrow.block gp (blk_lt HK.out) (fun e => HNE.out e.symm)).trans HK.out
 have HK2 := zA hk2
 have d1 : w2.cell? ⟨gp, 1, none⟩ = some v := (blk_cell hk2 1).trans rfl
 have f1 : w2.frozen? ⟨gp, 1, none⟩ = false := blk_frozen hk2 1
 have HO2 := zA hown'
 have HB2 := zA (HB.out.grown hgrow (below_size HB.out) (fun k hk => (HO.out.lt k hk).1))
 have HT2 := zA (HT.out.grown HO.out hgrow)
 have hne2 := own_ne hk2 hown'
 obtain ⟨ao, n', cap, rfl⟩ : ∃ ao n' cap, v' = .slice ao n' cap := by
  rcases hown'.2 with ⟨hv, _⟩ | ⟨g, cap, cur, hv, _⟩
  ·exact ⟨_, _, _, hv⟩
  ·exact ⟨_, _, _, hv⟩
 have HNE2 := zA hne2
 clear hne2 hown' hgrow hk2 c1
 go_wp2
 go_ret2
 refine ⟨rfl, ⟨hge, some ⟨gp, 0, none⟩, .slice ao n' cap, blk_put HK2.out 1 _ rfl, .inr rfl, ?_⟩, below_set HB2.out hge, HT2.out.set 1 _⟩
 have e1 : Lib.byteCells (buf ++ s.data.toList) = Lib.byteCells buf ++ Lib.strCells s := by rw [Lib.byteCells_append]; rfl
 rw [e1, List.length_append, Lib.strCells_length]
 exact own_setCell HO2.out (p := ⟨gp, 1, none⟩) (fun h => HNE2.out h.symm) _
set_option maxHeartbeats 2000000 in
set_option maxRecDepth 100000 in
theorem string_calls {gp : Nat} {buf : List UInt8} {e0 : Int} {w0 w : World} (h : PrAt w0.heap.size gp buf e0 w) (hB : Below w0.heap.size w0 w) (h0 : buf ≠ []) :
 Calls Tryz.prog 36 #[.pointer (some ⟨gp, 0, none⟩)] w fun e w' => e = .returned (.string ⟨buf.toArray⟩) ∧ Below w0.heap.size w0 w' := by
 obtain ⟨ge, p, v, hbk, hp, hown⟩ := h
 have hl0 : buf.length ≠ 0 := by simpa using h0
 rw [Lib.byteCells_length] at hown
 obtain ⟨g, cap, cur, rfl, hbg, hg, hnc, hcm, hcs, htake⟩ : ∃ g cap cur, v = .slice (some ⟨g, 0, none⟩) buf.length cap ∧ w0.heap.size ≤ g ∧ w.heap[g]? = some (.cells cur 5 (0, 0)) ∧ buf.length ≤ cap ∧ cap ≤ maxLen ∧ cur.size = cap * 1 ∧ cur.toList.take (buf.length * 1) = Lib.byteCells buf := by
  rcases hown.2 with ⟨_, hz⟩ | ⟨g, cap, cur, hv, r⟩
  ·exact absurd hz hl0
  ·exact ⟨g, cap, cur, hv, r⟩
 have c1 : w.drew.cell? ⟨gp, 1, none⟩ = some (.slice (some ⟨g, 0, none⟩) buf.length cap) := by
  have : w.drew.heap[gp]? = some (.cells #[.pointer p, .slice (some ⟨g, 0, none⟩) buf.length cap, .int .i64 e0] 51 (0, 0)) := hbk
  exact (blk_cell this 1).trans rfl
 have hSD : (Builtin.unsafeSliceData_ #[47] 105 #[.slice (some ⟨g, 0, none⟩) buf.length cap]).run Tryz.prog w.drew = .ok (.pointer (some ⟨g, 0, none⟩)) w.drew :=
  Lib.run_unsafeSliceData_row _ _ _ _ _ _ (by omega)
 have hUS : (Builtin.unsafeString_ #[105, 3] 9 #[.pointer (some ⟨g, 0, none⟩), .int .i64 buf.length]).run Tryz.prog w.drew = .ok (.string ⟨buf.toArray⟩) (w.drew.freeze ⟨g, 0, none⟩ buf.length) := by
  refine Lib.run_unsafeString_row w.drew 105 3 9 5 Tryz.underlying105 (by kernel_rfl) g cur.size (by have hg' : w.drew.heap[g]? = some (.cells cur 5 (0, 0)) := hg; simp [World.shape?, hg']) buf h0 (by omega) (by unfold maxLen at hcm; omega) ?_
  intro j x hx
  exact hown.cells (g := g) rfl j (.int .u8 x.toNat) (by simp [Lib.byteCells, hx])
 have HB := zA (Lib.below_freeze (Below.drew hB) (p := ⟨g, 0, none⟩) hbg buf.length)
 clear hown htake hbk hB hg
 go_enter Tryz.func36, Tryz.ntmps36
 go_wp2
 go_region
 all_goals (go_wp2; go_ret; exact ⟨rfl, HB.out⟩)
theorem joinR_calls {w : World} {base : Nat} {ok : Nat → Prop} {g c : Nat} {xs : List ByteArray} (h : Kd.R Kd.string 9 w base ok (.slice (some ⟨g, 0, none⟩) xs.length c) xs) (hN : xs.length ≤ 140737488355328) (hlen : (Lib.join (xs.map (·.data.toList)) [32]).length ≤ 140737488355328) :
 Calls Tryz.prog 29 #[.slice (some ⟨g, 0, none⟩) xs.length c, .string ⟨#[32]⟩] w fun e w' => e = .returned (.string ⟨(Lib.join (xs.map (·.data.toList)) [32]).toArray⟩) ∧ Below w.heap.size w w' := by
 have hr := Kd.R_reads' h
 refine Any.strings_Join Tryz.lays156 builderExtra g 0 c xs ⟨#[32]⟩ w (fun j x hx => ?_) (Kd.R_lt h g (by simp [Value.ownBlock])) hN hr.2.1 hlen
 have hj := (List.getElem?_eq_some_iff.1 hx).1
 obtain ⟨ad, ea, hc⟩ := Kd.at_string hr.2.2 (j : Int) (by omega) (by omega)
 cases ea
 rw [Nat.zero_add]
 rw [Int.toNat_natCast] at hc
 have e : rdOf ByteArray.empty xs (j : Int) = x := by show xs.getD _ _ = _; rw [Int.toNat_natCast, List.getD_eq_getElem?_getD, hx]; rfl
 rw [e] at hc
 by_cases h0 : j = 0
 ·subst h0; simpa [Addr.add] using hc
 ·simpa [Addr.add, h0] using hc
end Go.Proofs.YtniknpjeknmpjaaGreatDoor.Q
namespace Go.Proofs.YtniknpjeknmpjaaGreatDoor.Q
open Go.RowKit Go.Shelf Go.Proofs.YtniknpjeknmpjaaGreatDoorW.PrintWords Go.Proofs.YtniknpjeknmpjaaGreatDoorW.PrintLast Go.Proofs.YtniknpjeknmpjaaGreatDoorW.PrintMore
set_option linter.unusedVariables false
def nameCut : ByteArray := ⟨#[97, 98, 99, 100, 101, 102, 103, 104, 105, 106, 107, 108, 109, 110, 111, 112, 113, 114, 115, 116, 117, 118, 119, 120, 121, 122, 48, 49, 50, 51, 52, 53, 54, 55, 56, 57]⟩
def strings_Trim.f (a0 a1 : ByteArray) : Option ByteArray := if a0.size ≤ 9223372036854775807 ∧ a1 = nameCut then some ⟨(Lib.trimS a0.data.toList a1.data.toList).toArray⟩ else none
theorem strings_Trim.calls (a0 a1 : ByteArray) (r : ByteArray) (w : World) (h : strings_Trim.f a0 a1 = some r) :
 Calls Tryz.prog 57 #[.string a0, .string a1] w fun e w' => e = .returned (.string r) ∧ Below w.heap.size w w' := by
 unfold strings_Trim.f at h
 split at h
 ·next c =>
  obtain ⟨c0, rfl⟩ := c
  obtain rfl := zI h
  exact Any.strings_Trim_laid Tryz.lays160 (by kernel_rfl) a0 nameCut w c0 (by decide) (ascii_of_all (by decide))
 ·exact absurd h (by simp)
end Go.Proofs.YtniknpjeknmpjaaGreatDoor.Q
namespace Go.Proofs.YtniknpjeknmpjaaGreatDoor.Q
open Go.RowKit Go.Proofs.YtniknpjeknmpjaaGreatDoorW.PrintWords Go.Proofs.YtniknpjeknmpjaaGreatDoorW.PrintLast Go.Proofs.YtniknpjeknmpjaaGreatDoorW.PrintMore
attribute [local go_sem] max2_int min2_int max_two min_two max_three min_three max_four min_four
set_option linter.unusedVariables false
set_option linter.unusedSimpArgs false

def ir_Name.f (a0 : ByteArray) : Option (Bool) := if a0.toList = ([] : List UInt8) then (some false) else (if (a0.size : Int) > 12 then (some false) else (if 0 < (a0.size : Int) then (if (bt a0 0) < 97 then (some false) else ((strings_Trim.f a0 (⟨#[97, 98, 99, 100, 101, 102, 103, 104, 105, 106, 107, 108, 109, 110, 111, 112, 113, 114, 115, 116, 117, 118, 119, 120, 121, 122, 48, 49, 50, 51, 52, 53, 54, 55, 56, 57]⟩ : ByteArray)).bind fun t109 => (some (t109.toList == ([] : List UInt8))))) else (none)))
set_option maxHeartbeats 8000000 in
set_option maxRecDepth 100000 in
theorem ir_Name.calls (a0 : ByteArray) (r : Bool) (w : World) (h : ir_Name.f a0 = some r) :
 Calls Tryz.prog 30 #[.string a0] w fun e w' => e = .returned (.bool r) ∧ Below w.heap.size w w' := by
 have HB := zA (Below.refl w.heap.size w)
 have H := h; clear h; unfold ir_Name.f at H
 by_cases c2 : a0.toList = ([] : List UInt8)
 ·rw [zC c2] at H
  obtain ⟨c2b0, c2b1⟩ := qe c2; clear c2
  obtain rfl := zI H
  go_enter Tryz.func30, Tryz.ntmps30
  go_wp2
  go_ret
  exact ⟨qE, qB⟩
 ·rw [zD c2] at H
  obtain ⟨c2b0, c2b1⟩ := qn c2
  by_cases c3 : (a0.size : Int) > 12
  ·rw [zC c3] at H
   have c3b0 : decide (12 < (a0.size : Int)) = true := zF c3
   have c3b1 : decide (12 < a0.size) = true := zF (by omega)
   clear c3
   obtain rfl := zI H
   go_enter Tryz.func30, Tryz.ntmps30
   go_wp2
   go_ret
   exact ⟨qE, qB⟩
  ·rw [zD c3] at H
   have c3b0 : decide (12 < (a0.size : Int)) = false := zG c3
   have c3b1 : decide (12 < a0.size) = false := zG (by omega)
   clear c3
   by_cases c4 : 0 < (a0.size : Int)
   ·rw [zC c4] at H
    have c4b0 := zF c4
    have c4b1 : decide (0 < a0.size) = true := zF (by omega)
    clear c4
    by_cases c6 : (bt a0 0) < 97
    ·rw [zC c6] at H
     have c6b0 := zF c6
     clear c6
     obtain rfl := zI H
     have p5 : 0 ≤ (0 : Int) := (by omega)
     have q5 : 0 < a0.size := (by have : (0 : Int) < (a0.size : Int) := zB qA; omega)
     have hx5 : ∀ h : 0 < a0.size, ((a0[0]'h).toNat : Int) = bt a0 0 := bt_at a0 0
     clear p5
     have qi5 : (0 < (a0.size : Int)) = True := eq_true (zB qA)
     replace q5 := eq_true q5
     go_enter Tryz.func30, Tryz.ntmps30
     go_wp2
     go_ret
     exact ⟨qE, qB⟩
    ·rw [zD c6] at H
     have c6b0 := zG c6
     clear c6
     replace H := qb H; obtain ⟨t109, A7, H⟩ := H
     obtain rfl := zI H
     have p5 : 0 ≤ (0 : Int) := (by omega)
     have q5 : 0 < a0.size := (by have : (0 : Int) < (a0.size : Int) := zB qA; omega)
     have hx5 : ∀ h : 0 < a0.size, ((a0[0]'h).toNat : Int) = bt a0 0 := bt_at a0 0
     clear p5
     have qi5 : (0 < (a0.size : Int)) = True := eq_true (zB qA)
     replace q5 := eq_true q5
     go_enter Tryz.func30, Tryz.ntmps30
     go_wp2_with (first | ((with_reducible refine gate_callee (f := 57) rfl ?_); refine goesL_ (some 16) rfl rfl Tryz.func57 (by kernel_rfl) rfl #[.string a0, .string (⟨#[97, 98, 99, 100, 101, 102, 103, 104, 105, 106, 107, 108, 109, 110, 111, 112, 113, 114, 115, 116, 117, 118, 119, 120, 121, 122, 48, 49, 50, 51, 52, 53, 54, 55, 56, 57]⟩ : ByteArray)] rfl qL ?_; (with_reducible refine (strings_Trim.calls a0 (⟨#[97, 98, 99, 100, 101, 102, 103, 104, 105, 106, 107, 108, 109, 110, 111, 112, 113, 114, 115, 116, 117, 118, 119, 120, 121, 122, 48, 49, 50, 51, 52, 53, 54, 55, 56, 57]⟩ : ByteArray) t109 _ A7.out).mono ?_); rintro e w8 ⟨rfl, hb⟩; refine ⟨_, rfl, ?_⟩; replace HB := qH hb; (try clear hb)))
     go_ret
     exact ⟨qE, qB⟩
   ·rw [zD c4] at H
    exact absurd H (by simp)
end Go.Proofs.YtniknpjeknmpjaaGreatDoor.Q
namespace Go.Proofs.YtniknpjeknmpjaaGreatDoor.Q
open Go.RowKit Go.Shelf Go.Proofs.YtniknpjeknmpjaaGreatDoor.Plain Go.Proofs.YtniknpjeknmpjaaGreatDoorW.PrintWords Go.Proofs.YtniknpjeknmpjaaGreatDoorW.PrintLast Go.Proofs.YtniknpjeknmpjaaGreatDoorW.PrintMore
set_option linter.unusedVariables false
set_option linter.unusedSimpArgs false
def keepE (e e1 : Int) : Int := if e = 0 then e1 else e
inductive Part where
 | num (n : Int)
 | nm (s : ByteArray)
def Part.text : Part → List UInt8
 | .num n => Lib.itoa n
 | .nm s => s.data.toList
def Part.err : Part → Int
 | .num n => if n < 0 ∨ 2147483648 ≤ n then 81 else 0
 | .nm _ => 0
def PartAt (gp : Nat) (w : World) (v : Value) : Part → Prop
 | .num n => ∃ b1 b2, v = .func (.func 33) #[] #[.pointer (some ⟨b1, 0, none⟩), .pointer (some ⟨b2, 0, none⟩)] ∧ w.heap[b1]? = some (.cells #[.int .i64 n] 3 (0, 0)) ∧ w.heap[b2]? = some (.cells #[.pointer (some ⟨gp, 0, none⟩)] 45 (0, 0))
 | .nm s => ∃ b, v = .func (.func 32) #[] #[.pointer (some ⟨b, 0, none⟩)] ∧ w.heap[b]? = some (.cells #[.string s] 9 (0, 0))
theorem kept_blk {gp : Nat} {buf : List UInt8} {e : Int} {base : Nat} {w w' : World} (hp : PrAt base gp buf e w) (h : KeptT gp w w') {k t : Nat} {cs : Array Value} (hk : w.heap[k]? = some (.cells cs t (0, 0))) (ht : t ≠ 5) (hn : t ≠ 51) : w'.heap[k]? = some (.cells cs t (0, 0)) := by
 refine h.2 k _ hk (fun c f e => ht (by injection e)) (fun e_ => ?_)
 subst e_
 obtain ⟨_, p, v, h2, _⟩ := hp
 have := hk.symm.trans h2
 simp at this
 exact hn this.2
theorem PartAt.kept {gp : Nat} {buf : List UInt8} {e : Int} {base : Nat} {w w' : World} {v : Value} {p : Part} (hp : PrAt base gp buf e w) (h : KeptT gp w w') (hv : PartAt gp w v p) : PartAt gp w' v p := by
 cases p with
 | num n =>
  obtain ⟨b1, b2, rfl, h1, h2⟩ := hv
  exact ⟨b1, b2, rfl, kept_blk hp h h1 (by decide) (by decide), kept_blk hp h h2 (by decide) (by decide)⟩
 | nm s =>
  obtain ⟨b, rfl, h1⟩ := hv
  exact ⟨b, rfl, kept_blk hp h h1 (by decide) (by decide)⟩
theorem PartAt.below {gp : Nat} {w w' : World} {v : Value} {p : Part} (hb : Below w.heap.size w w') (hv : PartAt gp w v p) : PartAt gp w' v p := by
 cases p with
 | num n =>
  obtain ⟨b1, b2, rfl, h1, h2⟩ := hv
  exact ⟨b1, b2, rfl, blk_below h1 hb, blk_below h2 hb⟩
 | nm s =>
  obtain ⟨b, rfl, h1⟩ := hv
  exact ⟨b, rfl, blk_below h1 hb⟩
section
variable {gp : Nat} {buf : List UInt8} {e0 : Int} {w0 w : World}
set_option maxHeartbeats 2000000 in
set_option maxRecDepth 100000 in
theorem wrong_calls (h : PrAt w0.heap.size gp buf e0 w) (hB : Below w0.heap.size w0 w) (e1 : Int) :
 Calls Tryz.prog 31 #[.pointer (some ⟨gp, 0, none⟩), .int .i64 e1] w fun e w' => e = .returned (.tuple #[]) ∧ PrAt w0.heap.size gp buf (keepE e0 e1) w' ∧ Below w0.heap.size w0 w' ∧ KeptT gp w w' := by
 obtain ⟨ge, p, v, hk, hp, ho⟩ := h
 have HK := zA hk
 have HP := zA hp
 have HO := zA ho
 have HB := zA hB
 have HN := zA (own_ne hk ho)
 have c2 : w.cell? ⟨gp, 2, none⟩ = some (.int .i64 e0) := (blk_cell hk 2).trans rfl
 have f2 := blk_frozen hk 2
 clear hk hp ho hB
 by_cases c : e0 = 0
 ·obtain ⟨ca, cb⟩ := qe c
  have hke : keepE e0 e1 = e1 := zC c
  clear c
  rw [hke]
  clear hke
  go_enter Tryz.func31, Tryz.ntmps31
  go_wp2
  go_end0
  exact ⟨rfl, ⟨ge, p, v, blk_put HK.out 2 _ rfl, HP.out, own_setCell HO.out (p := ⟨gp, 2, none⟩) (fun h => HN.out h.symm) _⟩, below_set HB.out ge, (KeptT.refl gp w).set 2 _⟩
 ·obtain ⟨ca, cb⟩ := qn c
  have hke : keepE e0 e1 = e0 := zD c
  clear c
  rw [hke]
  clear hke
  go_enter Tryz.func31, Tryz.ntmps31
  go_wp2
  go_end0
  exact ⟨rfl, ⟨ge, p, v, HK.out, HP.out, HO.out⟩, HB.out, KeptT.refl gp w⟩
set_option maxHeartbeats 2000000 in
set_option maxRecDepth 100000 in
theorem number_calls (n : Int) : Calls Tryz.prog 18 #[.pointer (some ⟨gp, 0, none⟩), .int .i64 n] w fun e w' => ∃ v, e = .returned v ∧ PartAt gp w' v (.num n) ∧ Below w.heap.size w w' := by
 have hmf : ∀ (fn : Fn) (first cap : Array Value) (w : World), (Instr.makeFunc fn first cap).run Tryz.prog w = .ok (.func fn first cap) w := fun _ _ _ _ => rfl
 go_enter Tryz.func18, Tryz.ntmps18
 go_wp2
 go_ret
 exact ⟨_, rfl, ⟨_, _, rfl, by simpa using blk_new (w.alloc _) _, blk_alloc (blk_new w _) _⟩, below_alloc (below_alloc (Below.refl _ _) _) _⟩
set_option maxHeartbeats 2000000 in
set_option maxRecDepth 100000 in
theorem name_calls (h : PrAt w0.heap.size gp buf e0 w) (hB : Below w0.heap.size w0 w) (s : ByteArray) (b : Bool) (hn : ir_Name.f s = some b) :
 Calls Tryz.prog 17 #[.pointer (some ⟨gp, 0, none⟩), .string s] w fun e w' => ∃ v, e = .returned v ∧ PartAt gp w' v (.nm s) ∧ PrAt w0.heap.size gp buf (if b then e0 else keepE e0 80) w' ∧ Below w0.heap.size w0 w' ∧ KeptT gp w w' := by
 have hmf : ∀ (fn : Fn) (first cap : Array Value) (w : World), (Instr.makeFunc fn first cap).run Tryz.prog w = .ok (.func fn first cap) w := fun _ _ _ _ => rfl
 have HP := zA h
 have HB := zA hB
 have HN := zA hn
 have HT := zA (KeptT.refl gp w)
 clear h hB hn
 go_enter Tryz.func17, Tryz.ntmps17
 cases b with
 | true =>
  go_wp2_with (first
   | ((with_reducible refine gate_dst (N := 3) rfl ?_); refine box_event (by rfl) (N := 3) (by rfl) (cs := #[.string s]) (t := 9) ?hr ?_; (case hr => go_simp <;> rfl); intro gs hg w1 hbox hb; have BS := zA hbox; replace HP := zA (HP.out.below hb); replace HB := zA (below_step HB.out hb); replace HT := zA (HT.out.below hb); clear hb hbox hg; have z1 := bk1 BS.out)
   | (go_at_call 30; refine (ir_Name.calls s true _ HN.out).mono ?_; rintro e w2 ⟨rfl, hb⟩; replace BS := zA (blk_below BS.out hb); replace HP := zA (HP.out.below hb); replace HB := zA (below_step HB.out hb); replace HT := zA (HT.out.below hb); clear hb z1; have z1 := bk1 BS.out))
  go_ret
  exact ⟨_, rfl, ⟨gs, rfl, BS.out⟩, HP.out, HB.out, HT.out⟩
 | false =>
  go_wp2_with (first
   | ((with_reducible refine gate_dst (N := 3) rfl ?_); refine box_event (by rfl) (N := 3) (by rfl) (cs := #[.string s]) (t := 9) ?hr ?_; (case hr => go_simp <;> rfl); intro gs hg w1 hbox hb; have BS := zA hbox; replace HP := zA (HP.out.below hb); replace HB := zA (below_step HB.out hb); replace HT := zA (HT.out.below hb); clear hb hbox hg; have z1 := bk1 BS.out)
   | (go_at_call 30; refine (ir_Name.calls s false _ HN.out).mono ?_; rintro e w2 ⟨rfl, hb⟩; replace BS := zA (blk_below BS.out hb); replace HP := zA (HP.out.below hb); replace HB := zA (below_step HB.out hb); replace HT := zA (HT.out.below hb); clear hb z1; have z1 := bk1 BS.out)
   | (go_at_call 31; refine (wrong_calls HP.out HB.out 80).mono ?_; rintro e w3 ⟨rfl, hp, hb, ht⟩; replace BS := zA (kept_blk HP.out ht BS.out (by decide) (by decide)); replace HP := zA hp; replace HB := zA hb; replace HT := zA (HT.out.trans ht); clear hp hb ht z1; have z1 := bk1 BS.out))
  go_ret
  exact ⟨_, rfl, ⟨gs, rfl, BS.out⟩, HP.out, HB.out, HT.out⟩
theorem keep_zero (e : Int) : keepE e 0 = e := by unfold keepE; split <;> simp_all
set_option maxHeartbeats 2000000 in
set_option maxRecDepth 100000 in
theorem number1_calls (h : PrAt w0.heap.size gp buf e0 w) (hB : Below w0.heap.size w0 w) (hL : LaidW w0) (n : Int) (hn : -9223372036854775808 ≤ n ∧ n ≤ 9223372036854775807) (b1 b2 : Nat) (h1 : w.heap[b1]? = some (.cells #[.int .i64 n] 3 (0, 0))) (h2 : w.heap[b2]? = some (.cells #[.pointer (some ⟨gp, 0, none⟩)] 45 (0, 0))) :
 Calls Tryz.prog 33 #[.pointer (some ⟨b1, 0, none⟩), .pointer (some ⟨b2, 0, none⟩)] w fun e w' => e = .returned (.string ⟨(Lib.itoa n).toArray⟩) ∧ PrAt w0.heap.size gp buf (keepE e0 (Part.err (.num n))) w' ∧ Below w0.heap.size w0 w' ∧ KeptT gp w w' := by
 have HP := zA h
 have HB := zA hB
 have HLd := zA hL
 have HT := zA (KeptT.refl gp w)
 have B1 := zA h1
 have B2 := zA h2
 have z1 := bk1 h1
 have z2 := bk1 h2
 obtain ⟨u, hu⟩ : ∃ u, u = (⟨(Lib.itoa n).toArray⟩ : ByteArray) := ⟨_, rfl⟩
 rw [← hu]
 have HF := zA (show strconv_Itoa_34.f n = some u by unfold strconv_Itoa_34.f; rw [zC hn, hu])
 clear h hB hL h1 h2 hu hn
 by_cases c1 : n < 0 ∨ 2147483648 ≤ n
 ·have he : Part.err (.num n) = 81 := zC c1
  rw [he]
  clear he
  by_cases c2 : n < 0
  all_goals
   first
   | have c2b := zF c2
   | (have c2b := zG c2; have c3b := zF (show 2147483648 ≤ n by omega))
   go_enter Tryz.func33, Tryz.ntmps33
   go_wp2_with (first
    | (go_at_call 31; refine (wrong_calls HP.out HB.out 81).mono ?_; rintro e w3 ⟨rfl, hp, hb, ht⟩; replace B1 := zA (kept_blk HP.out ht B1.out (by decide) (by decide)); replace HP := zA hp; replace HB := zA hb; replace HT := zA (HT.out.trans ht); clear hp hb ht z1 z2; have z1 := bk1 B1.out)
    | (go_at_call 34; refine (strconv_Itoa_34.calls n u _ (HLd.out.below HB.out) HF.out).mono ?_; rintro e w4 ⟨rfl, hb⟩; replace HP := zA (HP.out.below hb); replace HB := zA (below_step HB.out hb); replace HT := zA (HT.out.below hb); clear hb z1))
   go_ret
   exact ⟨rfl, HP.out, HB.out, HT.out⟩
 ·have he : Part.err (.num n) = 0 := zD c1
  rw [he, keep_zero]
  clear he
  have c2b := zG (show ¬ n < 0 by omega)
  have c3b := zG (show ¬ 2147483648 ≤ n by omega)
  clear c1
  go_enter Tryz.func33, Tryz.ntmps33
  go_wp2_with (go_at_call 34; refine (strconv_Itoa_34.calls n u _ (HLd.out.below HB.out) HF.out).mono ?_; rintro e w4 ⟨rfl, hb⟩; replace HP := zA (HP.out.below hb); replace HB := zA (below_step HB.out hb); replace HT := zA (HT.out.below hb); clear hb z1 z2)
  go_ret
  exact ⟨rfl, HP.out, HB.out, HT.out⟩
set_option maxHeartbeats 2000000 in
set_option maxRecDepth 100000 in
theorem name1_calls (s : ByteArray) (b : Nat) (h : w.heap[b]? = some (.cells #[.string s] 9 (0, 0))) :
 Calls Tryz.prog 32 #[.pointer (some ⟨b, 0, none⟩)] w fun e w' => e = .returned (.string s) ∧ w = w' := by
 have z1 := bk1 h
 go_enter Tryz.func32, Tryz.ntmps32
 go_wp2
 go_ret
 exact ⟨rfl, rfl⟩
theorem R_keptT {α : Type} {d : Kd α} {e base : Nat} {ok : Nat → Prop} {v : Value} {xs : List α} {w' : World} (hr : d.R e w base ok v xs) (hp : PrAt w0.heap.size gp buf e0 w) (ht : KeptT gp w w') (hty : ∀ q, q ∈ e :: d.E → q ≠ 5 ∧ q ≠ 51) : d.R e w' base ok v xs := by
 refine Kd.R_mono (Kd.R_step (Kd.R_bound hr) (fun k hk _ => ?_)) (fun k hk => hk.1)
 obtain ⟨_, _, _, q, hq, cells, hc⟩ := hk
 exact (kept_blk hp ht hc (hty q hq).1 (hty q hq).2).trans hc.symm
def Part.str : Part → ByteArray
 | .num n => ⟨(Lib.itoa n).toArray⟩
 | .nm s => s
theorem PrAt.grown {α : Type} {d : Kd α} {t base : Nat} {ok : Nat → Prop} {v : Value} {xs : List α} {w' : World} (hp : PrAt w0.heap.size gp buf e0 w) (hr : d.R t w base ok v xs) (hg : w.grownBy w' v.ownBlock) (h1 : t ≠ 5) (h2 : t ≠ 51) : PrAt w0.heap.size gp buf e0 w' := by
 obtain ⟨ge, p, u, hk, hpp, ho⟩ := hp
 have n1 : ∀ k, v.ownBlock = some k → k ≠ gp := fun k hk' e => by
  obtain ⟨cells, hc⟩ := Kd.R_typed hr k hk'
  subst e
  have := hk.symm.trans hc
  simp at this
  exact h2 this.2.symm
 refine ⟨ge, p, u, (hg.block gp (blk_lt hk) (fun e => n1 gp e.symm rfl)).trans hk, hpp, own_other ho hg ?_⟩
 cases hu : u.ownBlock with
 | none => exact .inl rfl
 | some k =>
  refine .inr (fun e => ?_)
  obtain ⟨c1, h3⟩ := own_typed ho k hu
  obtain ⟨c2, h4⟩ := Kd.R_typed hr k e.symm
  have := h3.symm.trans h4
  simp at this
  exact h1 this.2.symm
theorem KeptT.later {w1 w' : World} (h : KeptT gp w w1) (hb : Below w.heap.size w1 w') : KeptT gp w w' := ⟨Nat.le_trans h.1 hb.size, fun k o hk ht hg => (hb.block k (blk_lt hk)).trans (h.2 k o hk ht hg)⟩
def PartsAt (gp : Nat) (w : World) (A : Option Addr) (ps : List Part) : Prop := ps = [] ∨ ∃ (bp : Nat) (cs : Array Value), A = some ⟨bp, 0, none⟩ ∧ w.heap[bp]? = some (.cells cs 53 (0, 0)) ∧ ∀ (j : Nat) p, ps[j]? = some p → ∃ v, cs[j]? = some v ∧ PartAt gp w v p
theorem PartsAt.kept {A : Option Addr} {ps : List Part} {w' : World} (hp : PrAt w0.heap.size gp buf e0 w) (ht : KeptT gp w w') (h : PartsAt gp w A ps) : PartsAt gp w' A ps := by
 rcases h with h | ⟨bp, cs, e, hk, hc⟩
 ·exact .inl h
 ·exact .inr ⟨bp, cs, e, kept_blk hp ht hk (by decide) (by decide), fun j p hj => by obtain ⟨v, h1, h2⟩ := hc j p hj; exact ⟨v, h1, h2.kept hp ht⟩⟩
theorem PartsAt.below {A : Option Addr} {ps : List Part} {w' : World} (hb : Below w.heap.size w w') (h : PartsAt gp w A ps) : PartsAt gp w' A ps := by
 rcases h with h | ⟨bp, cs, e, hk, hc⟩
 ·exact .inl h
 ·exact .inr ⟨bp, cs, e, blk_below hk hb, fun j p hj => by obtain ⟨v, h1, h2⟩ := hc j p hj; exact ⟨v, h1, h2.below hb⟩⟩
def errsOf (e : Int) (ps : List Part) : Int := ps.foldl (fun e p => keepE e p.err) e
def lineBytes (wd : ByteArray) (ps : List Part) : List UInt8 := Lib.join ((wd :: ps.map Part.str).map (·.data.toList)) [32] ++ [10]
def PartOk : Part → Prop
 | .num n => -9223372036854775808 ≤ n ∧ n ≤ 9223372036854775807
 | .nm _ => True
set_option maxHeartbeats 4000000 in
set_option maxRecDepth 100000 in
theorem line_calls (h : PrAt w0.heap.size gp buf e0 w) (hB : Below w0.heap.size w0 w) (hL : LaidW w0) (wd : ByteArray) (ps : List Part) (A : Option Addr) (c : Nat) (hps : PartsAt gp w A ps) (hok : ∀ p ∈ ps, PartOk p) (hpl : ps.length ≤ 100000) (hlen : (lineBytes wd ps).length ≤ 1000000000) (hbl : buf.length ≤ 1000000000) :
 Calls Tryz.prog 16 #[.pointer (some ⟨gp, 0, none⟩), .string wd, .slice A ps.length c] w fun e w' => e = .returned (.tuple #[]) ∧ PrAt w0.heap.size gp (buf ++ lineBytes wd ps) (errsOf e0 ps) w' ∧ Below w0.heap.size w0 w' ∧ KeptT gp w w' := by
 have HP := zA h
 have HB := zA hB
 have HLd := zA hL
 have HT := zA (KeptT.refl gp w)
 have HQ := zA hps
 have HOk := zA hok
 have HLen := zA hlen
 have HBl := zA hbl
 clear h hB hL hps hok hlen hbl
 go_enter Tryz.func16, Tryz.ntmps16
 have HBw := HB
 have HPw := HP
 go_wp2_with ((with_reducible refine gate_dst (N := 10) rfl ?_); refine Kd.R_lit Kd.string (w0 := w) w.heap.size 9 (by rfl) (N := 10) (by rfl) (xs := [wd]) (inner := [.string wd]) (ok := fun _ => True) (okp := fun _ => True) ?hr ?hp (fun _ hk => hk) trivial (Below.refl _ _) (Nat.le_refl _) (by simp) ?_; (case hr => go_simp <;> rfl); (case hp => exact Reps.one (show Kd.M Kd.string _ _ _ wd [.string wd] from rfl) (Reps.none _ _)); intro v10 w1 ho_ hb_ hg_ hnew_; have HS := zA ho_; replace HP := zA (HP.out.below hb_); replace HT := zA (HT.out.below hb_); replace HB := zA (below_step HB.out hb_); clear ho_ hb_ hg_ hnew_)
 go_loopg [6, 13] ps.length (fun kq v6 v13 w' => ∃ (i : Nat) (e1 : Int) (xs : List ByteArray), v13 = .int .i64 (i : Int) ∧ Aside0 (kq + i = ps.length) ∧ Aside0 (xs = wd :: (ps.take i).map Part.str) ∧ Aside0 (e1 = errsOf e0 (ps.take i)) ∧ Aside0 (Kd.R Kd.string 9 w' w.heap.size (fun _ => True) v6 xs) ∧
  Aside0 (PrAt w0.heap.size gp buf e1 w') ∧ Aside0 (Below w0.heap.size w0 w') ∧ Aside0 (KeptT gp w w'))
 case atStart => exact ⟨0, e0, [wd], by first | rfl | simp, ⟨by omega⟩, ⟨by simp⟩, ⟨by simp [errsOf]⟩, HS, HP, HB, HT⟩
 case round =>
  clear HS HP HB HT
  obtain ⟨i, e1, xs, rfl, HK, HXs, HE, HS, HP, HB, HT⟩ := hrel
  have hxl : xs.length ≤ 200000 := by rw [HXs.out]; simp; omega
  cases gk with
  | zero =>
   have d1b := zG (show ¬ ((i : Int) < (ps.length : Int)) by have := HK.out; omega)
   have d1c := zG (show ¬ (i < ps.length) by have := HK.out; omega)
   have hip : i = ps.length := by have := HK.out; omega
   obtain ⟨g, cg, eg, -, -, -⟩ := Kd.R_form HS.out (by rw [HXs.out]; simp)
   subst eg
   obtain ⟨tx, htx⟩ : ∃ tx, tx = (⟨(Lib.join (xs.map (·.data.toList)) [32]).toArray⟩ : ByteArray) := ⟨_, rfl⟩
   have hlb : lineBytes wd ps = (tx ++ (⟨#[10]⟩ : ByteArray)).data.toList := by
    rw [ByteArray.data_append, Array.toList_append, htx]
    unfold lineBytes
    rw [HXs.out, hip, List.take_length]
    first | done | rfl
   have hts : tx.size + 1 ≤ 1000000000 := by
    have := HLen.out
    rw [hlb, ByteArray.data_append, Array.toList_append, List.length_append] at this
    have e2 : (⟨#[10]⟩ : ByteArray).data.toList.length = 1 := rfl
    have e3 : tx.data.toList.length = tx.size := by simp
    omega
   have htj : (Lib.join (xs.map (·.data.toList)) [32]).length ≤ 140737488355328 := by
    have e3 : tx.data.toList.length = tx.size := by simp
    have e4 : tx.data.toList = Lib.join (xs.map (·.data.toList)) [32] := by rw [htx]
    rw [← e4]; omega
   have HLB := zA hlb
   have HTX := zA htx
   have HJ := zA htj
   have HBl2 := HBl.out
   clear hlb htx htj
   have hsz1 : (9223372036854775807 < tx.size + 1) = False := eq_false (by omega)
   go_wp2_with fail
   have HPd := zA (HP.out.below (below_drew (Below.refl _ _)))
   have HBd := zA (below_step HB.out (below_drew (Below.refl _ _)))
   have HTd := zA (HT.out.below (below_drew (Below.refl _ _)))
   have HSd := zA (Kd.R_drew HS.out)
   clear HP HB HT HS
   go_region_with (first
    | (go_at_call 29; refine (joinR_calls HSd.out (by omega) HJ.out).mono ?_; rw [← HTX.out]; rintro e w5 ⟨rfl, hb⟩; have HP5 := zA (HPd.out.below hb); have HB5 := zA (below_step HBd.out hb); have HT5 := zA (HTd.out.below hb); clear hb)
    | (go_at_call 28; refine (writeString_calls HP5.out HB5.out (tx ++ (⟨#[10]⟩ : ByteArray)) ?hz).mono ?_; (case hz => rw [ByteArray.size_append]; show _ + (_ + 1) ≤ _; omega); rw [← HLB.out]; rintro e w6 ⟨rfl, hp, hb, ht⟩; have HP6 := zA hp; have HB6 := zA hb; have HT6 := zA (HT5.out.trans ht); clear hp hb ht))
   all_goals go_end0
   all_goals exact ⟨rfl, by rw [HE.out, hip, List.take_length] at HP6; exact HP6.out, HB6.out, HT6.out⟩
  | succ k1 =>
   have hi : i < ps.length := by have := HK.out; omega
   have d1b := zF (show ((i : Int) < (ps.length : Int)) by omega)
   have d1c := zF hi
   obtain ⟨p, hp⟩ : ∃ p, ps[i]? = some p := ⟨_, List.getElem?_eq_getElem hi⟩
   obtain ⟨bp, cs, rfl, hk, hcs⟩ : ∃ (bp : Nat) (cs : Array Value), A = some ⟨bp, 0, none⟩ ∧ wr.heap[bp]? = some (.cells cs 53 (0, 0)) ∧ ∀ (j : Nat) p, ps[j]? = some p → ∃ v, cs[j]? = some v ∧ PartAt gp wr v p := by
    rcases HQ.out.kept HPw.out HT.out with h | h
    ·rw [h] at hi; simp at hi
    ·exact h
   obtain ⟨v, hv, hpa⟩ := hcs i p hp
   have hx1 : wr.cell? ⟨bp, i, none⟩ = some v := (blk_cell hk i).trans hv
   have hpok := HOk.out p (List.mem_of_getElem? hp)
   have hnx : Aside0 (wd :: (ps.take (i + 1)).map Part.str = xs ++ [p.str]) := ⟨by rw [HXs.out, List.take_add_one, hp]; simp⟩
   have hne : Aside0 (errsOf e0 (ps.take (i + 1)) = keepE e1 p.err) := ⟨by rw [HE.out, List.take_add_one, hp]; simp [errsOf]⟩
   clear hcs hv hp hk
   cases p with
   | nm s =>
    obtain ⟨b, rfl, h1⟩ := hpa
    have HB1 := zA h1
    clear h1 hpok
    go_wp2_with (first
     | (go_at_call 32; refine (name1_calls s b HB1.out).mono ?_; rintro e w' ⟨rfl, rfl⟩)
     | ((with_reducible refine gate_builtin (b := .append) (xs := #[.tmp 17, .tmp 20]) rfl ?_); at_builtin; (refine Kd.R_append Kd.string (w0 := wr) w.heap.size rfl (.tmp 17) (.tmp 20) 70 9 (.string ⟨#[]⟩) 16 rfl Tryz.underlying70 info9 rfl (by decide) (by omega) u6 xs s [.string s] (fun _ => True) (fun _ => False) rfl rfl ?aP (fun _ hk => hk.elim) ?aF ?aO ?aB ?aS ?aL ?_; (case aP => exact rfl); (case aF => exact fun _ _ => trivial); (case aO => exact HS.out); (case aB => exact Below.refl _ _); (case aS => exact HT.out.1); (case aL => omega); intro v1 w3 ho3 hb3 hg3 _; have HP3 := zA (HP.out.grown HS.out hg3 (by decide) (by decide)); have HS3 := zA ho3; have HT3 := zA (HT.out.later hb3); have HB3 := zA (HB.out.trans (hb3.mono (below_size HBw.out))); clear ho3 hb3 hg3)))
    go_roundg k1
    case measure => have := HK.out; omega
    case rel => exact ⟨i + 1, _, _, by go_num, ⟨by have := HK.out; omega⟩, ⟨hnx.out.symm⟩, ⟨by rw [hne.out]; exact (keep_zero e1).symm⟩, HS3, HP3, HB3, HT3⟩
   | num n =>
    obtain ⟨b1, b2, rfl, h1, h2⟩ := hpa
    have HB1 := zA h1
    have HB2 := zA h2
    have HN := zA (show -9223372036854775808 ≤ n ∧ n ≤ 9223372036854775807 from hpok)
    have hnx : Aside0 (wd :: (ps.take (i + 1)).map Part.str = xs ++ [(⟨(Lib.itoa n).toArray⟩ : ByteArray)]) := hnx
    obtain ⟨u, hu⟩ : ∃ u, u = (⟨(Lib.itoa n).toArray⟩ : ByteArray) := ⟨_, rfl⟩
    rw [← hu] at hnx
    have HU := zA hu
    clear h1 h2 hpok hu
    go_wp2_with (first
     | (go_at_call 33; refine (number1_calls HP.out HB.out HLd.out n HN.out b1 b2 HB1.out HB2.out).mono ?_; rw [← HU.out]; rintro e w2 ⟨rfl, hp2, hb2, ht2⟩; replace HS := zA (R_keptT HS.out HP.out ht2 (by decide)); replace HP := zA hp2; replace HB := zA hb2; replace HT := zA (HT.out.trans ht2); clear hp2 hb2 ht2 hx1)
     | ((with_reducible refine gate_builtin (b := .append) (xs := #[.tmp 17, .tmp 20]) rfl ?_); at_builtin; (refine Kd.R_append Kd.string (w0 := w2) w.heap.size rfl (.tmp 17) (.tmp 20) 70 9 (.string ⟨#[]⟩) 16 rfl Tryz.underlying70 info9 rfl (by decide) (by omega) u6 xs u [.string u] (fun _ => True) (fun _ => False) rfl rfl ?aP (fun _ hk => hk.elim) ?aF ?aO ?aB ?aS ?aL ?_; (case aP => exact rfl); (case aF => exact fun _ _ => trivial); (case aO => exact HS.out); (case aB => exact Below.refl _ _); (case aS => exact HT.out.1); (case aL => omega); intro v1 w3 ho3 hb3 hg3 _; have HP3 := zA (HP.out.grown HS.out hg3 (by decide) (by decide)); have HS3 := zA ho3; have HT3 := zA (HT.out.later hb3); have HB3 := zA (HB.out.trans (hb3.mono (below_size HBw.out))); clear ho3 hb3 hg3)))
    go_roundg k1
    case measure => have := HK.out; omega
    case rel => exact ⟨i + 1, _, _, by go_num, ⟨by have := HK.out; omega⟩, ⟨hnx.out.symm⟩, ⟨hne.out.symm⟩, HS3, HP3, HB3, HT3⟩
end
end Go.Proofs.YtniknpjeknmpjaaGreatDoor.Q
namespace Go.Proofs.YtniknpjeknmpjaaGreatDoor.Q
open Go.RowKit Go.Proofs.YtniknpjeknmpjaaGreatDoorW.PrintWords Go.Proofs.YtniknpjeknmpjaaGreatDoorW.PrintLast Go.Proofs.YtniknpjeknmpjaaGreatDoorW.PrintMore
attribute [local go_sem] max2_int min2_int max_two min_two max_three min_three max_four min_four
set_option linter.unusedVariables false
set_option linter.unusedSimpArgs false

def text_of.f (a0 : Int) (a1 : Bool) : Option (Int × ByteArray × ByteArray × Bool) := if a0 = 1 then (some (a0, (⟨#[99, 111, 110, 115, 116]⟩ : ByteArray), (⟨#[68, 65]⟩ : ByteArray), true)) else (if a0 = 2 then (some (a0, (⟨#[99, 111, 112, 121]⟩ : ByteArray), (⟨#[68, 65]⟩ : ByteArray), true)) else (if a0 = 3 then (some (a0, (⟨#[97, 100, 100]⟩ : ByteArray), (⟨#[68, 65, 66]⟩ : ByteArray), true)) else (if a0 = 4 then (some (a0, (⟨#[115, 117, 98]⟩ : ByteArray), (⟨#[68, 65, 66]⟩ : ByteArray), true)) else (if a0 = 5 then (some (a0, (⟨#[109, 117, 108]⟩ : ByteArray), (⟨#[68, 65, 66]⟩ : ByteArray), true)) else (if a0 = 6 then (some (a0, (⟨#[108, 101, 115, 115]⟩ : ByteArray), (⟨#[68, 65, 66]⟩ : ByteArray), true)) else (if a0 = 7 then (some (a0, (⟨#[100, 105, 118]⟩ : ByteArray), (⟨#[68, 65, 66]⟩ : ByteArray), true)) else (if a0 = 8 then (some (a0, (⟨#[108, 111, 97, 100]⟩ : ByteArray), (⟨#[68, 65]⟩ : ByteArray), true)) else (if a0 = 9 then (some (a0, (⟨#[115, 116, 111, 114, 101]⟩ : ByteArray), (⟨#[65, 66]⟩ : ByteArray), true)) else (if a0 = 10 then (some (a0, (⟨#[111, 117, 116]⟩ : ByteArray), (⟨#[65]⟩ : ByteArray), true)) else (if a0 = 11 then (if a1 = true then (some (a0, (⟨#[99, 97, 108, 108]⟩ : ByteArray), (⟨#[68, 78, 65]⟩ : ByteArray), true)) else (some (a0, (⟨#[99, 97, 108, 108]⟩ : ByteArray), (⟨#[68, 78, 76]⟩ : ByteArray), true))) else (if a0 = 12 then (some (a0, (⟨#[106, 117, 109, 112]⟩ : ByteArray), (⟨#[65]⟩ : ByteArray), true)) else (if a0 = 13 then (some (a0, (⟨#[98, 114, 97, 110, 99, 104]⟩ : ByteArray), (⟨#[65, 66, 68]⟩ : ByteArray), true)) else (if a0 = 14 then (some (a0, (⟨#[114, 101, 116]⟩ : ByteArray), (⟨#[65]⟩ : ByteArray), true)) else (if a0 = 21 then (some (a0, (⟨#[102, 101, 116, 99, 104]⟩ : ByteArray), (⟨#[68, 65]⟩ : ByteArray), a1)) else (if a0 = 22 then (some (a0, (⟨#[115, 97, 118, 101]⟩ : ByteArray), (⟨#[68, 65]⟩ : ByteArray), a1)) else (some (0, (⟨#[]⟩ : ByteArray), (⟨#[]⟩ : ByteArray), false)))))))))))))))))
set_option maxHeartbeats 8000000 in
set_option maxRecDepth 100000 in
theorem text_of.calls (a0 : Int) (a1 : Bool) (r1 : Int) (r2 : ByteArray) (r3 : ByteArray) (r4 : Bool) (w : World) (h : text_of.f a0 a1 = some (r1, r2, r3, r4)) :
 Calls Tryz.prog 59 #[.int .i64 a0, .bool a1] w fun e w' => e = .returned (.tuple #[.agg #[.int .i64 r1, .string r2, .string r3], .bool r4]) ∧ Below w.heap.size w w' := by
 have hu102 := Tryz.underlying102
 have HB := zA (Below.refl w.heap.size w)
 have H := h; clear h; unfold text_of.f at H
 by_cases c3 : a0 = 1
 ·rw [zC c3] at H
  obtain ⟨c3b0, c3b1⟩ := qe c3; clear c3
  simp only [Option.some.injEq, Prod.mk.injEq] at H
  obtain ⟨rfl, rfl, rfl, rfl⟩ := H
  go_enter Tryz.func59, Tryz.ntmps59
  go_wp2_with (first | ((with_reducible refine gate_dst (N := 4) rfl ?_); refine box_event (by rfl) (N := 4) (by rfl) (cs := #[.int .i64 0, .string (⟨#[]⟩ : ByteArray), .string (⟨#[]⟩ : ByteArray)]) (t := 102) ?hr ?_; (case hr => go_simp <;> rfl); intro gb110 hg w4 hbox hb; have BK110 := zA (hbox); have GW110 := qG hg; have GE110 := GW110; replace HB := qH hb; clear hb hbox hg; have z5_0 := bk3 BK110.out))
  refine bodyPost_ret (results_ct rfl _ _ gb110 102 #[.int .i64 a0, .string (⟨#[99, 111, 110, 115, 116]⟩ : ByteArray), .string (⟨#[68, 65]⟩ : ByteArray)] (0, 0) _ rfl (by (with_reducible repeat (first | refine blk_drewN ?_ _ | refine blk_drew ?_ | refine blk_alloc ?_ _)); refine blk_put (cs := #[.int .i64 a0, .string (⟨#[99, 111, 110, 115, 116]⟩ : ByteArray), .string (⟨#[]⟩ : ByteArray)]) ?_ 2 _ rfl; (with_reducible repeat (first | refine blk_drewN ?_ _ | refine blk_drew ?_ | refine blk_alloc ?_ _)); refine blk_put (cs := #[.int .i64 a0, .string (⟨#[]⟩ : ByteArray), .string (⟨#[]⟩ : ByteArray)]) ?_ 1 _ rfl; (with_reducible repeat (first | refine blk_drewN ?_ _ | refine blk_drew ?_ | refine blk_alloc ?_ _)); refine blk_put (cs := #[.int .i64 0, .string (⟨#[]⟩ : ByteArray), .string (⟨#[]⟩ : ByteArray)]) ?_ 0 _ rfl; (with_reducible repeat (first | refine blk_drewN ?_ _ | refine blk_drew ?_ | refine blk_alloc ?_ _)); exact BK110.out) Tryz.underlying102 rfl (by kernel_rfl)) rfl ?_
  exact ⟨qE, qB⟩
 ·rw [zD c3] at H
  obtain ⟨c3b0, c3b1⟩ := qn c3
  by_cases c6 : a0 = 2
  ·rw [zC c6] at H
   obtain ⟨c6b0, c6b1⟩ := qe c6; clear c6
   simp only [Option.some.injEq, Prod.mk.injEq] at H
   obtain ⟨rfl, rfl, rfl, rfl⟩ := H
   go_enter Tryz.func59, Tryz.ntmps59
   go_wp2_with (first | ((with_reducible refine gate_dst (N := 4) rfl ?_); refine box_event (by rfl) (N := 4) (by rfl) (cs := #[.int .i64 0, .string (⟨#[]⟩ : ByteArray), .string (⟨#[]⟩ : ByteArray)]) (t := 102) ?hr ?_; (case hr => go_simp <;> rfl); intro gb110 hg w7 hbox hb; have BK110 := zA (hbox); have GW110 := qG hg; have GE110 := GW110; replace HB := qH hb; clear hb hbox hg; have z8_0 := bk3 BK110.out))
   refine bodyPost_ret (results_ct rfl _ _ gb110 102 #[.int .i64 a0, .string (⟨#[99, 111, 112, 121]⟩ : ByteArray), .string (⟨#[68, 65]⟩ : ByteArray)] (0, 0) _ rfl (by (with_reducible repeat (first | refine blk_drewN ?_ _ | refine blk_drew ?_ | refine blk_alloc ?_ _)); refine blk_put (cs := #[.int .i64 a0, .string (⟨#[99, 111, 112, 121]⟩ : ByteArray), .string (⟨#[]⟩ : ByteArray)]) ?_ 2 _ rfl; (with_reducible repeat (first | refine blk_drewN ?_ _ | refine blk_drew ?_ | refine blk_alloc ?_ _)); refine blk_put (cs := #[.int .i64 a0, .string (⟨#[]⟩ : ByteArray), .string (⟨#[]⟩ : ByteArray)]) ?_ 1 _ rfl; (with_reducible repeat (first | refine blk_drewN ?_ _ | refine blk_drew ?_ | refine blk_alloc ?_ _)); refine blk_put (cs := #[.int .i64 0, .string (⟨#[]⟩ : ByteArray), .string (⟨#[]⟩ : ByteArray)]) ?_ 0 _ rfl; (with_reducible repeat (first | refine blk_drewN ?_ _ | refine blk_drew ?_ | refine blk_alloc ?_ _)); exact BK110.out) Tryz.underlying102 rfl (by kernel_rfl)) rfl ?_
   exact ⟨qE, qB⟩
  ·rw [zD c6] at H
   obtain ⟨c6b0, c6b1⟩ := qn c6
   by_cases c9 : a0 = 3
   ·rw [zC c9] at H
    obtain ⟨c9b0, c9b1⟩ := qe c9; clear c9
    simp only [Option.some.injEq, Prod.mk.injEq] at H
    obtain ⟨rfl, rfl, rfl, rfl⟩ := H
    go_enter Tryz.func59, Tryz.ntmps59
    go_wp2_with (first | ((with_reducible refine gate_dst (N := 4) rfl ?_); refine box_event (by rfl) (N := 4) (by rfl) (cs := #[.int .i64 0, .string (⟨#[]⟩ : ByteArray), .string (⟨#[]⟩ : ByteArray)]) (t := 102) ?hr ?_; (case hr => go_simp <;> rfl); intro gb110 hg w10 hbox hb; have BK110 := zA (hbox); have GW110 := qG hg; have GE110 := GW110; replace HB := qH hb; clear hb hbox hg; have z11_0 := bk3 BK110.out))
    refine bodyPost_ret (results_ct rfl _ _ gb110 102 #[.int .i64 a0, .string (⟨#[97, 100, 100]⟩ : ByteArray), .string (⟨#[68, 65, 66]⟩ : ByteArray)] (0, 0) _ rfl (by (with_reducible repeat (first | refine blk_drewN ?_ _ | refine blk_drew ?_ | refine blk_alloc ?_ _)); refine blk_put (cs := #[.int .i64 a0, .string (⟨#[97, 100, 100]⟩ : ByteArray), .string (⟨#[]⟩ : ByteArray)]) ?_ 2 _ rfl; (with_reducible repeat (first | refine blk_drewN ?_ _ | refine blk_drew ?_ | refine blk_alloc ?_ _)); refine blk_put (cs := #[.int .i64 a0, .string (⟨#[]⟩ : ByteArray), .string (⟨#[]⟩ : ByteArray)]) ?_ 1 _ rfl; (with_reducible repeat (first | refine blk_drewN ?_ _ | refine blk_drew ?_ | refine blk_alloc ?_ _)); refine blk_put (cs := #[.int .i64 0, .string (⟨#[]⟩ : ByteArray), .string (⟨#[]⟩ : ByteArray)]) ?_ 0 _ rfl; (with_reducible repeat (first | refine blk_drewN ?_ _ | refine blk_drew ?_ | refine blk_alloc ?_ _)); exact BK110.out) Tryz.underlying102 rfl (by kernel_rfl)) rfl ?_
    exact ⟨qE, qB⟩
   ·rw [zD c9] at H
    obtain ⟨c9b0, c9b1⟩ := qn c9
    by_cases c12 : a0 = 4
    ·rw [zC c12] at H
     obtain ⟨c12b0, c12b1⟩ := qe c12; clear c12
     simp only [Option.some.injEq, Prod.mk.injEq] at H
     obtain ⟨rfl, rfl, rfl, rfl⟩ := H
     go_enter Tryz.func59, Tryz.ntmps59
     go_wp2_with (first | ((with_reducible refine gate_dst (N := 4) rfl ?_); refine box_event (by rfl) (N := 4) (by rfl) (cs := #[.int .i64 0, .string (⟨#[]⟩ : ByteArray), .string (⟨#[]⟩ : ByteArray)]) (t := 102) ?hr ?_; (case hr => go_simp <;> rfl); intro gb110 hg w13 hbox hb; have BK110 := zA (hbox); have GW110 := qG hg; have GE110 := GW110; replace HB := qH hb; clear hb hbox hg; have z14_0 := bk3 BK110.out))
     refine bodyPost_ret (results_ct rfl _ _ gb110 102 #[.int .i64 a0, .string (⟨#[115, 117, 98]⟩ : ByteArray), .string (⟨#[68, 65, 66]⟩ : ByteArray)] (0, 0) _ rfl (by (with_reducible repeat (first | refine blk_drewN ?_ _ | refine blk_drew ?_ | refine blk_alloc ?_ _)); refine blk_put (cs := #[.int .i64 a0, .string (⟨#[115, 117, 98]⟩ : ByteArray), .string (⟨#[]⟩ : ByteArray)]) ?_ 2 _ rfl; (with_reducible repeat (first | refine blk_drewN ?_ _ | refine blk_drew ?_ | refine blk_alloc ?_ _)); refine blk_put (cs := #[.int .i64 a0, .string (⟨#[]⟩ : ByteArray), .string (⟨#[]⟩ : ByteArray)]) ?_ 1 _ rfl; (with_reducible repeat (first | refine blk_drewN ?_ _ | refine blk_drew ?_ | refine blk_alloc ?_ _)); refine blk_put (cs := #[.int .i64 0, .string (⟨#[]⟩ : ByteArray), .string (⟨#[]⟩ : ByteArray)]) ?_ 0 _ rfl; (with_reducible repeat (first | refine blk_drewN ?_ _ | refine blk_drew ?_ | refine blk_alloc ?_ _)); exact BK110.out) Tryz.underlying102 rfl (by kernel_rfl)) rfl ?_
     exact ⟨qE, qB⟩
    ·rw [zD c12] at H
     obtain ⟨c12b0, c12b1⟩ := qn c12
     by_cases c15 : a0 = 5
     ·rw [zC c15] at H
      obtain ⟨c15b0, c15b1⟩ := qe c15; clear c15
      simp only [Option.some.injEq, Prod.mk.injEq] at H
      obtain ⟨rfl, rfl, rfl, rfl⟩ := H
      go_enter Tryz.func59, Tryz.ntmps59
      go_wp2_with (first | ((with_reducible refine gate_dst (N := 4) rfl ?_); refine box_event (by rfl) (N := 4) (by rfl) (cs := #[.int .i64 0, .string (⟨#[]⟩ : ByteArray), .string (⟨#[]⟩ : ByteArray)]) (t := 102) ?hr ?_; (case hr => go_simp <;> rfl); intro gb110 hg w16 hbox hb; have BK110 := zA (hbox); have GW110 := qG hg; have GE110 := GW110; replace HB := qH hb; clear hb hbox hg; have z17_0 := bk3 BK110.out))
      refine bodyPost_ret (results_ct rfl _ _ gb110 102 #[.int .i64 a0, .string (⟨#[109, 117, 108]⟩ : ByteArray), .string (⟨#[68, 65, 66]⟩ : ByteArray)] (0, 0) _ rfl (by (with_reducible repeat (first | refine blk_drewN ?_ _ | refine blk_drew ?_ | refine blk_alloc ?_ _)); refine blk_put (cs := #[.int .i64 a0, .string (⟨#[109, 117, 108]⟩ : ByteArray), .string (⟨#[]⟩ : ByteArray)]) ?_ 2 _ rfl; (with_reducible repeat (first | refine blk_drewN ?_ _ | refine blk_drew ?_ | refine blk_alloc ?_ _)); refine blk_put (cs := #[.int .i64 a0, .string (⟨#[]⟩ : ByteArray), .string (⟨#[]⟩ : ByteArray)]) ?_ 1 _ rfl; (with_reducible repeat (first | refine blk_drewN ?_ _ | refine blk_drew ?_ | refine blk_alloc ?_ _)); refine blk_put (cs := #[.int .i64 0, .string (⟨#[]⟩ : ByteArray), .string (⟨#[]⟩ : ByteArray)]) ?_ 0 _ rfl; (with_reducible repeat (first | refine blk_drewN ?_ _ | refine blk_drew ?_ | refine blk_alloc ?_ _)); exact BK110.out) Tryz.underlying102 rfl (by kernel_rfl)) rfl ?_
      exact ⟨qE, qB⟩
     ·rw [zD c15] at H
      obtain ⟨c15b0, c15b1⟩ := qn c15
      by_cases c18 : a0 = 6
      ·rw [zC c18] at H
       obtain ⟨c18b0, c18b1⟩ := qe c18; clear c18
       simp only [Option.some.injEq, Prod.mk.injEq] at H
       obtain ⟨rfl, rfl, rfl, rfl⟩ := H
       go_enter Tryz.func59, Tryz.ntmps59
       go_wp2_with (first | ((with_reducible refine gate_dst (N := 4) rfl ?_); refine box_event (by rfl) (N := 4) (by rfl) (cs := #[.int .i64 0, .string (⟨#[]⟩ : ByteArray), .string (⟨#[]⟩ : ByteArray)]) (t := 102) ?hr ?_; (case hr => go_simp <;> rfl); intro gb110 hg w19 hbox hb; have BK110 := zA (hbox); have GW110 := qG hg; have GE110 := GW110; replace HB := qH hb; clear hb hbox hg; have z20_0 := bk3 BK110.out))
       refine bodyPost_ret (results_ct rfl _ _ gb110 102 #[.int .i64 a0, .string (⟨#[108, 101, 115, 115]⟩ : ByteArray), .string (⟨#[68, 65, 66]⟩ : ByteArray)] (0, 0) _ rfl (by (with_reducible repeat (first | refine blk_drewN ?_ _ | refine blk_drew ?_ | refine blk_alloc ?_ _)); refine blk_put (cs := #[.int .i64 a0, .string (⟨#[108, 101, 115, 115]⟩ : ByteArray), .string (⟨#[]⟩ : ByteArray)]) ?_ 2 _ rfl; (with_reducible repeat (first | refine blk_drewN ?_ _ | refine blk_drew ?_ | refine blk_alloc ?_ _)); refine blk_put (cs := #[.int .i64 a0, .string (⟨#[]⟩ : ByteArray), .string (⟨#[]⟩ : ByteArray)]) ?_ 1 _ rfl; (with_reducible repeat (first | refine blk_drewN ?_ _ | refine blk_drew ?_ | refine blk_alloc ?_ _)); refine blk_put (cs := #[.int .i64 0, .string (⟨#[]⟩ : ByteArray), .string (⟨#[]⟩ : ByteArray)]) ?_ 0 _ rfl; (with_reducible repeat (first | refine blk_drewN ?_ _ | refine blk_drew ?_ | refine blk_alloc ?_ _)); exact BK110.out) Tryz.underlying102 rfl (by kernel_rfl)) rfl ?_
       exact ⟨qE, qB⟩
      ·rw [zD c18] at H
       obtain ⟨c18b0, c18b1⟩ := qn c18
       by_cases c21 : a0 = 7
       ·rw [zC c21] at H
        obtain ⟨c21b0, c21b1⟩ := qe c21; clear c21
        simp only [Option.some.injEq, Prod.mk.injEq] at H
        obtain ⟨rfl, rfl, rfl, rfl⟩ := H
        go_enter Tryz.func59, Tryz.ntmps59
        go_wp2_with (first | ((with_reducible refine gate_dst (N := 4) rfl ?_); refine box_event (by rfl) (N := 4) (by rfl) (cs := #[.int .i64 0, .string (⟨#[]⟩ : ByteArray), .string (⟨#[]⟩ : ByteArray)]) (t := 102) ?hr ?_; (case hr => go_simp <;> rfl); intro gb110 hg w22 hbox hb; have BK110 := zA (hbox); have GW110 := qG hg; have GE110 := GW110; replace HB := qH hb; clear hb hbox hg; have z23_0 := bk3 BK110.out))
        refine bodyPost_ret (results_ct rfl _ _ gb110 102 #[.int .i64 a0, .string (⟨#[100, 105, 118]⟩ : ByteArray), .string (⟨#[68, 65, 66]⟩ : ByteArray)] (0, 0) _ rfl (by (with_reducible repeat (first | refine blk_drewN ?_ _ | refine blk_drew ?_ | refine blk_alloc ?_ _)); refine blk_put (cs := #[.int .i64 a0, .string (⟨#[100, 105, 118]⟩ : ByteArray), .string (⟨#[]⟩ : ByteArray)]) ?_ 2 _ rfl; (with_reducible repeat (first | refine blk_drewN ?_ _ | refine blk_drew ?_ | refine blk_alloc ?_ _)); refine blk_put (cs := #[.int .i64 a0, .string (⟨#[]⟩ : ByteArray), .string (⟨#[]⟩ : ByteArray)]) ?_ 1 _ rfl; (with_reducible repeat (first | refine blk_drewN ?_ _ | refine blk_drew ?_ | refine blk_alloc ?_ _)); refine blk_put (cs := #[.int .i64 0, .string (⟨#[]⟩ : ByteArray), .string (⟨#[]⟩ : ByteArray)]) ?_ 0 _ rfl; (with_reducible repeat (first | refine blk_drewN ?_ _ | refine blk_drew ?_ | refine blk_alloc ?_ _)); exact BK110.out) Tryz.underlying102 rfl (by kernel_rfl)) rfl ?_
        exact ⟨qE, qB⟩
       ·rw [zD c21] at H
        obtain ⟨c21b0, c21b1⟩ := qn c21
        by_cases c24 : a0 = 8
        ·rw [zC c24] at H
         obtain ⟨c24b0, c24b1⟩ := qe c24; clear c24
         simp only [Option.some.injEq, Prod.mk.injEq] at H
         obtain ⟨rfl, rfl, rfl, rfl⟩ := H
         go_enter Tryz.func59, Tryz.ntmps59
         go_wp2_with (first | ((with_reducible refine gate_dst (N := 4) rfl ?_); refine box_event (by rfl) (N := 4) (by rfl) (cs := #[.int .i64 0, .string (⟨#[]⟩ : ByteArray), .string (⟨#[]⟩ : ByteArray)]) (t := 102) ?hr ?_; (case hr => go_simp <;> rfl); intro gb110 hg w25 hbox hb; have BK110 := zA (hbox); have GW110 := qG hg; have GE110 := GW110; replace HB := qH hb; clear hb hbox hg; have z26_0 := bk3 BK110.out))
         refine bodyPost_ret (results_ct rfl _ _ gb110 102 #[.int .i64 a0, .string (⟨#[108, 111, 97, 100]⟩ : ByteArray), .string (⟨#[68, 65]⟩ : ByteArray)] (0, 0) _ rfl (by (with_reducible repeat (first | refine blk_drewN ?_ _ | refine blk_drew ?_ | refine blk_alloc ?_ _)); refine blk_put (cs := #[.int .i64 a0, .string (⟨#[108, 111, 97, 100]⟩ : ByteArray), .string (⟨#[]⟩ : ByteArray)]) ?_ 2 _ rfl; (with_reducible repeat (first | refine blk_drewN ?_ _ | refine blk_drew ?_ | refine blk_alloc ?_ _)); refine blk_put (cs := #[.int .i64 a0, .string (⟨#[]⟩ : ByteArray), .string (⟨#[]⟩ : ByteArray)]) ?_ 1 _ rfl; (with_reducible repeat (first | refine blk_drewN ?_ _ | refine blk_drew ?_ | refine blk_alloc ?_ _)); refine blk_put (cs := #[.int .i64 0, .string (⟨#[]⟩ : ByteArray), .string (⟨#[]⟩ : ByteArray)]) ?_ 0 _ rfl; (with_reducible repeat (first | refine blk_drewN ?_ _ | refine blk_drew ?_ | refine blk_alloc ?_ _)); exact BK110.out) Tryz.underlying102 rfl (by kernel_rfl)) rfl ?_
         exact ⟨qE, qB⟩
        ·rw [zD c24] at H
         obtain ⟨c24b0, c24b1⟩ := qn c24
         by_cases c27 : a0 = 9
         ·rw [zC c27] at H
          obtain ⟨c27b0, c27b1⟩ := qe c27; clear c27
          simp only [Option.some.injEq, Prod.mk.injEq] at H
          obtain ⟨rfl, rfl, rfl, rfl⟩ := H
          go_enter Tryz.func59, Tryz.ntmps59
          go_wp2_with (first | ((with_reducible refine gate_dst (N := 4) rfl ?_); refine box_event (by rfl) (N := 4) (by rfl) (cs := #[.int .i64 0, .string (⟨#[]⟩ : ByteArray), .string (⟨#[]⟩ : ByteArray)]) (t := 102) ?hr ?_; (case hr => go_simp <;> rfl); intro gb110 hg w28 hbox hb; have BK110 := zA (hbox); have GW110 := qG hg; have GE110 := GW110; replace HB := qH hb; clear hb hbox hg; have z29_0 := bk3 BK110.out))
          refine bodyPost_ret (results_ct rfl _ _ gb110 102 #[.int .i64 a0, .string (⟨#[115, 116, 111, 114, 101]⟩ : ByteArray), .string (⟨#[65, 66]⟩ : ByteArray)] (0, 0) _ rfl (by (with_reducible repeat (first | refine blk_drewN ?_ _ | refine blk_drew ?_ | refine blk_alloc ?_ _)); refine blk_put (cs := #[.int .i64 a0, .string (⟨#[115, 116, 111, 114, 101]⟩ : ByteArray), .string (⟨#[]⟩ : ByteArray)]) ?_ 2 _ rfl; (with_reducible repeat (first | refine blk_drewN ?_ _ | refine blk_drew ?_ | refine blk_alloc ?_ _)); refine blk_put (cs := #[.int .i64 a0, .string (⟨#[]⟩ : ByteArray), .string (⟨#[]⟩ : ByteArray)]) ?_ 1 _ rfl; (with_reducible repeat (first | refine blk_drewN ?_ _ | refine blk_drew ?_ | refine blk_alloc ?_ _)); refine blk_put (cs := #[.int .i64 0, .string (⟨#[]⟩ : ByteArray), .string (⟨#[]⟩ : ByteArray)]) ?_ 0 _ rfl; (with_reducible repeat (first | refine blk_drewN ?_ _ | refine blk_drew ?_ | refine blk_alloc ?_ _)); exact BK110.out) Tryz.underlying102 rfl (by kernel_rfl)) rfl ?_
          exact ⟨qE, qB⟩
         ·rw [zD c27] at H
          obtain ⟨c27b0, c27b1⟩ := qn c27
          by_cases c30 : a0 = 10
          ·rw [zC c30] at H
           obtain ⟨c30b0, c30b1⟩ := qe c30; clear c30
           simp only [Option.some.injEq, Prod.mk.injEq] at H
           obtain ⟨rfl, rfl, rfl, rfl⟩ := H
           go_enter Tryz.func59, Tryz.ntmps59
           go_wp2_with (first | ((with_reducible refine gate_dst (N := 4) rfl ?_); refine box_event (by rfl) (N := 4) (by rfl) (cs := #[.int .i64 0, .string (⟨#[]⟩ : ByteArray), .string (⟨#[]⟩ : ByteArray)]) (t := 102) ?hr ?_; (case hr => go_simp <;> rfl); intro gb110 hg w31 hbox hb; have BK110 := zA (hbox); have GW110 := qG hg; have GE110 := GW110; replace HB := qH hb; clear hb hbox hg; have z32_0 := bk3 BK110.out))
           refine bodyPost_ret (results_ct rfl _ _ gb110 102 #[.int .i64 a0, .string (⟨#[111, 117, 116]⟩ : ByteArray), .string (⟨#[65]⟩ : ByteArray)] (0, 0) _ rfl (by (with_reducible repeat (first | refine blk_drewN ?_ _ | refine blk_drew ?_ | refine blk_alloc ?_ _)); refine blk_put (cs := #[.int .i64 a0, .string (⟨#[111, 117, 116]⟩ : ByteArray), .string (⟨#[]⟩ : ByteArray)]) ?_ 2 _ rfl; (with_reducible repeat (first | refine blk_drewN ?_ _ | refine blk_drew ?_ | refine blk_alloc ?_ _)); refine blk_put (cs := #[.int .i64 a0, .string (⟨#[]⟩ : ByteArray), .string (⟨#[]⟩ : ByteArray)]) ?_ 1 _ rfl; (with_reducible repeat (first | refine blk_drewN ?_ _ | refine blk_drew ?_ | refine blk_alloc ?_ _)); refine blk_put (cs := #[.int .i64 0, .string (⟨#[]⟩ : ByteArray), .string (⟨#[]⟩ : ByteArray)]) ?_ 0 _ rfl; (with_reducible repeat (first | refine blk_drewN ?_ _ | refine blk_drew ?_ | refine blk_alloc ?_ _)); exact BK110.out) Tryz.underlying102 rfl (by kernel_rfl)) rfl ?_
           exact ⟨qE, qB⟩
          ·rw [zD c30] at H
           obtain ⟨c30b0, c30b1⟩ := qn c30
           by_cases c33 : a0 = 11
           ·rw [zC c33] at H
            obtain ⟨c33b0, c33b1⟩ := qe c33; clear c33
            by_cases c34 : a1 = true
            ·subst c34
             have H1 : (some (a0, (⟨#[99, 97, 108, 108]⟩ : ByteArray), (⟨#[68, 78, 65]⟩ : ByteArray), true)) = some (r1, r2, r3, r4) := by rw [zC rfl] at H; exact H
             clear H
             have H := H1
             clear H1
             simp only [Option.some.injEq, Prod.mk.injEq] at H
             obtain ⟨rfl, rfl, rfl, rfl⟩ := H
             go_enter Tryz.func59, Tryz.ntmps59
             go_wp2_with (first | ((with_reducible refine gate_dst (N := 4) rfl ?_); refine box_event (by rfl) (N := 4) (by rfl) (cs := #[.int .i64 0, .string (⟨#[]⟩ : ByteArray), .string (⟨#[]⟩ : ByteArray)]) (t := 102) ?hr ?_; (case hr => go_simp <;> rfl); intro gb110 hg w35 hbox hb; have BK110 := zA (hbox); have GW110 := qG hg; have GE110 := GW110; replace HB := qH hb; clear hb hbox hg; have z36_0 := bk3 BK110.out))
             refine bodyPost_ret (results_ct rfl _ _ gb110 102 #[.int .i64 a0, .string (⟨#[99, 97, 108, 108]⟩ : ByteArray), .string (⟨#[68, 78, 65]⟩ : ByteArray)] (0, 0) _ rfl (by (with_reducible repeat (first | refine blk_drewN ?_ _ | refine blk_drew ?_ | refine blk_alloc ?_ _)); refine blk_put (cs := #[.int .i64 a0, .string (⟨#[99, 97, 108, 108]⟩ : ByteArray), .string (⟨#[]⟩ : ByteArray)]) ?_ 2 _ rfl; (with_reducible repeat (first | refine blk_drewN ?_ _ | refine blk_drew ?_ | refine blk_alloc ?_ _)); refine blk_put (cs := #[.int .i64 a0, .string (⟨#[]⟩ : ByteArray), .string (⟨#[]⟩ : ByteArray)]) ?_ 1 _ rfl; (with_reducible repeat (first | refine blk_drewN ?_ _ | refine blk_drew ?_ | refine blk_alloc ?_ _)); refine blk_put (cs := #[.int .i64 0, .string (⟨#[]⟩ : ByteArray), .string (⟨#[]⟩ : ByteArray)]) ?_ 0 _ rfl; (with_reducible repeat (first | refine blk_drewN ?_ _ | refine blk_drew ?_ | refine blk_alloc ?_ _)); exact BK110.out) Tryz.underlying102 rfl (by kernel_rfl)) rfl ?_
             exact ⟨qE, qB⟩
            ·replace c34 := Bool.eq_false_iff.mpr c34
             subst c34
             have H1 : (some (a0, (⟨#[99, 97, 108, 108]⟩ : ByteArray), (⟨#[68, 78, 76]⟩ : ByteArray), true)) = some (r1, r2, r3, r4) := by rw [zD (show ¬ (false = true) by decide)] at H; exact H
             clear H
             have H := H1
             clear H1
             simp only [Option.some.injEq, Prod.mk.injEq] at H
             obtain ⟨rfl, rfl, rfl, rfl⟩ := H
             go_enter Tryz.func59, Tryz.ntmps59
             go_wp2_with (first | ((with_reducible refine gate_dst (N := 4) rfl ?_); refine box_event (by rfl) (N := 4) (by rfl) (cs := #[.int .i64 0, .string (⟨#[]⟩ : ByteArray), .string (⟨#[]⟩ : ByteArray)]) (t := 102) ?hr ?_; (case hr => go_simp <;> rfl); intro gb110 hg w37 hbox hb; have BK110 := zA (hbox); have GW110 := qG hg; have GE110 := GW110; replace HB := qH hb; clear hb hbox hg; have z38_0 := bk3 BK110.out))
             refine bodyPost_ret (results_ct rfl _ _ gb110 102 #[.int .i64 a0, .string (⟨#[99, 97, 108, 108]⟩ : ByteArray), .string (⟨#[68, 78, 76]⟩ : ByteArray)] (0, 0) _ rfl (by (with_reducible repeat (first | refine blk_drewN ?_ _ | refine blk_drew ?_ | refine blk_alloc ?_ _)); refine blk_put (cs := #[.int .i64 a0, .string (⟨#[99, 97, 108, 108]⟩ : ByteArray), .string (⟨#[]⟩ : ByteArray)]) ?_ 2 _ rfl; (with_reducible repeat (first | refine blk_drewN ?_ _ | refine blk_drew ?_ | refine blk_alloc ?_ _)); refine blk_put (cs := #[.int .i64 a0, .string (⟨#[]⟩ : ByteArray), .string (⟨#[]⟩ : ByteArray)]) ?_ 1 _ rfl; (with_reducible repeat (first | refine blk_drewN ?_ _ | refine blk_drew ?_ | refine blk_alloc ?_ _)); refine blk_put (cs := #[.int .i64 0, .string (⟨#[]⟩ : ByteArray), .string (⟨#[]⟩ : ByteArray)]) ?_ 0 _ rfl; (with_reducible repeat (first | refine blk_drewN ?_ _ | refine blk_drew ?_ | refine blk_alloc ?_ _)); exact BK110.out) Tryz.underlying102 rfl (by kernel_rfl)) rfl ?_
             exact ⟨qE, qB⟩
           ·rw [zD c33] at H
            obtain ⟨c33b0, c33b1⟩ := qn c33
            by_cases c39 : a0 = 12
            ·rw [zC c39] at H
             obtain ⟨c39b0, c39b1⟩ := qe c39; clear c39
             simp only [Option.some.injEq, Prod.mk.injEq] at H
             obtain ⟨rfl, rfl, rfl, rfl⟩ := H
             go_enter Tryz.func59, Tryz.ntmps59
             go_wp2_with (first | ((with_reducible refine gate_dst (N := 4) rfl ?_); refine box_event (by rfl) (N := 4) (by rfl) (cs := #[.int .i64 0, .string (⟨#[]⟩ : ByteArray), .string (⟨#[]⟩ : ByteArray)]) (t := 102) ?hr ?_; (case hr => go_simp <;> rfl); intro gb110 hg w40 hbox hb; have BK110 := zA (hbox); have GW110 := qG hg; have GE110 := GW110; replace HB := qH hb; clear hb hbox hg; have z41_0 := bk3 BK110.out))
             refine bodyPost_ret (results_ct rfl _ _ gb110 102 #[.int .i64 a0, .string (⟨#[106, 117, 109, 112]⟩ : ByteArray), .string (⟨#[65]⟩ : ByteArray)] (0, 0) _ rfl (by (with_reducible repeat (first | refine blk_drewN ?_ _ | refine blk_drew ?_ | refine blk_alloc ?_ _)); refine blk_put (cs := #[.int .i64 a0, .string (⟨#[106, 117, 109, 112]⟩ : ByteArray), .string (⟨#[]⟩ : ByteArray)]) ?_ 2 _ rfl; (with_reducible repeat (first | refine blk_drewN ?_ _ | refine blk_drew ?_ | refine blk_alloc ?_ _)); refine blk_put (cs := #[.int .i64 a0, .string (⟨#[]⟩ : ByteArray), .string (⟨#[]⟩ : ByteArray)]) ?_ 1 _ rfl; (with_reducible repeat (first | refine blk_drewN ?_ _ | refine blk_drew ?_ | refine blk_alloc ?_ _)); refine blk_put (cs := #[.int .i64 0, .string (⟨#[]⟩ : ByteArray), .string (⟨#[]⟩ : ByteArray)]) ?_ 0 _ rfl; (with_reducible repeat (first | refine blk_drewN ?_ _ | refine blk_drew ?_ | refine blk_alloc ?_ _)); exact BK110.out) Tryz.underlying102 rfl (by kernel_rfl)) rfl ?_
             exact ⟨qE, qB⟩
            ·rw [zD c39] at H
             obtain ⟨c39b0, c39b1⟩ := qn c39
             by_cases c42 : a0 = 13
             ·rw [zC c42] at H
              obtain ⟨c42b0, c42b1⟩ := qe c42; clear c42
              simp only [Option.some.injEq, Prod.mk.injEq] at H
              obtain ⟨rfl, rfl, rfl, rfl⟩ := H
              go_enter Tryz.func59, Tryz.ntmps59
              go_wp2_with (first | ((with_reducible refine gate_dst (N := 4) rfl ?_); refine box_event (by rfl) (N := 4) (by rfl) (cs := #[.int .i64 0, .string (⟨#[]⟩ : ByteArray), .string (⟨#[]⟩ : ByteArray)]) (t := 102) ?hr ?_; (case hr => go_simp <;> rfl); intro gb110 hg w43 hbox hb; have BK110 := zA (hbox); have GW110 := qG hg; have GE110 := GW110; replace HB := qH hb; clear hb hbox hg; have z44_0 := bk3 BK110.out))
              refine bodyPost_ret (results_ct rfl _ _ gb110 102 #[.int .i64 a0, .string (⟨#[98, 114, 97, 110, 99, 104]⟩ : ByteArray), .string (⟨#[65, 66, 68]⟩ : ByteArray)] (0, 0) _ rfl (by (with_reducible repeat (first | refine blk_drewN ?_ _ | refine blk_drew ?_ | refine blk_alloc ?_ _)); refine blk_put (cs := #[.int .i64 a0, .string (⟨#[98, 114, 97, 110, 99, 104]⟩ : ByteArray), .string (⟨#[]⟩ : ByteArray)]) ?_ 2 _ rfl; (with_reducible repeat (first | refine blk_drewN ?_ _ | refine blk_drew ?_ | refine blk_alloc ?_ _)); refine blk_put (cs := #[.int .i64 a0, .string (⟨#[]⟩ : ByteArray), .string (⟨#[]⟩ : ByteArray)]) ?_ 1 _ rfl; (with_reducible repeat (first | refine blk_drewN ?_ _ | refine blk_drew ?_ | refine blk_alloc ?_ _)); refine blk_put (cs := #[.int .i64 0, .string (⟨#[]⟩ : ByteArray), .string (⟨#[]⟩ : ByteArray)]) ?_ 0 _ rfl; (with_reducible repeat (first | refine blk_drewN ?_ _ | refine blk_drew ?_ | refine blk_alloc ?_ _)); exact BK110.out) Tryz.underlying102 rfl (by kernel_rfl)) rfl ?_
              exact ⟨qE, qB⟩
             ·rw [zD c42] at H
              obtain ⟨c42b0, c42b1⟩ := qn c42
              by_cases c45 : a0 = 14
              ·rw [zC c45] at H
               obtain ⟨c45b0, c45b1⟩ := qe c45; clear c45
               simp only [Option.some.injEq, Prod.mk.injEq] at H
               obtain ⟨rfl, rfl, rfl, rfl⟩ := H
               go_enter Tryz.func59, Tryz.ntmps59
               go_wp2_with (first | ((with_reducible refine gate_dst (N := 4) rfl ?_); refine box_event (by rfl) (N := 4) (by rfl) (cs := #[.int .i64 0, .string (⟨#[]⟩ : ByteArray), .string (⟨#[]⟩ : ByteArray)]) (t := 102) ?hr ?_; (case hr => go_simp <;> rfl); intro gb110 hg w46 hbox hb; have BK110 := zA (hbox); have GW110 := qG hg; have GE110 := GW110; replace HB := qH hb; clear hb hbox hg; have z47_0 := bk3 BK110.out))
               refine bodyPost_ret (results_ct rfl _ _ gb110 102 #[.int .i64 a0, .string (⟨#[114, 101, 116]⟩ : ByteArray), .string (⟨#[65]⟩ : ByteArray)] (0, 0) _ rfl (by (with_reducible repeat (first | refine blk_drewN ?_ _ | refine blk_drew ?_ | refine blk_alloc ?_ _)); refine blk_put (cs := #[.int .i64 a0, .string (⟨#[114, 101, 116]⟩ : ByteArray), .string (⟨#[]⟩ : ByteArray)]) ?_ 2 _ rfl; (with_reducible repeat (first | refine blk_drewN ?_ _ | refine blk_drew ?_ | refine blk_alloc ?_ _)); refine blk_put (cs := #[.int .i64 a0, .string (⟨#[]⟩ : ByteArray), .string (⟨#[]⟩ : ByteArray)]) ?_ 1 _ rfl; (with_reducible repeat (first | refine blk_drewN ?_ _ | refine blk_drew ?_ | refine blk_alloc ?_ _)); refine blk_put (cs := #[.int .i64 0, .string (⟨#[]⟩ : ByteArray), .string (⟨#[]⟩ : ByteArray)]) ?_ 0 _ rfl; (with_reducible repeat (first | refine blk_drewN ?_ _ | refine blk_drew ?_ | refine blk_alloc ?_ _)); exact BK110.out) Tryz.underlying102 rfl (by kernel_rfl)) rfl ?_
               exact ⟨qE, qB⟩
              ·rw [zD c45] at H
               obtain ⟨c45b0, c45b1⟩ := qn c45
               by_cases c48 : a0 = 21
               ·rw [zC c48] at H
                obtain ⟨c48b0, c48b1⟩ := qe c48; clear c48
                simp only [Option.some.injEq, Prod.mk.injEq] at H
                obtain ⟨rfl, rfl, rfl, rfl⟩ := H
                go_enter Tryz.func59, Tryz.ntmps59
                go_wp2_with (first | ((with_reducible refine gate_dst (N := 4) rfl ?_); refine box_event (by rfl) (N := 4) (by rfl) (cs := #[.int .i64 0, .string (⟨#[]⟩ : ByteArray), .string (⟨#[]⟩ : ByteArray)]) (t := 102) ?hr ?_; (case hr => go_simp <;> rfl); intro gb110 hg w49 hbox hb; have BK110 := zA (hbox); have GW110 := qG hg; have GE110 := GW110; replace HB := qH hb; clear hb hbox hg; have z50_0 := bk3 BK110.out))
                refine bodyPost_ret (results_ct rfl _ _ gb110 102 #[.int .i64 a0, .string (⟨#[102, 101, 116, 99, 104]⟩ : ByteArray), .string (⟨#[68, 65]⟩ : ByteArray)] (0, 0) _ rfl (by (with_reducible repeat (first | refine blk_drewN ?_ _ | refine blk_drew ?_ | refine blk_alloc ?_ _)); refine blk_put (cs := #[.int .i64 a0, .string (⟨#[102, 101, 116, 99, 104]⟩ : ByteArray), .string (⟨#[]⟩ : ByteArray)]) ?_ 2 _ rfl; (with_reducible repeat (first | refine blk_drewN ?_ _ | refine blk_drew ?_ | refine blk_alloc ?_ _)); refine blk_put (cs := #[.int .i64 a0, .string (⟨#[]⟩ : ByteArray), .string (⟨#[]⟩ : ByteArray)]) ?_ 1 _ rfl; (with_reducible repeat (first | refine blk_drewN ?_ _ | refine blk_drew ?_ | refine blk_alloc ?_ _)); refine blk_put (cs := #[.int .i64 0, .string (⟨#[]⟩ : ByteArray), .string (⟨#[]⟩ : ByteArray)]) ?_ 0 _ rfl; (with_reducible repeat (first | refine blk_drewN ?_ _ | refine blk_drew ?_ | refine blk_alloc ?_ _)); exact BK110.out) Tryz.underlying102 rfl (by kernel_rfl)) rfl ?_
                exact ⟨qE, qB⟩
               ·rw [zD c48] at H
                obtain ⟨c48b0, c48b1⟩ := qn c48
                by_cases c51 : a0 = 22
                ·rw [zC c51] at H
                 obtain ⟨c51b0, c51b1⟩ := qe c51; clear c51
                 simp only [Option.some.injEq, Prod.mk.injEq] at H
                 obtain ⟨rfl, rfl, rfl, rfl⟩ := H
                 go_enter Tryz.func59, Tryz.ntmps59
                 go_wp2_with (first | ((with_reducible refine gate_dst (N := 4) rfl ?_); refine box_event (by rfl) (N := 4) (by rfl) (cs := #[.int .i64 0, .string (⟨#[]⟩ : ByteArray), .string (⟨#[]⟩ : ByteArray)]) (t := 102) ?hr ?_; (case hr => go_simp <;> rfl); intro gb110 hg w52 hbox hb; have BK110 := zA (hbox); have GW110 := qG hg; have GE110 := GW110; replace HB := qH hb; clear hb hbox hg; have z53_0 := bk3 BK110.out))
                 refine bodyPost_ret (results_ct rfl _ _ gb110 102 #[.int .i64 a0, .string (⟨#[115, 97, 118, 101]⟩ : ByteArray), .string (⟨#[68, 65]⟩ : ByteArray)] (0, 0) _ rfl (by (with_reducible repeat (first | refine blk_drewN ?_ _ | refine blk_drew ?_ | refine blk_alloc ?_ _)); refine blk_put (cs := #[.int .i64 a0, .string (⟨#[115, 97, 118, 101]⟩ : ByteArray), .string (⟨#[]⟩ : ByteArray)]) ?_ 2 _ rfl; (with_reducible repeat (first | refine blk_drewN ?_ _ | refine blk_drew ?_ | refine blk_alloc ?_ _)); refine blk_put (cs := #[.int .i64 a0, .string (⟨#[]⟩ : ByteArray), .string (⟨#[]⟩ : ByteArray)]) ?_ 1 _ rfl; (with_reducible repeat (first | refine blk_drewN ?_ _ | refine blk_drew ?_ | refine blk_alloc ?_ _)); refine blk_put (cs := #[.int .i64 0, .string (⟨#[]⟩ : ByteArray), .string (⟨#[]⟩ : ByteArray)]) ?_ 0 _ rfl; (with_reducible repeat (first | refine blk_drewN ?_ _ | refine blk_drew ?_ | refine blk_alloc ?_ _)); exact BK110.out) Tryz.underlying102 rfl (by kernel_rfl)) rfl ?_
                 exact ⟨qE, qB⟩
                ·rw [zD c51] at H
                 obtain ⟨c51b0, c51b1⟩ := qn c51
                 simp only [Option.some.injEq, Prod.mk.injEq] at H
                 obtain ⟨rfl, rfl, rfl, rfl⟩ := H
                 go_enter Tryz.func59, Tryz.ntmps59
                 go_wp2_with (first | ((with_reducible refine gate_dst (N := 4) rfl ?_); refine box_event (by rfl) (N := 4) (by rfl) (cs := #[.int .i64 0, .string (⟨#[]⟩ : ByteArray), .string (⟨#[]⟩ : ByteArray)]) (t := 102) ?hr ?_; (case hr => go_simp <;> rfl); intro gb110 hg w54 hbox hb; have BK110 := zA (hbox); have GW110 := qG hg; have GE110 := GW110; replace HB := qH hb; clear hb hbox hg; have z55_0 := bk3 BK110.out))
                 refine bodyPost_ret (results_ct rfl _ _ gb110 102 #[.int .i64 0, .string (⟨#[]⟩ : ByteArray), .string (⟨#[]⟩ : ByteArray)] (0, 0) _ rfl (by (with_reducible repeat (first | refine blk_drewN ?_ _ | refine blk_drew ?_ | refine blk_alloc ?_ _)); refine blk_put (cs := #[.int .i64 0, .string (⟨#[]⟩ : ByteArray), .string (⟨#[]⟩ : ByteArray)]) ?_ 2 _ rfl; (with_reducible repeat (first | refine blk_drewN ?_ _ | refine blk_drew ?_ | refine blk_alloc ?_ _)); refine blk_put (cs := #[.int .i64 0, .string (⟨#[]⟩ : ByteArray), .string (⟨#[]⟩ : ByteArray)]) ?_ 1 _ rfl; (with_reducible repeat (first | refine blk_drewN ?_ _ | refine blk_drew ?_ | refine blk_alloc ?_ _)); refine blk_put (cs := #[.int .i64 0, .string (⟨#[]⟩ : ByteArray), .string (⟨#[]⟩ : ByteArray)]) ?_ 0 _ rfl; (with_reducible repeat (first | refine blk_drewN ?_ _ | refine blk_drew ?_ | refine blk_alloc ?_ _)); exact BK110.out) Tryz.underlying102 rfl (by kernel_rfl)) rfl ?_
                 exact ⟨qE, qB⟩
end Go.Proofs.YtniknpjeknmpjaaGreatDoor.Q
namespace Go.Proofs.YtniknpjeknmpjaaGreatDoor.Q
open Go.RowKit Go.Shelf Go.Proofs.YtniknpjeknmpjaaGreatDoor.Plain Go.Proofs.YtniknpjeknmpjaaGreatDoorW.PrintWords Go.Proofs.YtniknpjeknmpjaaGreatDoorW.PrintLast Go.Proofs.YtniknpjeknmpjaaGreatDoorW.PrintMore
set_option linter.unusedVariables false
set_option linter.unusedSimpArgs false
inductive Clo where
 | num (b1 b2 : Nat)
 | nm (b : Nat)
def encClo : Clo → Value
 | .num b1 b2 => .func (.func 33) #[] #[.pointer (some ⟨b1, 0, none⟩), .pointer (some ⟨b2, 0, none⟩)]
 | .nm b => .func (.func 32) #[] #[.pointer (some ⟨b, 0, none⟩)]
theorem encClo_one : ∀ c : Clo, (encClo c).oneCell' = true
 | .num _ _ => rfl
 | .nm _ => rfl
abbrev kClo : Kd Clo := Kd.scalar encClo encClo_one
theorem infoClo : (Tryz.prog.info? 53).map (fun i => (i.zero, i.size, i.bytes)) = some (some Value.nilFunc, 1, 8) := by kernel_rfl
def fieldParts (x : SIns) (c : UInt8) : List Part :=
 if c = 68 then [.num x.f1] else if c = 65 then [.num x.f2] else if c = 66 then [.num x.f3] else if c = 78 then [.nm x.f4] else if c = 76 then x.f5.map .num else []
def partsOf (x : SIns) (fs : List UInt8) : List Part := fs.flatMap (fieldParts x)
def nameErr (nb : Bool) (e : Int) (fs : List UInt8) : Int := fs.foldl (fun e c => if c = 78 then (if nb then e else keepE e 80) else e) e
structure ClosAt (gp : Nat) (w : World) (cl : List Clo) (ps : List Part) : Prop where
 len : cl.length = ps.length
 at_ : ∀ (j : Nat) (c : Clo) (p : Part), cl[j]? = some c → ps[j]? = some p → PartAt gp w (encClo c) p
theorem ClosAt.snoc {gp : Nat} {w : World} {cl : List Clo} {ps : List Part} {c : Clo} {p : Part} (h : ClosAt gp w cl ps) (hp : PartAt gp w (encClo c) p) : ClosAt gp w (cl ++ [c]) (ps ++ [p]) := by
 refine ⟨by simp [h.len], fun j c' p' h1 h2 => ?_⟩
 rcases Nat.lt_or_ge j cl.length with hj | hj
 ·rw [List.getElem?_append_left hj] at h1
  rw [List.getElem?_append_left (by rw [← h.len]; exact hj)] at h2
  exact h.at_ j c' p' h1 h2
 ·rw [List.getElem?_append_right hj] at h1
  rw [List.getElem?_append_right (by rw [← h.len]; exact hj), ← h.len] at h2
  rcases hq : j - cl.length with _ | q
  ·rw [hq] at h1 h2
   simp only [List.getElem?_cons_zero, Option.some.injEq] at h1 h2
   subst h1; subst h2; exact hp
  ·rw [hq] at h1; simp at h1
theorem ClosAt.kept {gp : Nat} {w w' : World} {cl : List Clo} {ps : List Part} {base : Nat} {buf : List UInt8} {e : Int} (hp : PrAt base gp buf e w) (ht : KeptT gp w w') (h : ClosAt gp w cl ps) : ClosAt gp w' cl ps :=
 ⟨h.len, fun j c p h1 h2 => (h.at_ j c p h1 h2).kept hp ht⟩
theorem ClosAt.below {gp : Nat} {w w' : World} {cl : List Clo} {ps : List Part} (hb : Below w.heap.size w w') (h : ClosAt gp w cl ps) : ClosAt gp w' cl ps :=
 ⟨h.len, fun j c p h1 h2 => (h.at_ j c p h1 h2).below hb⟩
def CellsKept (w w' : World) : Prop := ∀ (k : Nat) (cs : Array Value) (t : TypeId), w.heap[k]? = some (.cells cs t (0, 0)) → w'.heap[k]? = some (.cells cs t (0, 0))
theorem PartAt.cells {gp : Nat} {w w' : World} (hc : CellsKept w w') {v : Value} {p : Part} (h : PartAt gp w v p) : PartAt gp w' v p := by
 cases p with
 | num n => obtain ⟨b1, b2, rfl, h1, h2⟩ := h; exact ⟨b1, b2, rfl, hc _ _ _ h1, hc _ _ _ h2⟩
 | nm s => obtain ⟨b, rfl, h1⟩ := h; exact ⟨b, rfl, hc _ _ _ h1⟩
theorem ClosAt.cells {gp : Nat} {w w' : World} {cl : List Clo} {ps : List Part} (hc : CellsKept w w') (h : ClosAt gp w cl ps) : ClosAt gp w' cl ps := ⟨h.len, fun j c p h1 h2 => (h.at_ j c p h1 h2).cells hc⟩
theorem R_cells {α : Type} {d : Kd α} {e base : Nat} {ok : Nat → Prop} {v : Value} {xs : List α} {w w' : World} (hc : CellsKept w w') (h : d.R e w base ok v xs) : d.R e w' base ok v xs := by
 refine Kd.R_mono (Kd.R_step (Kd.R_bound h) (fun k hk _ => ?_)) (fun k hk => hk.1)
 obtain ⟨_, _, _, q, hq, cells, hk2⟩ := hk
 exact (hc k cells q hk2).trans hk2.symm
theorem PrAt.cells {base gp : Nat} {buf : List UInt8} {e : Int} {w w' : World} (hc : CellsKept w w') (h : PrAt base gp buf e w) : PrAt base gp buf e w' := by
 obtain ⟨ge, p, v, hk, hp, ho⟩ := h
 refine ⟨ge, p, v, hc _ _ _ hk, hp, ?_⟩
 refine ⟨ho.1, ?_⟩
 rcases ho.2 with h | ⟨g, cap, cur, hv, hb, hg, r⟩
 ·exact .inl h
 ·exact .inr ⟨g, cap, cur, hv, hb, hc _ _ _ hg, r⟩
theorem iter_kept {w : World} {k0 : Nat} {s : ByteArray} {p q : Nat} (hi : w.heap[k0]? = some (.stringIter s p)) : CellsKept w (w.iterAt k0 s q) := fun k cs t hk => iter_cells hi hk
theorem ClosAt.grownC {gp base : Nat} {ok : Nat → Prop} {v : Value} {xs : List Clo} {w w' : World} {cl : List Clo} {ps : List Part} (h : ClosAt gp w cl ps) (hr : kClo.R 53 w base ok v xs) (hg : w.grownBy w' v.ownBlock) : ClosAt gp w' cl ps := by
 have keep : ∀ (k tt : Nat) (cs : Array Value), w.heap[k]? = some (.cells cs tt (0, 0)) → tt ≠ 53 → w'.heap[k]? = some (.cells cs tt (0, 0)) := fun k tt cs hk ht => (hg.block k (blk_lt hk) (fun e => by
  obtain ⟨c2, h2⟩ := Kd.R_typed hr k e.symm
  have := hk.symm.trans h2
  simp at this
  exact ht this.2)).trans hk
 refine ⟨h.len, fun j c p h1 h2 => ?_⟩
 have hp := h.at_ j c p h1 h2
 cases p with
 | num n => obtain ⟨b1, b2, e, h3, h4⟩ := hp; exact ⟨b1, b2, e, keep _ _ _ h3 (by decide), keep _ _ _ h4 (by decide)⟩
 | nm s => obtain ⟨b, e, h3⟩ := hp; exact ⟨b, e, keep _ _ _ h3 (by decide)⟩
theorem grown_iter {base : Nat} {ok : Nat → Prop} {v : Value} {xs : List Clo} {w w' : World} {k0 p : Nat} {s : ByteArray} (hr : kClo.R 53 w base ok v xs) (hg : w.grownBy w' v.ownBlock) (hi : w.heap[k0]? = some (.stringIter s p)) : w'.heap[k0]? = some (.stringIter s p) :=
 (hg.block k0 (Array.getElem?_eq_some_iff.1 hi).1 (fun e => by
   obtain ⟨c2, h2⟩ := Kd.R_typed hr k0 e.symm
   have := hi.symm.trans h2
   simp at this)).trans hi
theorem grown_box {base t k : Nat} {cs : Array Value} {ok : Nat → Prop} {v : Value} {xs : List Clo} {w w' : World} (hr : kClo.R 53 w base ok v xs) (hg : w.grownBy w' v.ownBlock) (hk : w.heap[k]? = some (.cells cs t (0, 0))) (ht : t ≠ 53) : w'.heap[k]? = some (.cells cs t (0, 0)) :=
 (hg.block k (blk_lt hk) (fun e => by
   obtain ⟨c2, h2⟩ := Kd.R_typed hr k e.symm
   have := hk.symm.trans h2
   simp at this
   exact ht this.2)).trans hk
theorem parts_of {gp : Nat} {w : World} {base c : Nat} {ok : Nat → Prop} {A : Option Addr} {cl : List Clo} {ps : List Part} (hr : kClo.R 53 w base ok (.slice A cl.length c) cl) (hc : ClosAt gp w cl ps) : PartsAt gp w A ps := by
 rcases Nat.eq_zero_or_pos cl.length with h0 | h0
 ·exact .inl (List.length_eq_zero_iff.1 (hc.len ▸ h0))
 ·obtain ⟨g, cg, eg, -, -, cs, hk⟩ := Kd.R_form hr h0
  injection eg with e1 e2 e3
  subst e1
  refine .inr ⟨g, cs, rfl, hk, fun j p hj => ?_⟩
  have hjl : j < cl.length := by rw [hc.len]; exact (List.getElem?_eq_some_iff.1 hj).1
  refine ⟨encClo cl[j], ?_, hc.at_ j cl[j] p (List.getElem?_eq_getElem hjl) hj⟩
  have hrr := (Kd.R_reads' hr).2.2
  obtain ⟨ad, ea, hh⟩ := hrr.2.2 h0
  cases ea
  obtain ⟨c1, hl1, hk1, hx1⟩ := hh j cl[j] (List.getElem?_eq_getElem hjl)
  have hk1' : c1 = [encClo cl[j]] := hk1
  subst hk1'
  have h2 := hx1 0 _ rfl
  have e : (⟨g, 0, none⟩ : Addr).add (j * kClo.sz + 0) = ⟨g, j, none⟩ := by
   show (⟨g, 0, none⟩ : Addr).add (j * 1 + 0) = _
   rw [Nat.mul_one, Nat.add_zero]; exact add_plain g j
  rw [e] at h2
  exact (blk_cell hk j).symm.trans h2
theorem box_kept {gp k t : Nat} {w w' : World} {cs : Array Value} (ht : KeptT gp w w') (hk : w.heap[k]? = some (.cells cs t (0, 0))) (h1 : t ≠ 5) (h2 : k ≠ gp) : w'.heap[k]? = some (.cells cs t (0, 0)) := ht.2 k _ hk (fun cs' fr e => by injection e with _ e2 _; exact h1 e2) h2
theorem it_kept {gp k p : Nat} {w w' : World} {s : ByteArray} (ht : KeptT gp w w') (hk : w.heap[k]? = some (.stringIter s p)) (h2 : k ≠ gp) : w'.heap[k]? = some (.stringIter s p) := ht.2 k _ hk (fun cs' fr e => by cases e) h2
structure InsSt (gp gx gf k0 : Nat) (cx cf : Array Value) (fs : ByteArray) (buf : List UInt8) (w0 w : World) (i : Nat) (v8 : Value) (cl : List Clo) (ps : List Part) (e1 : Int) (w' : World) : Prop where
 hp0 : gp < w.heap.size
 hx : w.heap.size ≤ gx
 hf : w.heap.size ≤ gf
 hi : w.heap.size ≤ k0
 h0 : w0.heap.size ≤ w.heap.size
 it : w'.heap[k0]? = some (.stringIter fs i)
 row : kClo.R 53 w' w.heap.size (fun _ => True) v8 cl
 cs : ClosAt gp w' cl ps
 pr : PrAt w0.heap.size gp buf e1 w'
 bl : Below w0.heap.size w0 w'
 kt : KeptT gp w w'
 bx : w'.heap[gx]? = some (.cells cx 44 (0, 0))
 bf : w'.heap[gf]? = some (.cells cf 102 (0, 0))
section
variable {gp gx gf k0 : Nat} {cx cf : Array Value} {fs : ByteArray} {buf : List UInt8} {w0 w w1 w2 : World} {i : Nat} {v8 : Value} {cl : List Clo} {ps : List Part} {e1 : Int}
theorem InsSt.next (s : InsSt gp gx gf k0 cx cf fs buf w0 w i v8 cl ps e1 w1) (j : Nat) : InsSt gp gx gf k0 cx cf fs buf w0 w j v8 cl ps e1 (w1.iterAt k0 fs j) where
 hp0 := s.hp0
 hx := s.hx
 hf := s.hf
 hi := s.hi
 h0 := s.h0
 it := Lib.iterAt_heap w1 k0 fs i j s.it
 row := R_cells (iter_kept s.it) s.row
 cs := s.cs.cells (iter_kept s.it)
 pr := s.pr.cells (iter_kept s.it)
 bl := Lib.below_iterAt s.bl (Nat.le_trans s.h0 s.hi) fs j
 kt := ⟨by rw [Lib.iterAt_size]; exact s.kt.1, fun k o hk ht hg => (Lib.iterAt_other w1 k0 k fs j (by have h1 := blk_lt hk; have h2 := s.hi; omega)).trans (s.kt.2 k o hk ht hg)⟩
 bx := iter_cells s.it s.bx
 bf := iter_cells s.it s.bf
theorem InsSt.kept {e2 : Int} (s : InsSt gp gx gf k0 cx cf fs buf w0 w i v8 cl ps e1 w1) (ht : KeptT gp w1 w2) (hp : PrAt w0.heap.size gp buf e2 w2) (hb : Below w0.heap.size w0 w2) : InsSt gp gx gf k0 cx cf fs buf w0 w i v8 cl ps e2 w2 where
 hp0 := s.hp0
 hx := s.hx
 hf := s.hf
 hi := s.hi
 h0 := s.h0
 it := it_kept ht s.it (by have := s.hp0; have := s.hi; omega)
 row := R_keptT s.row s.pr ht (by decide)
 cs := s.cs.kept s.pr ht
 pr := hp
 bl := hb
 kt := s.kt.trans ht
 bx := box_kept ht s.bx (by decide) (by have := s.hp0; have := s.hx; omega)
 bf := box_kept ht s.bf (by decide) (by have := s.hp0; have := s.hf; omega)
theorem InsSt.later (s : InsSt gp gx gf k0 cx cf fs buf w0 w i v8 cl ps e1 w1) (hb : Below w1.heap.size w1 w2) : InsSt gp gx gf k0 cx cf fs buf w0 w i v8 cl ps e1 w2 := s.kept ((KeptT.refl gp w1).below hb) (s.pr.below hb) (below_step s.bl hb)
theorem InsSt.app {v1 : Value} {c : Clo} {p : Part} (s : InsSt gp gx gf k0 cx cf fs buf w0 w i v8 cl ps e1 w1) (hp : PartAt gp w1 (encClo c) p) (ho : kClo.R 53 w2 w.heap.size (fun _ => True) v1 (cl ++ [c])) (hb : Below w.heap.size w1 w2) (hg : w1.grownBy w2 v8.ownBlock) : InsSt gp gx gf k0 cx cf fs buf w0 w i v1 (cl ++ [c]) (ps ++ [p]) e1 w2 where
 hp0 := s.hp0
 hx := s.hx
 hf := s.hf
 hi := s.hi
 h0 := s.h0
 it := grown_iter s.row hg s.it
 row := ho
 cs := (s.cs.snoc hp).grownC s.row hg
 pr := s.pr.grown s.row hg (by decide) (by decide)
 bl := s.bl.trans (hb.mono s.h0)
 kt := s.kt.later hb
 bx := grown_box s.row hg s.bx (by decide)
 bf := grown_box s.row hg s.bf (by decide)
end
theorem partsOf_snoc (x : SIns) (l : List UInt8) (c : UInt8) : partsOf x (l ++ [c]) = partsOf x l ++ fieldParts x c := by simp [partsOf]
theorem partsOf_len (x : SIns) : ∀ l : List UInt8, (partsOf x l).length ≤ l.length * (x.f5.length + 1)
 | [] => by simp [partsOf]
 | c :: l => by
  have h := partsOf_len x l
  have h2 : (fieldParts x c).length ≤ x.f5.length + 1 := by unfold fieldParts; (repeat' split) <;> simp
  have e : partsOf x (c :: l) = fieldParts x c ++ partsOf x l := by simp [partsOf]
  rw [e, List.length_append, List.length_cons, Nat.add_mul]; omega
theorem nameErr_snoc (nb : Bool) (e : Int) (l : List UInt8) (c : UInt8) : nameErr nb e (l ++ [c]) = if c = 78 then (if nb then nameErr nb e l else keepE (nameErr nb e l) 80) else nameErr nb e l := by simp [nameErr, List.foldl_append]
set_option maxHeartbeats 8000000 in
set_option maxRecDepth 100000 in
theorem ins_calls {gp : Nat} {buf : List UInt8} {e0 : Int} {w0 w : World} (h : PrAt w0.heap.size gp buf e0 w) (hB : Below w0.heap.size w0 w) (hL : LaidW w0) (x : SIns) (A5 : Option Addr) (c5 : Nat) (h5 : (Kd.int .i64).C w0 A5 x.f5.length x.f5) (code : Bool) (op : Int) (wd fs : ByteArray) (is : Bool) (hof : text_of.f x.f0 code = some (op, wd, fs, is)) (nb : Bool) (hnb : ir_Name.f x.f4 = some nb)
 (hfs : ∀ b ∈ fs.data.toList, b = 68 ∨ b = 65 ∨ b = 66 ∨ b = 78 ∨ b = 76) (hok : ∀ p ∈ partsOf x fs.data.toList, PartOk p) (hpl : fs.size ≤ 10 ∧ x.f5.length ≤ 9000) (hlen : (lineBytes wd (partsOf x fs.data.toList)).length ≤ 1000000000) (hbl : buf.length ≤ 1000000000) :
 Calls Tryz.prog 35 #[.pointer (some ⟨gp, 0, none⟩), .agg #[.int .i64 x.f0, .int .i64 x.f1, .int .i64 x.f2, .int .i64 x.f3, .string x.f4, .slice A5 x.f5.length c5], .bool code] w fun e w' => e = .returned (.tuple #[]) ∧
  (if is then PrAt w0.heap.size gp (buf ++ lineBytes wd (partsOf x fs.data.toList)) (errsOf (nameErr nb e0 fs.data.toList) (partsOf x fs.data.toList)) w' else PrAt w0.heap.size gp buf (keepE e0 80) w') ∧ Below w0.heap.size w0 w' ∧ KeptT gp w w' := by
 obtain ⟨x0, x1, x2, x3, x4, x5⟩ := x
 dsimp only at h5 hof hnb hpl ⊢
 have HPw := zA h
 have HBw := zA hB
 have HW := zA (Below.refl w.heap.size w)
 have HLd := zA hL
 have H5 := zA h5
 have HOf := zA hof
 have HNb := zA hnb
 have HF := zA hfs
 have HOk := zA hok
 have HLen := zA hlen
 have HBl := zA hbl
 clear h hB hL h5 hof hnb hfs hok hlen hbl
 have huI := Tryz.underlying44
 go_enter Tryz.func35, Tryz.ntmps35
 cases is with
 | false =>
  go_wp2_with (first
   | ((with_reducible refine gate_dst (N := 4) rfl ?_); refine box_event (by rfl) (N := 4) (by rfl) (cs := #[.int .i64 x0, .int .i64 x1, .int .i64 x2, .int .i64 x3, .string x4, .slice A5 x5.length c5]) (t := 44) ?hr ?_; (case hr => go_simp <;> rfl); intro gx hg w1 hbox hb; have BX := zA hbox; have HGx := zA (show w.heap.size ≤ gx by rw [hg]; exact HW.out.size); replace HW := zA (below_step HW.out hb); clear hb hbox hg; have z1 := bk6 BX.out)
   | (go_at_call 59; refine (text_of.calls x0 code op wd fs false _ HOf.out).mono ?_; rintro e w2 ⟨rfl, hb⟩; replace HW := zA (below_step HW.out hb); replace BX := zA (blk_below BX.out hb); clear hb z1)
   | ((with_reducible refine gate_dst (N := 6) rfl ?_); refine box_event (by rfl) (N := 6) (by rfl) (cs := #[.int .i64 0, .string (⟨#[]⟩ : ByteArray), .string (⟨#[]⟩ : ByteArray)]) (t := 102) ?hr ?_; (case hr => go_simp <;> rfl); intro gf hg w3 hbox hb; have BF := zA hbox; have HGf := zA (show w.heap.size ≤ gf by rw [hg]; exact HW.out.size); replace HW := zA (below_step HW.out hb); replace BX := zA (blk_below BX.out hb); have HGn := zA (show gx ≠ gf by have := (Array.getElem?_eq_some_iff.1 BX.out).1; intro e; rw [e] at BX; have := BX.out.symm.trans hbox; simp at this); clear hb hbox hg; have z3 := bk3 BF.out)
   | (go_at_call 31; (have HW4 := zA (((HW.out.setCell (p := ⟨gf, 0, none⟩) HGf.out (.int .i64 op)).setCell (p := ⟨gf, 1, none⟩) HGf.out (.string wd)).setCell (p := ⟨gf, 2, none⟩) HGf.out (.string fs)); refine (wrong_calls (HPw.out.below HW4.out) (below_step HBw.out HW4.out) 80).mono ?_; rintro e w5 ⟨rfl, hp, hb, ht⟩; have HP5 := zA hp; have HB5 := zA hb; have HT5 := zA (((KeptT.refl gp w).below HW4.out).trans ht); clear hp hb ht)))
  (try simp only [Exit.inBlock, Exit.then]); refine bodyPost_ret (results_none rfl _ _ _) rfl ?_
  exact ⟨rfl, HP5.out, HB5.out, HT5.out⟩
 | true =>
  go_wp2_with (first
   | ((with_reducible refine gate_dst (N := 4) rfl ?_); refine box_event (by rfl) (N := 4) (by rfl) (cs := #[.int .i64 x0, .int .i64 x1, .int .i64 x2, .int .i64 x3, .string x4, .slice A5 x5.length c5]) (t := 44) ?hr ?_; (case hr => go_simp <;> rfl); intro gx hg w1 hbox hb; have BX := zA hbox; have HGx := zA (show w.heap.size ≤ gx by rw [hg]; exact HW.out.size); replace HW := zA (below_step HW.out hb); clear hb hbox hg; have z1 := bk6 BX.out)
   | (go_at_call 59; refine (text_of.calls x0 code op wd fs true _ HOf.out).mono ?_; rintro e w2 ⟨rfl, hb⟩; replace HW := zA (below_step HW.out hb); replace BX := zA (blk_below BX.out hb); clear hb z1)
   | ((with_reducible refine gate_dst (N := 6) rfl ?_); refine box_event (by rfl) (N := 6) (by rfl) (cs := #[.int .i64 0, .string (⟨#[]⟩ : ByteArray), .string (⟨#[]⟩ : ByteArray)]) (t := 102) ?hr ?_; (case hr => go_simp <;> rfl); intro gf hg w3 hbox hb; have BF := zA hbox; have HGf := zA (show w.heap.size ≤ gf by rw [hg]; exact HW.out.size); replace HW := zA (below_step HW.out hb); replace BX := zA (blk_below BX.out hb); have HGn := zA (show gx ≠ gf by have := (Array.getElem?_eq_some_iff.1 BX.out).1; intro e; rw [e] at BX; have := BX.out.symm.trans hbox; simp at this); clear hb hbox hg; have z3 := bk3 BF.out)
   | fail)
  have hW4 := ((HW.out.setCell (p := ⟨gf, 0, none⟩) HGf.out (.int .i64 op)).setCell (p := ⟨gf, 1, none⟩) HGf.out (.string wd)).setCell (p := ⟨gf, 2, none⟩) HGf.out (.string fs)
  have hWI : Below w.heap.size w (World.iter (((w3.setCell ⟨gf, 0, none⟩ (.int .i64 op)).setCell ⟨gf, 1, none⟩ (.string wd)).setCell ⟨gf, 2, none⟩ (.string fs)) fs 0) := below_alloc hW4 _
  have hIT : (World.iter (((w3.setCell ⟨gf, 0, none⟩ (.int .i64 op)).setCell ⟨gf, 1, none⟩ (.string wd)).setCell ⟨gf, 2, none⟩ (.string fs)) fs 0).heap[w3.heap.size]? = some (.stringIter fs 0) := by
   have h := World.iter_heap (((w3.setCell ⟨gf, 0, none⟩ (.int .i64 op)).setCell ⟨gf, 1, none⟩ (.string wd)).setCell ⟨gf, 2, none⟩ (.string fs)) fs 0
   rw [show (((w3.setCell ⟨gf, 0, none⟩ (.int .i64 op)).setCell ⟨gf, 1, none⟩ (.string wd)).setCell ⟨gf, 2, none⟩ (.string fs)).heap.size = w3.heap.size by simp [World.setCell]] at h
   exact h
  have hBF : (World.iter (((w3.setCell ⟨gf, 0, none⟩ (.int .i64 op)).setCell ⟨gf, 1, none⟩ (.string wd)).setCell ⟨gf, 2, none⟩ (.string fs)) fs 0).heap[gf]? = some (.cells #[.int .i64 op, .string wd, .string fs] 102 (0, 0)) := blk_alloc (blk_put (blk_put (blk_put BF.out 0 _ rfl) 1 _ rfl) 2 _ rfl) _
  have hBX : (World.iter (((w3.setCell ⟨gf, 0, none⟩ (.int .i64 op)).setCell ⟨gf, 1, none⟩ (.string wd)).setCell ⟨gf, 2, none⟩ (.string fs)) fs 0).heap[gx]? = some (.cells #[.int .i64 x0, .int .i64 x1, .int .i64 x2, .int .i64 x3, .string x4, .slice A5 x5.length c5] 44 (0, 0)) := blk_alloc ((heap_setCell_other _ _ _ _ HGn.out).trans ((heap_setCell_other _ _ _ _ HGn.out).trans ((heap_setCell_other _ _ _ _ HGn.out).trans BX.out))) _
  generalize World.iter (((w3.setCell ⟨gf, 0, none⟩ (.int .i64 op)).setCell ⟨gf, 1, none⟩ (.string wd)).setCell ⟨gf, 2, none⟩ (.string fs)) fs 0 = wI at hWI hIT hBF hBX ⊢
  have HS : Aside0 (InsSt gp gx gf w3.heap.size #[.int .i64 x0, .int .i64 x1, .int .i64 x2, .int .i64 x3, .string x4, .slice A5 x5.length c5] #[.int .i64 op, .string wd, .string fs] fs buf w0 w 0 (.slice none 0 0) [] [] e0 wI) := ⟨⟨by obtain ⟨_, p, v, hk, _⟩ := HPw.out; exact blk_lt hk, HGx.out, HGf.out, HW.out.size, HBw.out.size, hIT, Kd.R_nil _ _ _ _ _, ⟨rfl, fun j c p h1 => by simp at h1⟩, HPw.out.below hWI, below_step HBw.out hWI, (KeptT.refl gp w).below hWI, hBX, hBF⟩⟩
  clear hWI hIT hBF hBX hW4
  go_loopg [8] fs.size (fun kq v8 w' => ∃ (i : Nat) (cl : List Clo), Aside0 (kq + i = fs.size) ∧ Aside0 (InsSt gp gx gf w3.heap.size #[.int .i64 x0, .int .i64 x1, .int .i64 x2, .int .i64 x3, .string x4, .slice A5 x5.length c5] #[.int .i64 op, .string wd, .string fs] fs buf w0 w i v8 cl (partsOf (⟨x0, x1, x2, x3, x4, x5⟩ : SIns) (fs.data.toList.take i)) (nameErr nb e0 (fs.data.toList.take i)) w'))
  case atStart => exact ⟨0, [], ⟨by omega⟩, HS⟩
  case round =>
  clear HS
  obtain ⟨i, cl, HK, HS⟩ := hrel
  have hcl : cl.length ≤ 100000 := by
   have h1 := partsOf_len (⟨x0, x1, x2, x3, x4, x5⟩ : SIns) (fs.data.toList.take i)
   have h2 : (fs.data.toList.take i).length ≤ 10 := by have h9 : fs.data.toList.length = fs.size := (by simp); rw [List.length_take]; omega
   have h3 : (fs.data.toList.take i).length * (x5.length + 1) ≤ 10 * 9001 := Nat.mul_le_mul h2 (by omega)
   rw [HS.out.cs.len]; exact Nat.le_trans h1 (by show _ * (x5.length + 1) ≤ _; omega)
  cases gk with
  | zero =>
   have hif : i = fs.size := by have := HK.out; omega
   have hnx : ∀ ty, (Instr.next (.pointer (some ⟨w3.heap.size, 0, none⟩)) true ty).run Tryz.prog wr = .ok (.tuple #[.bool false]) wr := fun ty => Lib.run_next_end_at wr _ fs i ty HS.out.it (by omega)
   have z3 := bk3 HS.out.bf
   obtain ⟨A, c, rfl⟩ := Kd.R_slice HS.out.row
   have HQ := zA (parts_of HS.out.row HS.out.cs)
   have htk : fs.data.toList.take i = fs.data.toList := List.take_of_length_le (by have : fs.data.toList.length = fs.size := (by simp); omega)
   rw [htk] at HQ HS
   have HLn := zA HS.out.cs.len
   rw [HLn.out]
   go_wp2_with (go_at_call 16; refine (line_calls HS.out.pr HS.out.bl HLd.out wd _ A c HQ.out HOk.out (by rw [← HLn.out]; omega) HLen.out HBl.out).mono ?_; rintro e w5 ⟨rfl, hp, hb, ht⟩; have HP5 := zA hp; have HB5 := zA hb; have HT5 := zA (HS.out.kt.trans ht); clear hp hb ht)
   go_end0
   exact ⟨rfl, HP5.out, HB5.out, HT5.out⟩
  | succ k1 =>
   have hi : i < fs.size := by have := HK.out; omega
   obtain ⟨c, hc⟩ : ∃ c, c = fs[i]'hi := ⟨_, rfl⟩
   have hgl : fs.data.toList[i]? = some c := by rw [hc]; simp [ByteArray.getElem_eq_getElem_data]
   have htk : fs.data.toList.take (i + 1) = fs.data.toList.take i ++ [c] := by rw [List.take_add_one, hgl]; rfl
   have hm : c ∈ fs.data.toList := List.mem_of_getElem? hgl
   obtain ⟨wi, hwi⟩ : ∃ wi, wi = wr.iterAt w3.heap.size fs (i + 1) := ⟨_, rfl⟩
   have HS1 := zA (HS.out.next (i + 1))
   rw [← hwi] at HS1
   have hgen : ∀ n : Nat, c.toNat = n → n < 128 → ∀ ty, (Instr.next (.pointer (some ⟨w3.heap.size, 0, none⟩)) true ty).run Tryz.prog wr = .ok (.tuple #[.bool true, .int .i64 i, .int .i32 (n : Int)]) wi := fun n hn h8 ty => by
    rw [Lib.run_next_ascii_at wr _ fs i ty HS.out.it hi (by rw [← hc, hn]; exact h8), ← hc, hn, hwi]
   have z6 := bk6 HS1.out.bx
   have hcc := HF.out c hm
   clear hc hgl hm hwi
   rcases hcc with rfl | rfl | rfl | rfl | rfl
   ·have hnx := hgen 68 rfl (by decide)
    clear hgen
    go_wp2_with (first
     | (go_at_call 18; refine (number_calls x1).mono ?_; rintro e w5 ⟨v, rfl, hpa, hb⟩; obtain ⟨b1, b2, rfl, h1, h2⟩ := hpa; have HPa := zA (show PartAt gp w5 (encClo (.num b1 b2)) (.num x1) from ⟨b1, b2, rfl, h1, h2⟩); have HS5 := zA (HS1.out.later hb); clear h1 h2 hb)
     | ((with_reducible refine gate_builtin (b := .append) (xs := #[.tmp 33, .tmp 38]) rfl ?_); at_builtin; (refine Kd.R_append kClo (w0 := w5) w.heap.size rfl (.tmp 33) (.tmp 38) 69 53 Value.nilFunc 8 rfl Tryz.underlying69 infoClo rfl (by decide) (by omega) u8 cl (Clo.num b1 b2) [.func (.func 33) #[] #[.pointer (some ⟨b1, 0, none⟩), .pointer (some ⟨b2, 0, none⟩)]] (fun _ => True) (fun _ => False) rfl rfl ?aP (fun _ hk => hk.elim) ?aF ?aO ?aB ?aS ?aL ?_; (case aP => exact rfl); (case aF => exact fun _ _ => trivial); (case aO => exact HS5.out.row); (case aB => exact Below.refl _ _); (case aS => exact HS5.out.kt.1); (case aL => omega); intro v1 w6 ho3 hb3 hg3 _; have HS6 := zA (HS5.out.app HPa.out ho3 hb3 hg3); clear ho3 hb3 hg3)))
    go_roundg k1
    case measure => have := HK.out; omega
    case rel => exact ⟨i + 1, _, ⟨by have := HK.out; omega⟩, ⟨by rw [htk, partsOf_snoc, nameErr_snoc]; exact HS6.out⟩⟩
   ·have hnx := hgen 65 rfl (by decide)
    clear hgen
    go_wp2_with (first
     | (go_at_call 18; refine (number_calls x2).mono ?_; rintro e w5 ⟨v, rfl, hpa, hb⟩; obtain ⟨b1, b2, rfl, h1, h2⟩ := hpa; have HPa := zA (show PartAt gp w5 (encClo (.num b1 b2)) (.num x2) from ⟨b1, b2, rfl, h1, h2⟩); have HS5 := zA (HS1.out.later hb); clear h1 h2 hb)
     | ((with_reducible refine gate_builtin (b := .append) (xs := #[.tmp 42, .tmp 47]) rfl ?_); at_builtin; (refine Kd.R_append kClo (w0 := w5) w.heap.size rfl (.tmp 42) (.tmp 47) 69 53 Value.nilFunc 8 rfl Tryz.underlying69 infoClo rfl (by decide) (by omega) u8 cl (Clo.num b1 b2) [.func (.func 33) #[] #[.pointer (some ⟨b1, 0, none⟩), .pointer (some ⟨b2, 0, none⟩)]] (fun _ => True) (fun _ => False) rfl rfl ?aP (fun _ hk => hk.elim) ?aF ?aO ?aB ?aS ?aL ?_; (case aP => exact rfl); (case aF => exact fun _ _ => trivial); (case aO => exact HS5.out.row); (case aB => exact Below.refl _ _); (case aS => exact HS5.out.kt.1); (case aL => omega); intro v1 w6 ho3 hb3 hg3 _; have HS6 := zA (HS5.out.app HPa.out ho3 hb3 hg3); clear ho3 hb3 hg3)))
    go_roundg k1
    case measure => have := HK.out; omega
    case rel => exact ⟨i + 1, _, ⟨by have := HK.out; omega⟩, ⟨by rw [htk, partsOf_snoc, nameErr_snoc]; exact HS6.out⟩⟩
   ·have hnx := hgen 66 rfl (by decide)
    clear hgen
    go_wp2_with (first
     | (go_at_call 18; refine (number_calls x3).mono ?_; rintro e w5 ⟨v, rfl, hpa, hb⟩; obtain ⟨b1, b2, rfl, h1, h2⟩ := hpa; have HPa := zA (show PartAt gp w5 (encClo (.num b1 b2)) (.num x3) from ⟨b1, b2, rfl, h1, h2⟩); have HS5 := zA (HS1.out.later hb); clear h1 h2 hb)
     | ((with_reducible refine gate_builtin (b := .append) (xs := #[.tmp 51, .tmp 56]) rfl ?_); at_builtin; (refine Kd.R_append kClo (w0 := w5) w.heap.size rfl (.tmp 51) (.tmp 56) 69 53 Value.nilFunc 8 rfl Tryz.underlying69 infoClo rfl (by decide) (by omega) u8 cl (Clo.num b1 b2) [.func (.func 33) #[] #[.pointer (some ⟨b1, 0, none⟩), .pointer (some ⟨b2, 0, none⟩)]] (fun _ => True) (fun _ => False) rfl rfl ?aP (fun _ hk => hk.elim) ?aF ?aO ?aB ?aS ?aL ?_; (case aP => exact rfl); (case aF => exact fun _ _ => trivial); (case aO => exact HS5.out.row); (case aB => exact Below.refl _ _); (case aS => exact HS5.out.kt.1); (case aL => omega); intro v1 w6 ho3 hb3 hg3 _; have HS6 := zA (HS5.out.app HPa.out ho3 hb3 hg3); clear ho3 hb3 hg3)))
    go_roundg k1
    case measure => have := HK.out; omega
    case rel => exact ⟨i + 1, _, ⟨by have := HK.out; omega⟩, ⟨by rw [htk, partsOf_snoc, nameErr_snoc]; exact HS6.out⟩⟩
   ·have hnx := hgen 78 rfl (by decide)
    clear hgen
    go_wp2_with (first
     | (go_at_call 17; refine (name_calls HS1.out.pr HS1.out.bl x4 nb HNb.out).mono ?_; rintro e w5 ⟨v, rfl, hpa, hp, hb, ht⟩; obtain ⟨b1, rfl, h1⟩ := hpa; have HPa := zA (show PartAt gp w5 (encClo (.nm b1)) (.nm x4) from ⟨b1, rfl, h1⟩); have HS5 := zA (HS1.out.kept ht hp hb); clear h1 hp hb ht)
     | ((with_reducible refine gate_builtin (b := .append) (xs := #[.tmp 60, .tmp 65]) rfl ?_); at_builtin; (refine Kd.R_append kClo (w0 := w5) w.heap.size rfl (.tmp 60) (.tmp 65) 69 53 Value.nilFunc 8 rfl Tryz.underlying69 infoClo rfl (by decide) (by omega) u8 cl (Clo.nm b1) [.func (.func 32) #[] #[.pointer (some ⟨b1, 0, none⟩)]] (fun _ => True) (fun _ => False) rfl rfl ?aP (fun _ hk => hk.elim) ?aF ?aO ?aB ?aS ?aL ?_; (case aP => exact rfl); (case aF => exact fun _ _ => trivial); (case aO => exact HS5.out.row); (case aB => exact Below.refl _ _); (case aS => exact HS5.out.kt.1); (case aL => omega); intro v1 w6 ho3 hb3 hg3 _; have HS6 := zA (HS5.out.app HPa.out ho3 hb3 hg3); clear ho3 hb3 hg3)))
    go_roundg k1
    case measure => have := HK.out; omega
    case rel => exact ⟨i + 1, _, ⟨by have := HK.out; omega⟩, ⟨by rw [htk, partsOf_snoc, nameErr_snoc]; exact HS6.out⟩⟩
   ·have hnx := hgen 76 rfl (by decide)
    clear hgen
    go_wp2_with fail
    clear z6
    go_loopg [8, 72] x5.length (fun kq2 v8 v72 w' => ∃ (j : Nat) (cl2 : List Clo), v72 = .int .i64 (j : Int) ∧ Aside0 (kq2 + j = x5.length) ∧ Aside0 (InsSt gp gx gf w3.heap.size #[.int .i64 x0, .int .i64 x1, .int .i64 x2, .int .i64 x3, .string x4, .slice A5 x5.length c5] #[.int .i64 op, .string wd, .string fs] fs buf w0 w (i + 1) v8 cl2 (partsOf (⟨x0, x1, x2, x3, x4, x5⟩ : SIns) (fs.data.toList.take i) ++ (x5.take j).map .num) (nameErr nb e0 (fs.data.toList.take i)) w'))
    case atStart => exact ⟨0, cl, by first | rfl | simp, ⟨by omega⟩, ⟨by simpa using HS1.out⟩⟩
    case round =>
     clear HS1 HS hcl
     obtain ⟨j, cl2, rfl, HJ, HS2⟩ := hrel
     have hcl : cl2.length ≤ 100000 := by
      have h1 := partsOf_len (⟨x0, x1, x2, x3, x4, x5⟩ : SIns) (fs.data.toList.take i)
      have h2 : (fs.data.toList.take i).length ≤ 10 := by rw [List.length_take]; have : fs.data.toList.length = fs.size := (by simp); omega
      have h3 : (fs.data.toList.take i).length * (x5.length + 1) ≤ 10 * 9001 := Nat.mul_le_mul h2 (by omega)
      have h4 := HS2.out.cs.len
      rw [List.length_append, List.length_map, List.length_take] at h4
      have h5 : (partsOf (⟨x0, x1, x2, x3, x4, x5⟩ : SIns) (fs.data.toList.take i)).length ≤ 90010 := Nat.le_trans h1 (by show _ * (x5.length + 1) ≤ _; omega)
      omega
     cases gk with
     | zero =>
      have d1b := zG (show ¬ ((j : Int) < (x5.length : Int)) by have := HJ.out; omega)
      have d1c := zG (show ¬ (j < x5.length) by have := HJ.out; omega)
      have hj : j = x5.length := by have := HJ.out; omega
      go_wp2_with fail
      go_roundg k1
      case measure => have := HK.out; omega
      case rel => exact ⟨i + 1, _, ⟨by have := HK.out; omega⟩, ⟨by rw [htk, partsOf_snoc, nameErr_snoc]; rw [hj, List.take_length] at HS2; exact HS2.out⟩⟩
     | succ k2 =>
      have hj : j < x5.length := by have := HJ.out; omega
      have d1b := zF (show ((j : Int) < (x5.length : Int)) by omega)
      have d1c := zF hj
      obtain ⟨n, hn⟩ : ∃ n, x5[j]? = some n := ⟨_, List.getElem?_eq_getElem hj⟩
      obtain ⟨ad, ea, hh⟩ := (Kd.C_below H5.out HS2.out.bl).2.2 (by omega)
      subst ea
      obtain ⟨c1, hl1, hk1, hx1⟩ := hh j n hn
      have hk1' : c1 = [.int .i64 n] := hk1
      subst hk1'
      have hx0 := hx1 0 _ rfl
      have hxa : (Kd.int IntKind.i64).sz = 1 := rfl
      rw [hxa, Nat.mul_one, Nat.add_zero] at hx0
      clear hh hx1 hl1 hk1
      go_wp2_with (first
       | (go_at_call 18; refine (number_calls n).mono ?_; rintro e w5 ⟨v, rfl, hpa, hb⟩; obtain ⟨b1, b2, rfl, h1, h2⟩ := hpa; have HPa := zA (show PartAt gp w5 (encClo (.num b1 b2)) (.num n) from ⟨b1, b2, rfl, h1, h2⟩); have HS5 := zA (HS2.out.later hb); clear h1 h2 hb)
       | ((with_reducible refine gate_builtin (b := .append) (xs := #[.tmp 76, .tmp 80]) rfl ?_); at_builtin; (refine Kd.R_append kClo (w0 := w5) w.heap.size rfl (.tmp 76) (.tmp 80) 69 53 Value.nilFunc 8 rfl Tryz.underlying69 infoClo rfl (by decide) (by omega) u8 cl2 (Clo.num b1 b2) [.func (.func 33) #[] #[.pointer (some ⟨b1, 0, none⟩), .pointer (some ⟨b2, 0, none⟩)]] (fun _ => True) (fun _ => False) rfl rfl ?aP (fun _ hk => hk.elim) ?aF ?aO ?aB ?aS ?aL ?_; (case aP => exact rfl); (case aF => exact fun _ _ => trivial); (case aO => exact HS5.out.row); (case aB => exact Below.refl _ _); (case aS => exact HS5.out.kt.1); (case aL => omega); intro v1 w6 ho3 hb3 hg3 _; have HS6 := zA (HS5.out.app HPa.out ho3 hb3 hg3); clear ho3 hb3 hg3)))
      go_roundg k2
      case measure => have := HJ.out; omega
      case rel => exact ⟨j + 1, _, by go_num, ⟨by have := HJ.out; omega⟩, ⟨by rw [List.take_add_one, hn]; simp only [Option.toList_some, List.map_append, List.map_cons, List.map_nil, ← List.append_assoc]; exact HS6.out⟩⟩
def insText (code : Bool) (s : List UInt8 × Int) (x : SIns) : List UInt8 × Int := match text_of.f x.f0 code with
 | some (_, wd, fs, true) => (s.1 ++ lineBytes wd (partsOf x fs.data.toList), errsOf (nameErr ((ir_Name.f x.f4).getD false) s.2 fs.data.toList) (partsOf x fs.data.toList))
 | _ => (s.1, keepE s.2 80)
structure InsOk (code : Bool) (x : SIns) : Prop where
 of_ : ∃ op wd fs is, text_of.f x.f0 code = some (op, wd, fs, is) ∧ (∀ b ∈ fs.data.toList, b = 68 ∨ b = 65 ∨ b = 66 ∨ b = 78 ∨ b = 76) ∧ (∀ p ∈ partsOf x fs.data.toList, PartOk p) ∧ fs.size ≤ 10 ∧ (lineBytes wd (partsOf x fs.data.toList)).length ≤ 1000000000
 nm : ∃ nb, ir_Name.f x.f4 = some nb
 len : x.f5.length ≤ 9000
def blkText (code : Bool) (s : List UInt8 × Int) (xs : List SIns) : List UInt8 × Int := xs.foldl (insText code) (s.1 ++ [98, 108, 111, 99, 107, 10], s.2)
def blksText (code : Bool) (s : List UInt8 × Int) (l : List (List SIns)) : List UInt8 × Int := l.foldl (blkText code) s
theorem fold_len {α : Type} {f : List UInt8 × Int → α → List UInt8 × Int} (hf : ∀ s x, s.1.length ≤ (f s x).1.length) : ∀ (l : List α) (s : List UInt8 × Int), s.1.length ≤ (l.foldl f s).1.length
 | [], s => Nat.le_refl _
 | x :: l, s => Nat.le_trans (hf s x) (fold_len hf l (f s x))
theorem fold_take {α : Type} {f : List UInt8 × Int → α → List UInt8 × Int} (hf : ∀ s x, s.1.length ≤ (f s x).1.length) (l : List α) (s : List UInt8 × Int) (n : Nat) : ((l.take n).foldl f s).1.length ≤ (l.foldl f s).1.length := by
 conv => rhs; rw [← List.take_append_drop n l, List.foldl_append]
 exact fold_len hf _ _
theorem insText_len (code : Bool) (s : List UInt8 × Int) (x : SIns) : s.1.length ≤ (insText code s x).1.length := by
 unfold insText
 split
 ·simp
 ·exact Nat.le_refl _
theorem blkText_len (code : Bool) (s : List UInt8 × Int) (xs : List SIns) : s.1.length ≤ (blkText code s xs).1.length := Nat.le_trans (by simp) (fold_len (insText_len code) xs (s.1 ++ [98, 108, 111, 99, 107, 10], s.2))
theorem blkText_take (code : Bool) (s : List UInt8 × Int) (xs : List SIns) (n : Nat) : ((xs.take n).foldl (insText code) (s.1 ++ [98, 108, 111, 99, 107, 10], s.2)).1.length ≤ (blkText code s xs).1.length := fold_take (insText_len code) xs _ n
theorem fold_snoc {α β : Type} (f : β → α → β) (l : List α) (s : β) (n : Nat) (x : α) (h : l[n]? = some x) : (l.take (n + 1)).foldl f s = f ((l.take n).foldl f s) x := by rw [List.take_add_one, h]; simp
theorem rd_TIns_at {xs : List SIns} {j : Nat} {x : SIns} (h : xs[j]? = some x) : rd_TIns xs (j : Int) = x := by unfold rd_TIns; simp [h]
theorem rd_LIns_at {xs : List (List SIns)} {j : Nat} {x : List SIns} (h : xs[j]? = some x) : rd_LIns xs (j : Int) = x := by unfold rd_LIns; simp [h]
section
variable {gp : Nat} {buf : List UInt8} {e0 : Int} {w0 w : World}
theorem ins_text_calls (h : PrAt w0.heap.size gp buf e0 w) (hB : Below w0.heap.size w0 w) (hL : LaidW w0) (x : SIns) (A5 : Option Addr) (c5 : Nat) (h5 : (Kd.int .i64).C w0 A5 x.f5.length x.f5) (code : Bool) (hok : InsOk code x) (hbl : buf.length ≤ 1000000000) :
 Calls Tryz.prog 35 #[.pointer (some ⟨gp, 0, none⟩), .agg #[.int .i64 x.f0, .int .i64 x.f1, .int .i64 x.f2, .int .i64 x.f3, .string x.f4, .slice A5 x.f5.length c5], .bool code] w fun e w' => e = .returned (.tuple #[]) ∧ PrAt w0.heap.size gp (insText code (buf, e0) x).1 (insText code (buf, e0) x).2 w' ∧ Below w0.heap.size w0 w' := by
 obtain ⟨⟨op, wd, fs, is, ho, hf, hp, hfs, hln⟩, ⟨nb, hnb⟩, h5l⟩ := hok
 refine (ins_calls h hB hL x A5 c5 h5 code op wd fs is ho nb hnb hf hp ⟨hfs, h5l⟩ hln hbl).mono ?_
 rintro e w' ⟨rfl, hq, hb, -⟩
 refine ⟨rfl, ?_, hb⟩
 unfold insText
 rw [ho, hnb]
 cases is with
 | true => simpa using hq
 | false => simpa using hq
set_option maxHeartbeats 8000000 in
set_option maxRecDepth 100000 in
theorem blocks_calls (h : PrAt w0.heap.size gp buf e0 w) (hB : Below w0.heap.size w0 w) (hL : LaidW w0) (h0 : buf ≠ []) (A : Option Addr) (c : Nat) (l : List (List SIns)) (hl : Kd.C (Kd.slice 44 kIns) w0 A l.length l) (code : Bool) (hok : ∀ xs ∈ l, ∀ x ∈ xs, InsOk code x) (hs : (blksText code (buf, e0) l).1.length ≤ 1000000000) :
 Calls Tryz.prog 19 #[.pointer (some ⟨gp, 0, none⟩), .slice A l.length c, .bool code] w fun e w' => e = .returned (.tuple #[.string (if (blksText code (buf, e0) l).2 = 0 then ⟨(blksText code (buf, e0) l).1.toArray⟩ else ⟨#[]⟩), .int .i64 (blksText code (buf, e0) l).2]) ∧ Below w0.heap.size w0 w' := by
 have HP := zA h
 have HB := zA hB
 have HLd := zA hL
 have HC := zA hl
 have HOk := zA hok
 have HS := zA hs
 clear h hB hL hl hok hs
 have hu43 := Tryz.underlying44
 go_enter Tryz.func19, Tryz.ntmps19
 go_wp2_with fail
 go_loopg [14] l.length (fun kq v14 w' => ∃ (i : Nat), v14 = .int .i64 (i : Int) ∧ Aside0 (kq + i = l.length) ∧ Aside0 (PrAt w0.heap.size gp (blksText code (buf, e0) (l.take i)).1 (blksText code (buf, e0) (l.take i)).2 w') ∧ Aside0 (Below w0.heap.size w0 w'))
 case atStart => exact ⟨0, by first | rfl | simp, ⟨by omega⟩, HP, HB⟩
 case round =>
 clear HP HB
 obtain ⟨i, rfl, HK, HP, HB⟩ := hrel
 cases gk with
 | zero =>
  have d1b := zG (show ¬ ((i : Int) < (l.length : Int)) by have := HK.out; omega)
  have d1c := zG (show ¬ (i < l.length) by have := HK.out; omega)
  have hil : i = l.length := by have := HK.out; omega
  rw [hil, List.take_length] at HP
  have hne : (blksText code (buf, e0) l).1 ≠ [] := fun e => by
   have h := fold_len (blkText_len code) l (buf, e0)
   have h2 : (l.foldl (blkText code) (buf, e0)).1 = [] := e
   rw [h2] at h
   exact h0 (List.length_eq_zero_iff.1 (Nat.le_zero.1 h))
  obtain ⟨s, hse⟩ : ∃ s, s = blksText code (buf, e0) l := ⟨_, rfl⟩
  rw [← hse] at HP hne
  have HSe := zA hse
  clear hse
  obtain ⟨ge, p, v, hk, -⟩ := HP.out
  have z3 := bk3 hk
  have HNe := zA hne
  clear hk ge hne
  by_cases he : s.2 = 0
  ·have hd := zF he
   have HE := zA he
   rw [he] at HP z3
   go_wp2_with (go_at_call 36; refine (string_calls HP.out HB.out HNe.out).mono ?_; rintro e w5 ⟨rfl, hb⟩; have HB5 := zA hb; clear hb)
   have hz : (blksText code (buf, e0) l).2 = 0 := by rw [← HSe.out]; exact HE.out
   all_goals first
    | exact absurd (show (blksText code (buf, e0) l).2 = 0 by rw [← HSe.out]; exact HE.out) ‹_›
    | (go_ret2; refine ⟨?_, HB5.out⟩; first | rfl | (rw [← HSe.out]; rfl))
  ·have hd := zG he
   have HE := zA he
   go_wp2_with fail
   all_goals first
    | exact absurd ‹(blksText code (buf, e0) l).2 = 0› (show ¬ (blksText code (buf, e0) l).2 = 0 by rw [← HSe.out]; exact HE.out)
    | skip
   have HBd := zA (below_step HB.out (below_drew (Below.refl _ _)))
   go_region_with fail
   (try simp only [Act.put, List.setIfInBounds_toArray, List.set_cons_zero, List.set_cons_succ])
   go_wp2_with fail
   all_goals first
    | exact absurd ‹(blksText code (buf, e0) l).2 = 0› (show ¬ (blksText code (buf, e0) l).2 = 0 by rw [← HSe.out]; exact HE.out)
    | (go_ret2; refine ⟨?_, HBd.out⟩; rw [← HSe.out]; rfl)
 | succ k1 =>
  have hi : i < l.length := by have := HK.out; omega
  have d1b := zF (show ((i : Int) < (l.length : Int)) by omega)
  have d1c := zF hi
  obtain ⟨xs, hxs⟩ : ∃ xs, l[i]? = some xs := ⟨_, List.getElem?_eq_getElem hi⟩
  obtain ⟨ad, A1, c1, ea, hx1, hl1, hi1⟩ := at_LIns HC.out (i : Int) (by omega) (by omega)
  cases ea
  rw [rd_LIns_at hxs] at hx1 hl1 hi1
  replace hx1 := (HB.out.cell (zE w0 _ hx1)).trans hx1
  rw [Int.toNat_natCast] at hx1
  have HC1 := zA hi1
  have hxm := Kd.C_max hi1
  have hlm := Kd.C_max HC.out
  have hsz : (blksText code (buf, e0) (l.take i)).1.length ≤ 1000000000 := Nat.le_trans (fold_take (blkText_len code) l _ i) HS.out
  have hss : (blkText code (blksText code (buf, e0) (l.take i)) xs).1.length ≤ 1000000000 := by
   have h := fold_take (blkText_len code) l (buf, e0) (i + 1)
   rw [fold_snoc _ _ _ _ _ hxs] at h
   exact Nat.le_trans h HS.out
  have hsn : blksText code (buf, e0) (l.take (i + 1)) = blkText code (blksText code (buf, e0) (l.take i)) xs := fold_snoc _ _ _ _ _ hxs
  have hox : ∀ x ∈ xs, InsOk code x := HOk.out xs (List.mem_of_getElem? hxs)
  have HSn := zA hsn
  have HSz := zA hsz
  have HSs := zA hss
  clear hi1 hl1 hsn hsz hss
  obtain ⟨s, hse⟩ : ∃ s, s = blksText code (buf, e0) (l.take i) := ⟨_, rfl⟩
  rw [← hse] at HP HSz HSs HSn
  clear hse
  go_wp2_with (go_at_call 16; refine (line_calls HP.out HB.out HLd.out (⟨#[98, 108, 111, 99, 107]⟩ : ByteArray) [] none 0 (.inl rfl) (by simp) (by simp) (by decide) HSz.out).mono ?_; rintro e w5 ⟨rfl, hp, hb, ht⟩; have HP5 := zA hp; have HB5 := zA hb; clear hp hb ht)
  go_loopg [22] xs.length (fun kq2 v22 w' => ∃ (j : Nat), v22 = .int .i64 (j : Int) ∧ Aside0 (kq2 + j = xs.length) ∧ Aside0 (PrAt w0.heap.size gp ((xs.take j).foldl (insText code) (s.1 ++ [98, 108, 111, 99, 107, 10], s.2)).1 ((xs.take j).foldl (insText code) (s.1 ++ [98, 108, 111, 99, 107, 10], s.2)).2 w') ∧ Aside0 (Below w0.heap.size w0 w'))
  case atStart => exact ⟨0, by first | rfl | simp, ⟨by omega⟩, HP5, HB5⟩
  case round =>
   clear HP HB HP5 HB5 hx1
   obtain ⟨j, rfl, HJ, HP, HB⟩ := hrel
   cases gk with
   | zero =>
    have d2b := zG (show ¬ ((j : Int) < (xs.length : Int)) by have := HJ.out; omega)
    have d2c := zG (show ¬ (j < xs.length) by have := HJ.out; omega)
    have hj : j = xs.length := by have := HJ.out; omega
    rw [hj, List.take_length] at HP
    go_wp2_with fail
    go_roundg k1
    case measure => have := HK.out; omega
    case rel => exact ⟨i + 1, by go_num, ⟨by have := HK.out; omega⟩, ⟨by rw [HSn.out]; exact HP.out⟩, HB⟩
   | succ k2 =>
    have hj : j < xs.length := by have := HJ.out; omega
    have d2b := zF (show ((j : Int) < (xs.length : Int)) by omega)
    have d2c := zF hj
    obtain ⟨x, hx⟩ : ∃ x, xs[j]? = some x := ⟨_, List.getElem?_eq_getElem hj⟩
    obtain ⟨ad2, A5, c5, ea, hx0, hx1, hx2, hx3, hx4, hx5, hl5, hi5⟩ := at_TIns HC1.out (j : Int) (by omega) (by omega)
    cases ea
    rw [rd_TIns_at hx] at hx0 hx1 hx2 hx3 hx4 hx5 hl5 hi5
    rw [Int.toNat_natCast] at hx0 hx1 hx2 hx3 hx4 hx5
    replace hx0 := (HB.out.cell (zE w0 _ hx0)).trans hx0
    replace hx1 := (HB.out.cell (zE w0 _ hx1)).trans hx1
    replace hx2 := (HB.out.cell (zE w0 _ hx2)).trans hx2
    replace hx3 := (HB.out.cell (zE w0 _ hx3)).trans hx3
    replace hx4 := (HB.out.cell (zE w0 _ hx4)).trans hx4
    replace hx5 := (HB.out.cell (zE w0 _ hx5)).trans hx5
    have H5 := zA hi5
    have HO := zA (hox x (List.mem_of_getElem? hx))
    have hsj : ((xs.take j).foldl (insText code) (s.1 ++ [98, 108, 111, 99, 107, 10], s.2)).1.length ≤ 1000000000 := Nat.le_trans (blkText_take code s xs j) HSs.out
    have HJl := zA hsj
    have hsn := fold_snoc (insText code) xs (s.1 ++ [98, 108, 111, 99, 107, 10], s.2) j x hx
    have HSj := zA hsn
    clear hi5 hl5 hsj hsn
    obtain ⟨y, hye⟩ : ∃ y, y = (xs.take j).foldl (insText code) (s.1 ++ [98, 108, 111, 99, 107, 10], s.2) := ⟨_, rfl⟩
    rw [← hye] at HP HJl HSj
    clear hye
    go_wp2_with (first
     | ((with_reducible refine gate_dst (N := 11) rfl ?_); refine box_event (by rfl) (N := 11) (by rfl) (cs := #[.int .i64 0, .int .i64 0, .int .i64 0, .int .i64 0, .string (⟨#[]⟩ : ByteArray), .slice none 0 0]) (t := 44) ?hr ?_; (case hr => go_simp <;> rfl); intro gx hg w6 hbox hb; have BX := zA hbox; have hgx : wr.heap.size ≤ gx := (by rw [hg]; exact Nat.le_refl _); have HW4 := zA (((((((hb.setCell (p := ⟨gx, 0, none⟩) hgx (.int .i64 x.f0)).setCell (p := ⟨gx, 1, none⟩) hgx (.int .i64 x.f1)).setCell (p := ⟨gx, 2, none⟩) hgx (.int .i64 x.f2)).setCell (p := ⟨gx, 3, none⟩) hgx (.int .i64 x.f3)).setCell (p := ⟨gx, 4, none⟩) hgx (.string x.f4)).setCell (p := ⟨gx, 5, none⟩) hgx (.slice A5 x.f5.length c5))); clear hb hbox hg hgx; have z6 := bk6 BX.out)
     | (go_at_call 35; refine (ins_text_calls (HP.out.below HW4.out) (below_step HB.out HW4.out) HLd.out x A5 c5 H5.out code HO.out HJl.out).mono ?_; rintro e w7 ⟨rfl, hp, hb⟩; have HP7 := zA hp; have HB7 := zA hb; clear hp hb))
    go_roundg k2
    case measure => have := HJ.out; omega
    case rel => exact ⟨j + 1, by go_num, ⟨by have := HJ.out; omega⟩, ⟨by rw [HSj.out]; exact HP7.out⟩, HB7⟩
end
def text_Print.T2 : Bool × List (List Nat × List Nat) := (true, [([], []), ([], []), ([], []), ([2], [2]), ([1, 3], [1, 3]), ([], []), ([], []), ([6], [6]), ([5, 7, 4], [5, 7]), ([], []), ([], []), ([10], [10]), ([9, 11, 8], [9, 11]), ([4, 8, 12], [4, 8, 12]), ([0, 13, 12], [0, 13])])
def text_Print.B2 : List Nat := [0, 0, 0, 4, 14, 0, 0, 64, 254, 0, 0, 1024, 4094, 8190, 16383]
theorem text_Print.tab2 : rtab .any (opsOf Tryz.f7 2) = text_Print.T2 := by kernel_rfl
theorem text_Print.bits2 : waitsOk text_Print.T2.2 text_Print.B2 = true := by kernel_rfl
def printHead (a0 : ByteArray) (a1 a2 : Int) : List UInt8 × Int := (lineBytes (⟨#[102, 117, 110, 99]⟩ : ByteArray) [.nm a0, .num a1, .num a2], errsOf (if (ir_Name.f a0).getD false then 0 else keepE 0 80) [.nm a0, .num a1, .num a2])
def printS (a0 : ByteArray) (a1 a2 : Int) (l : List (List SIns)) : List UInt8 × Int := blksText false (printHead a0 a1 a2) l
def partOkB : Part → Bool
 | .num n => decide (-9223372036854775808 ≤ n ∧ n ≤ 9223372036854775807)
 | .nm _ => true
theorem partOkB_ok {p : Part} (h : partOkB p = true) : PartOk p := by
 cases p with
 | num n => exact (show -9223372036854775808 ≤ n ∧ n ≤ 9223372036854775807 from zB h)
 | nm s => trivial
def insOkB (code : Bool) (x : SIns) : Bool := match text_of.f x.f0 code with
 | some (_, wd, fs, _) => (fs.data.toList.all fun b => decide (b = 68 ∨ b = 65 ∨ b = 66 ∨ b = 78 ∨ b = 76)) && (partsOf x fs.data.toList).all partOkB && decide (fs.size ≤ 10) && decide ((lineBytes wd (partsOf x fs.data.toList)).length ≤ 1000000000) && (ir_Name.f x.f4).isSome && decide (x.f5.length ≤ 9000)
 | none => false
theorem insOkB_ok {code : Bool} {x : SIns} (h : insOkB code x = true) : InsOk code x := by
 unfold insOkB at h
 split at h
 ·next op wd fs is ho =>
  simp only [Bool.and_eq_true, decide_eq_true_eq] at h
  obtain ⟨⟨⟨⟨⟨h1, h2⟩, h3⟩, h4⟩, h5⟩, h6⟩ := h
  exact ⟨⟨op, wd, fs, is, ho, fun b hb => zB (List.all_eq_true.1 h1 b hb), fun p hp => partOkB_ok (List.all_eq_true.1 h2 p hp), h3, h4⟩, Option.isSome_iff_exists.1 h5, h6⟩
 ·cases h
def printOkB (a0 : ByteArray) (a1 a2 : Int) (l : List (List SIns)) : Bool := (ir_Name.f a0).isSome && partOkB (.num a1) && partOkB (.num a2) && (l.all fun xs => xs.all (insOkB false)) && decide ((printS a0 a1 a2 l).1.length ≤ 1000000000)
def text_Print.f (a0 : ByteArray) (a1 a2 : Int) (l : List (List SIns)) : Option (ByteArray × Int) := if printOkB a0 a1 a2 l = true then some (if (printS a0 a1 a2 l).2 = 0 then ⟨(printS a0 a1 a2 l).1.toArray⟩ else ⟨#[]⟩, (printS a0 a1 a2 l).2) else none
set_option maxHeartbeats 8000000 in
set_option maxRecDepth 100000 in
theorem text_Print.calls (a0 : ByteArray) (a1 a2 : Int) (A : Option Addr) (c : Nat) (l : List (List SIns)) (r1 : ByteArray) (r2 : Int) (w : World) (hr : Kd.C (Kd.slice 44 kIns) w A l.length l) (hc : l.length ≤ c) (h : text_Print.f a0 a1 a2 l = some (r1, r2)) (hL : LaidW w) :
 Calls Tryz.prog 7 #[.agg #[.string a0, .int .i64 a1, .int .i64 a2, .slice A l.length c]] w fun e w' => e = .returned (.tuple #[.string r1, .int .i64 r2]) ∧ Below w.heap.size w w' := by
 unfold text_Print.f at h
 split at h
 case isFalse => cases h
 case isTrue hok =>
 injection h with h
 simp only [printOkB, Bool.and_eq_true, decide_eq_true_eq] at hok
 obtain ⟨⟨⟨⟨hnb, hn1⟩, hn2⟩, hoi⟩, hlen⟩ := hok
 obtain ⟨nb, hnb⟩ := Option.isSome_iff_exists.1 hnb
 replace hn1 := partOkB_ok hn1
 replace hn2 := partOkB_ok hn2
 replace hoi : ∀ xs ∈ l, ∀ x ∈ xs, InsOk false x := fun xs hx x hy => insOkB_ok (List.all_eq_true.1 (List.all_eq_true.1 hoi xs hx) x hy)
 have HR1 := zA (congrArg Prod.fst h)
 have HR2 := zA (congrArg Prod.snd h)
 have HNb := zA hnb
 have HN1 := zA hn1
 have HN2 := zA hn2
 have HOi := zA hoi
 have HLen := zA hlen
 have HC := zA hr
 have HLd := zA hL
 have HB := zA (Below.refl w.heap.size w)
 clear h hnb hn1 hn2 hoi hlen hr hL
 have hu24 := Tryz.underlying24
 have hu50 := Tryz.underlying51
 go_enter Tryz.func7, Tryz.ntmps7
 go_wp2_with (first
  | ((with_reducible refine gate_dst (N := 1) rfl ?_); refine box_event (by rfl) (N := 1) (by rfl) (cs := #[.string a0, .int .i64 a1, .int .i64 a2, .slice A l.length c]) (t := 24) ?hr ?_; (case hr => go_simp <;> rfl); intro gx hg w1 hbox hb; have BX := zA hbox; replace HB := zA (below_step HB.out hb); clear hb hbox hg)
  | ((with_reducible refine gate_dst (N := 6) rfl ?_); refine box_event (by rfl) (N := 6) (by rfl) (cs := #[.pointer none, .slice none 0 0, .int .i64 0]) (t := 51) ?hr ?_; (case hr => go_simp <;> rfl); intro gp hg w2 hbox hb; have HP := zA (show PrAt w.heap.size gp [] 0 w2 from ⟨by rw [hg]; exact HB.out.size, none, .slice none 0 0, hbox, .inl rfl, own_nil _ _ _ _⟩); replace HB := zA (below_step HB.out hb); replace BX := zA (blk_below BX.out hb); have HGx := zA (show gx ≠ gp by intro e; rw [e] at BX; have := BX.out.symm.trans hbox; simp at this); clear hb hbox hg))
 have HPd := zA (HP.out.below (below_drew (Below.refl _ _)))
 have HBd := zA (below_step HB.out (below_drew (Below.refl _ _)))
 have BXd := zA (blk_drew BX.out)
 have z4 := bk4 BXd.out
 clear HP HB BX
 refine start_ (n := 15) (S := fun w' => w'.cell? ⟨gx, 0, none⟩ = some (.string a0) ∧ w'.cell? ⟨gx, 1, none⟩ = some (.int .i64 a1) ∧ w'.cell? ⟨gx, 2, none⟩ = some (.int .i64 a2)) (ds := []) (bA 15 0) (by kernel_rfl) rfl rfl ⟨(blk_cell BXd.out 0).trans rfl, (blk_cell BXd.out 1).trans rfl, (blk_cell BXd.out 2).trans rfl⟩ (fun hHeld => ?_); refine with_tabW text_Print.tab2 text_Print.bits2 (fun HT_ HW_ => ?_)
 generalize w2.drew = w3 at HPd HBd BXd hHeld ⊢
 clear z4
 refine pu_ (i := 0) (N := some 7) (bA 15 1) ?_
 refine pu_ (i := 1) (N := some 8) (bA 15 3) ?_
 refine pu_ (i := 2) (N := some 9) (bA 15 7) ?_
 refine pu_ (i := 5) (N := some 12) (bA 15 39) ?_
 refine pu_ (i := 6) (N := some 13) (bA 15 103) ?_
 refine pu_ (i := 9) (N := some 16) (bA 15 615) ?_
 refine pu_ (i := 10) (N := some 17) (bA 15 1639) ?_
 refine tk_ (i := 3) (N := some 10) (bA 15 1647) ?_
 refine tk_ (i := 7) (N := some 14) (bA 15 1775) ?_
 refine tk_ (i := 11) (N := some 18) (bA 15 3823) ?_
 refine one_ (i := 4) (N := some 11) (bA 15 3839) rfl rfl (one_of HT_.out (by kernel_rfl)) (by decide) (fun K hK => ?_)
 refine goes_ Tryz.func17 (by kernel_rfl) rfl #[.pointer (some ⟨gp, 0, none⟩), .string a0] (by rfl) rfl rfl qL ?_
 refine (name_calls HPd.out HBd.out a0 nb HNb.out).mono ?_
 rintro e w5 ⟨v1, rfl, hpa, hp, hb, ht⟩
 refine ⟨_, rfl, ?_⟩
 have HA1 := zA hpa
 have HP5 := zA hp
 have HB5 := zA hb
 have BX5 := zA (box_kept ht BXd.out (by decide) HGx.out)
 clear hpa hp hb ht HPd HBd BXd hHeld
 refine hK.out _ _ ⟨(blk_cell BX5.out 0).trans rfl, (blk_cell BX5.out 1).trans rfl, (blk_cell BX5.out 2).trans rfl⟩ (fun hHeld => ?_)
 clear hK K
 refine norm_ (a' := ?_) ?_ ?_
 rotate_left
 ·show Act.put _ (some 11) _ = _
  simp only [Act.put, List.setIfInBounds_toArray, List.set_cons_zero, List.set_cons_succ, i64_w, i32_w]
  rfl
 refine one_ (i := 8) (N := some 15) (bA 15 4095) rfl rfl (one_of HT_.out (by kernel_rfl)) (by decide) (fun K hK => ?_)
 refine goes_ Tryz.func18 (by kernel_rfl) rfl #[.pointer (some ⟨gp, 0, none⟩), .int .i64 a1] (by rfl) rfl rfl qL ?_
 refine (number_calls a1).mono ?_
 rintro e w6 ⟨v2, rfl, hpa, hb⟩
 refine ⟨_, rfl, ?_⟩
 have HA2 := zA hpa
 have HA16 := zA (HA1.out.below hb)
 have HP6 := zA (HP5.out.below hb)
 have HB6 := zA (below_step HB5.out hb)
 have BX6 := zA (blk_below BX5.out hb)
 clear hpa hb HP5 HB5 BX5 HA1 hHeld
 refine hK.out _ _ ⟨(blk_cell BX6.out 0).trans rfl, (blk_cell BX6.out 1).trans rfl, (blk_cell BX6.out 2).trans rfl⟩ (fun hHeld => ?_)
 clear hK K
 refine norm_ (a' := ?_) ?_ ?_
 rotate_left
 ·show Act.put _ (some 15) _ = _
  simp only [Act.put, List.setIfInBounds_toArray, List.set_cons_zero, List.set_cons_succ, i64_w, i32_w]
  rfl
 refine one_ (i := 12) (N := some 19) (bA 15 8191) rfl rfl (one_of HT_.out (by kernel_rfl)) (by decide) (fun K hK => ?_)
 refine goes_ Tryz.func18 (by kernel_rfl) rfl #[.pointer (some ⟨gp, 0, none⟩), .int .i64 a2] (by rfl) rfl rfl qL ?_
 refine (number_calls a2).mono ?_
 rintro e w7 ⟨v3, rfl, hpa, hb⟩
 refine ⟨_, rfl, ?_⟩
 have HA3 := zA hpa
 have HA17 := zA (HA16.out.below hb)
 have HA27 := zA (HA2.out.below hb)
 have HP7 := zA (HP6.out.below hb)
 have HB7 := zA (below_step HB6.out hb)
 have BX7 := zA (blk_below BX6.out hb)
 clear hpa hb HP6 HB6 BX6 HA16 HA2 hHeld
 refine hK.out _ _ ⟨(blk_cell BX7.out 0).trans rfl, (blk_cell BX7.out 1).trans rfl, (blk_cell BX7.out 2).trans rfl⟩ (fun hHeld => ?_)
 clear hK K
 refine norm_ (a' := ?_) ?_ ?_
 rotate_left
 ·show Act.put _ (some 19) _ = _
  simp only [Act.put, List.setIfInBounds_toArray, List.set_cons_zero, List.set_cons_succ, i64_w, i32_w]
  rfl
 obtain ⟨b1, rfl, -⟩ := HA17.out
 obtain ⟨b2, b3, rfl, -⟩ := HA27.out
 obtain ⟨b4, b5, rfl, -⟩ := HA3.out
 refine one_ (i := 13) (N := some 20) (bA 15 16383) rfl rfl (one_of HT_.out (by kernel_rfl)) (by decide) (fun K hK => ?_)
 refine Kd.R_lit_step kClo (w0 := w7) w7.heap.size 53 rfl (N := 20) rfl (xs := [Clo.nm b1, Clo.num b2 b3, Clo.num b4 b5]) (inner := [encClo (Clo.nm b1), encClo (Clo.num b2 b3), encClo (Clo.num b4 b5)]) (ok := fun _ => True) (okp := fun _ => True) ?hr ?hp (fun _ hk => hk) trivial (Below.refl _ _) (Nat.le_refl _) (by simp) ?_
 case hr => first | (go_simp; done) | (go_simp; rfl)
 case hp => exact ⟨rfl, fun j p hj => by
  rcases j with _ | _ | _ | j
  ·cases hj; rfl
  ·cases hj; rfl
  ·cases hj; rfl
  ·simp at hj⟩
 intro v20 w8 ho hb hg hnew
 have HR8 := zA ho
 have HP8 := zA (HP7.out.below hb)
 have HB8 := zA (below_step HB7.out hb)
 have BX8 := zA (blk_below BX7.out hb)
 have HCl := zA (show ClosAt gp w8 [Clo.nm b1, Clo.num b2 b3, Clo.num b4 b5] [.nm a0, .num a1, .num a2] from ⟨rfl, fun j c p h1 h2 => by
  rcases j with _ | _ | _ | j
  ·injection h1 with e1; injection h2 with e2; rw [← e1, ← e2]; exact HA17.out.below hb
  ·injection h1 with e1; injection h2 with e2; rw [← e1, ← e2]; exact HA27.out.below hb
  ·injection h1 with e1; injection h2 with e2; rw [← e1, ← e2]; exact HA3.out.below hb
  ·simp at h1⟩)
 obtain ⟨g, cg, eg, -, -, -⟩ := Kd.R_form ho (by simp)
 subst eg
 clear ho hb hg hnew HP7 HB7 BX7 HA17 HA27 HA3 hHeld
 refine hK.out _ _ ⟨(blk_cell BX8.out 0).trans rfl, (blk_cell BX8.out 1).trans rfl, (blk_cell BX8.out 2).trans rfl⟩ (fun hHeld => ?_)
 clear hK K
 refine norm_ (a' := ?_) ?_ ?_
 rotate_left
 ·show Act.put _ (some 20) _ = _
  simp only [Act.put, List.setIfInBounds_toArray, List.set_cons_zero, List.set_cons_succ, i64_w, i32_w]
  rfl
 refine one_ (i := 14) (N := some 21) (bA 15 32767) rfl rfl (one_of HT_.out (by kernel_rfl)) (by decide) (fun K hK => ?_)
 refine goes_ Tryz.func16 (by kernel_rfl) rfl #[.pointer (some ⟨gp, 0, none⟩), .string (⟨#[102, 117, 110, 99]⟩ : ByteArray), .slice (some ⟨g, 0, none⟩) [Clo.nm b1, Clo.num b2 b3, Clo.num b4 b5].length cg] (by rfl) rfl rfl qL ?_
 refine (line_calls HP8.out HB8.out HLd.out (⟨#[102, 117, 110, 99]⟩ : ByteArray) [.nm a0, .num a1, .num a2] (some ⟨g, 0, none⟩) cg (parts_of HR8.out HCl.out) ?ok (by simp) ?len (by simp)).mono ?_
 case ok => intro p hp; simp only [List.mem_cons, List.not_mem_nil, or_false] at hp; rcases hp with rfl | rfl | rfl <;> first | exact trivial | exact HN1.out | exact HN2.out
 case len => exact Nat.le_trans (fold_len (blkText_len false) l (printHead a0 a1 a2)) HLen.out
 rintro e w9 ⟨rfl, hp, hb, ht⟩
 refine ⟨_, rfl, ?_⟩
 have HP9 := zA (show PrAt w.heap.size gp (printHead a0 a1 a2).1 (printHead a0 a1 a2).2 w9 from by (unfold printHead; rw [HNb.out]; exact hp))
 have HB9 := zA hb
 have BX9 := zA (box_kept ht BX8.out (by decide) HGx.out)
 clear hp hb ht HP8 HB8 BX8 HR8 HCl hHeld
 refine hK.out _ _ ⟨(blk_cell BX9.out 0).trans rfl, (blk_cell BX9.out 1).trans rfl, (blk_cell BX9.out 2).trans rfl⟩ (fun hHeld => ?_)
 clear hK K
 refine norm_ (a' := ?_) ?_ ?_
 rotate_left
 ·show Act.put _ (some 21) _ = _
  simp only [Act.put, List.setIfInBounds_toArray, List.set_cons_zero, List.set_cons_succ, i64_w, i32_w]
  rfl
 refine done_ (done_of HT_.out (by kernel_rfl)) ?_
 clear HT_ HW_ hHeld
 have z9 := bk4 BX9.out
 have hne : (printHead a0 a1 a2).1 ≠ [] := by unfold printHead lineBytes; simp
 go_simp
 go_wp2_with (go_at_call 19; refine (blocks_calls HP9.out HB9.out HLd.out hne A c l HC.out false HOi.out HLen.out).mono ?_; rintro e w10 ⟨rfl, hb⟩; have HB10 := zA hb; clear hb)
 all_goals
  have hr1 := HR1.out
  have hr2 := HR2.out
  unfold printS at hr1 hr2
  go_ret2
  refine ⟨?_, HB10.out⟩
  rw [← hr1, ← hr2]
  first
   | (have h' : (blksText false (printHead a0 a1 a2) l).2 = 0 := ‹_›
      rw [zC h', h']
      rfl)
   | (have h' : ¬ (blksText false (printHead a0 a1 a2) l).2 = 0 := ‹_›
      rw [zD h']
      rfl)
end Go.Proofs.YtniknpjeknmpjaaGreatDoor.Q
