/- For every input the law IrSpoilt returns true, and its arguments read behind the call as they did: no condition. -/
import Derived.Test.YthidcafbhjahdaaDoorRows
import Derived.WalkKit
import Derived.ProofKit
import Derived.OpenShut
import Derived.ShutString
import Derived.ChangeOld
import Derived.Below
import Derived.SizedLaws
import Derived.Test.YthidcafbhjahdaaDoorCards
import Derived.Test.YthidcafbhjahdaaDoorTie
import Derived.LaidMore
import Derived.Lay
import Derived.SevenTiedAt
import Derived.Stop.Joined
import Derived.Lib.LaidU8
import Derived.Test.YthidcafbhjahdaaDoorMIrSpoilt1
import Derived.Test.YthidcafbhjahdaaDoorMIrSpoilt2
namespace Go.Proofs.YthidcafbhjahdaaDoor.Q
open Go.RowKit Go.Proofs.YthidcafbhjahdaaDoorW.PrintWords Go.Proofs.YthidcafbhjahdaaDoorW.PrintLast Go.Proofs.YthidcafbhjahdaaDoorW.PrintMore
attribute [local go_sem] max2_int min2_int max_two min_two max_three min_three max_four min_four
set_option linter.unusedVariables false
set_option linter.unusedSimpArgs false

mutual
def cubbyref07_Check.l0 : Nat → Int → ByteArray → Int → Int → List (List (SIns)) → Option (Int)
 | 0, _, _, _, _, _ => none
 | k + 1, x3, x198000, x198001, x198002, x198003 => if x3 < (x198003.length : Int) then (cubbyref07_Check.l1 k x3 0 x198000 x198001 x198002 x198003) else (some 0)
def cubbyref07_Check.l1 : Nat → Int → Int → ByteArray → Int → Int → List (List (SIns)) → Option (Int)
 | 0, _, _, _, _, _, _ => none
 | k + 1, x3, x4, x198000, x198001, x198002, x198003 => if 0 ≤ x3 then (if x3 < (x198003.length : Int) then (if x4 < ((rd_LIns x198003 x3).length : Int) then (if 0 ≤ x4 then ((cubbyref07_One.f k ((rd_TIns (rd_LIns x198003 x3) x4).f0) ((rd_TIns (rd_LIns x198003 x3) x4).f1) ((rd_TIns (rd_LIns x198003 x3) x4).f2) ((rd_TIns (rd_LIns x198003 x3) x4).f3) ((rd_TIns (rd_LIns x198003 x3) x4).f4) ((rd_TIns (rd_LIns x198003 x3) x4).f5) x198002 (x198003.length : Int) (x4 == (wrap64 (((rd_LIns x198003 x3).length : Int) - 1)))).bind fun t204 => (if t204 = 0 then (cubbyref07_Check.l1 k x3 (wrap64 (x4 + 1)) x198000 x198001 x198002 x198003) else (some t204))) else (none)) else (cubbyref07_Check.l0 k (wrap64 (x3 + 1)) x198000 x198001 x198002 x198003)) else (none)) else (none)
end
def cubbyref07_Check.f (k : Nat) (a0_0 : ByteArray) (a0_1 : Int) (a0_2 : Int) (l0_3 : List (List (SIns))) : Option (Int) := (cubbyref07_Name.f k a0_0).bind fun t198 => (if t198 = true then ((cubbyref07_Shape.f k a0_1 a0_2 l0_3).bind fun t199 => (if t199 = true then (cubbyref07_Check.l0 k 0 a0_0 a0_1 a0_2 l0_3) else (some 71))) else (some 70))
def cubbyref07_Check.T11 : Bool × List (List Nat × List Nat) := (true, [([], []), ([0], [0]), ([], []), ([1, 2], [1, 2]), ([3], [3]), ([], []), ([4, 5], [4, 5]), ([6], [6]), ([], []), ([8], [8]), ([], []), ([10], [10]), ([11], [11]), ([], []), ([], []), ([14], [14]), ([], []), ([15, 16], [15, 16]), ([17], [17]), ([18], [18]), ([19], [19]), ([13, 20], [13, 20]), ([7, 9, 12, 21], [7, 9, 12, 21]), ([22, 22, 0, 1, 2, 3, 4, 5, 6, 7, 8, 9, 10, 11, 12, 13, 14, 15, 16, 17, 18, 19, 20, 21, 22], [22])])
def cubbyref07_Check.B11 : List Nat := [0, 1, 0, 7, 15, 0, 63, 127, 0, 256, 0, 1024, 3072, 0, 0, 16384, 0, 114688, 245760, 507904, 1032192, 2088960, 4194303, 8388607]
theorem cubbyref07_Check.tab11 : rtab .any (opsOf Tryd.f7 11) = cubbyref07_Check.T11 := by kernel_rfl
theorem cubbyref07_Check.bits11 : waitsOk cubbyref07_Check.T11.2 cubbyref07_Check.B11 = true := by kernel_rfl
set_option maxHeartbeats 8000000 in
set_option maxRecDepth 100000 in
theorem cubbyref07_Check.calls (k : Nat) (a0_0 : ByteArray) (a0_1 : Int) (a0_2 : Int) (A0_3 : Option Addr) (c0_3 : Nat) (l0_3 : List (List (SIns))) (r : Int) (w : World) (hr0_3 : Kd.C (Kd.slice 31 kIns) w A0_3 l0_3.length l0_3) (hc0_3 : l0_3.length ≤ c0_3) (h : cubbyref07_Check.f k a0_0 a0_1 a0_2 l0_3 = some r) :
 Calls Tryd.prog 7 #[.agg #[.string a0_0, .int .i64 a0_1, .int .i64 a0_2, .slice A0_3 l0_3.length c0_3]] w fun e w' => e = .returned (.int .i64 r) ∧ Below w.heap.size w w' := by
 have hu24 := Tryd.underlying24
 have hu31 := Tryd.underlying31
 have HR0_3 := zA hr0_3
 have HC0_3 := zA hc0_3
 clear hr0_3 hc0_3
 have HB := zA (Below.refl w.heap.size w)
 have H := h; clear h; unfold cubbyref07_Check.f at H
 replace H := qb H; obtain ⟨t198, A2, H⟩ := H
 by_cases c3 : t198 = true
 ·subst c3
  have H1 : ((cubbyref07_Shape.f k a0_1 a0_2 l0_3).bind fun t199 => (if t199 = true then (cubbyref07_Check.l0 k 0 a0_0 a0_1 a0_2 l0_3) else (some 71))) = some r := by rw [zC rfl] at H; exact H
  clear H
  have H := H1
  clear H1
  replace H := qb H; obtain ⟨t199, A4, H⟩ := H
  by_cases c5 : t199 = true
  ·subst c5
   have H1 : (cubbyref07_Check.l0 k 0 a0_0 a0_1 a0_2 l0_3) = some r := by rw [zC rfl] at H; exact H
   clear H
   have H := H1
   clear H1
   have H' := zA H
   clear H
   go_enter Tryd.func7, Tryd.ntmps7
   go_wp2_with (first | ((with_reducible refine gate_dst (N := 1) rfl ?_); refine box_event (by rfl) (N := 1) (by rfl) (cs := #[.string a0_0, .int .i64 a0_1, .int .i64 a0_2, .slice A0_3 l0_3.length c0_3]) (t := 24) ?hr ?_; (case hr => go_simp <;> rfl); intro gb197 hg w6 hbox hb; have BK197 := zA (hbox); have GW197 := qG hg; have GE197 := GW197; replace HB := qH hb; clear hb hbox hg; have z7_0 := bk4 BK197.out) | ((with_reducible refine gate_callee (f := 13) rfl ?_); refine goesL_ (some 8) rfl rfl Tryd.func13 (by kernel_rfl) rfl #[.string a0_0] rfl qL ?_; (with_reducible refine (cubbyref07_Name.calls k a0_0 true _ A2.out).mono ?_); rintro e w' ⟨rfl, ⟨nd, rfl⟩⟩; refine ⟨_, rfl, ?_⟩) | ((with_reducible refine gate_callee (f := 14) rfl ?_); refine goesL_ (some 16) rfl rfl Tryd.func14 (by kernel_rfl) rfl #[.int .i64 a0_1, .int .i64 a0_2, .slice A0_3 l0_3.length c0_3] rfl qL ?_; (with_reducible refine (cubbyref07_Shape.calls k a0_1 a0_2 _ _ l0_3 true _ ?side1 ?side2 A4.out).mono ?_); (case side1 => repeat (first | exact (Kd.C_below HR0_3.out qB) | (with_reducible refine Kd.C_alloc ?_ _) | (with_reducible refine Kd.C_drewN ?_ _) | (with_reducible refine Kd.C_drew ?_))); (case side2 => exact HC0_3.out); rintro e w' ⟨rfl, ⟨nd, rfl⟩⟩; refine ⟨_, rfl, ?_⟩))
   go_loopg [3] k (fun kq v3 w' => ∃ (x3_1 : Int), v3 = .int .i64 x3_1 ∧ Aside0 (cubbyref07_Check.l0 kq x3_1 a0_0 a0_1 a0_2 l0_3 = some r) ∧ Aside0 (kq ≤ k) ∧ Aside0 (w'.heap[gb197]? = some (.cells #[.string a0_0, .int .i64 a0_1, .int .i64 a0_2, (.slice A0_3 l0_3.length c0_3)] 24 (0, 0))) ∧ Aside0 (Below w.heap.size w w'))
   case atStart => exact ⟨(0), qT, H', ⟨Nat.le_refl _⟩, ⟨qK BK197.out⟩, ⟨qB⟩⟩
   case round =>
    clear H'
    obtain ⟨x3_1, rfl, HA, HK1, BK197, HB⟩ := hrel
    cases gk with
    | zero => exact absurd HA.out (by simp [cubbyref07_Check.l0])
    | succ k1 =>
     have H := HA.out
     clear HA
     simp only [cubbyref07_Check.l0] at H
     by_cases c8 : x3_1 < (l0_3.length : Int)
     ·rw [zC c8] at H
      have c8b0 := zF c8
      clear c8
      have H' := zA H
      clear H
      have z9_0 := bk4 BK197.out
      go_wp2
      go_loopg [4] k1 (fun kq v4 w' => ∃ (x4_2 : Int), v4 = .int .i64 x4_2 ∧ Aside0 (cubbyref07_Check.l1 kq x3_1 x4_2 a0_0 a0_1 a0_2 l0_3 = some r) ∧ Aside0 (kq ≤ k1) ∧ Aside0 (w'.heap[gb197]? = some (.cells #[.string a0_0, .int .i64 a0_1, .int .i64 a0_2, (.slice A0_3 l0_3.length c0_3)] 24 (0, 0))) ∧ Aside0 (Below w.heap.size w w'))
      case atStart => exact ⟨(0), qT, H', ⟨Nat.le_refl _⟩, ⟨qK BK197.out⟩, ⟨qB⟩⟩
      case round =>
       clear H'
       obtain ⟨x4_2, rfl, HA, HK2, BK197, HB⟩ := hrel
       cases gk with
       | zero => exact absurd HA.out (by simp [cubbyref07_Check.l1])
       | succ k2 =>
        have H := HA.out
        clear HA
        simp only [cubbyref07_Check.l1] at H
        by_cases c10 : 0 ≤ x3_1
        ·rw [zC c10] at H
         have c10b0 := zF c10
         clear c10
         by_cases c11 : x3_1 < (l0_3.length : Int)
         ·rw [zC c11] at H
          have c11b0 := zF c11
          clear c11
          by_cases c12 : x4_2 < ((rd_LIns l0_3 x3_1).length : Int)
          ·rw [zC c12] at H
           have c12b0 := zF c12
           clear c12
           by_cases c13 : 0 ≤ x4_2
           ·rw [zC c13] at H
            have c13b0 := zF c13
            clear c13
            replace H := qb H; obtain ⟨t204, A14, H⟩ := H
            by_cases c15 : t204 = 0
            ·rw [zC c15] at H
             obtain ⟨c15b0, c15b1⟩ := qe c15; clear c15
             have H' := zA H
             clear H
             have z16_0 := bk4 BK197.out
             have p200 : 0 ≤ (x3_1 : Int) := zB qA
             have q200 : x3_1 < (l0_3.length : Int) := zB qA
             obtain ⟨ad200, A200_0, c200_0, e200, hx200_0, hl200_0, hi200_0⟩ := at_LIns HR0_3.out x3_1 p200 q200
             cases e200
             replace hx200_0 := (HB.out.cell (zE w _ hx200_0)).trans hx200_0
             have HR200_0 := zA hi200_0
             have HC200_0 := zA hl200_0
             clear hi200_0 hl200_0
             replace p200 := eq_true p200
             replace q200 := eq_true q200
             try go_wp2
             have n0_ := zA (blk_drew BK197.out)
             have n1_ := zA (below_drew1 HB.out)
             clear BK197
             clear HB
             have BK197 := n0_
             have HB := n1_
             clear n0_ n1_
             have p201 : 0 ≤ (x3_1 : Int) := zB qA
             have q201 : x3_1 < (l0_3.length : Int) := zB qA
             obtain ⟨ad201, A201_0, c201_0, e201, hx201_0, hl201_0, hi201_0⟩ := at_LIns HR0_3.out x3_1 p201 q201
             have hw201_0 := hx201_0
             obtain rfl : ad200 = ad201 := (by injection e201)
             replace hx201_0 := (HB.out.cell (zE w _ hx201_0)).trans hx201_0
             have HR201_0 := zA hi201_0
             have HC201_0 := zA hl201_0
             clear hi201_0 hl201_0
             replace p201 := eq_true p201
             replace q201 := eq_true q201
             have p202 : 0 ≤ (x4_2 : Int) := zB qA
             have q202 : x4_2 < ((rd_LIns l0_3 x3_1).length : Int) := zB qA
             obtain ⟨ad202, A202_5, c202_5, e202, hx202_0, hx202_1, hx202_2, hx202_3, hx202_4, hx202_5, hl202_5, hi202_5⟩ := at_TIns HR201_0.out x4_2 p202 q202
             have hw202_5 := hx202_5
             have hw202_4 := hx202_4
             have hw202_3 := hx202_3
             have hw202_2 := hx202_2
             have hw202_1 := hx202_1
             have hw202_0 := hx202_0
             cases e202
             replace hx202_0 := (HB.out.cell (zE w _ hx202_0)).trans hx202_0
             replace hx202_1 := (HB.out.cell (zE w _ hx202_1)).trans hx202_1
             replace hx202_2 := (HB.out.cell (zE w _ hx202_2)).trans hx202_2
             replace hx202_3 := (HB.out.cell (zE w _ hx202_3)).trans hx202_3
             replace hx202_4 := (HB.out.cell (zE w _ hx202_4)).trans hx202_4
             replace hx202_5 := (HB.out.cell (zE w _ hx202_5)).trans hx202_5
             have HR202_5 := zA hi202_5
             have HC202_5 := zA hl202_5
             clear hi202_5 hl202_5
             replace p202 := eq_true p202
             replace q202 := eq_true q202
             have p203 : 0 ≤ (x3_1 : Int) := zB qA
             have q203 : x3_1 < (l0_3.length : Int) := zB qA
             obtain ⟨ad203, A203_0, c203_0, e203, hx203_0, hl203_0, hi203_0⟩ := at_LIns HR0_3.out x3_1 p203 q203
             have hw203_0 := hx203_0
             obtain rfl : ad200 = ad203 := (by injection e203)
             replace hx203_0 := (HB.out.cell (zE w _ hx203_0)).trans hx203_0
             have HR203_0 := zA hi203_0
             have HC203_0 := zA hl203_0
             clear hi203_0 hl203_0
             replace p203 := eq_true p203
             replace q203 := eq_true q203
             have ea_ := zI (hx201_0.symm.trans hx203_0)
             injection ea_ with ea_ en_ ec_
             subst ea_
             subst ec_
             clear en_
             refine start_ (n := 24) (S := fun w' => w'.cell? ⟨gb197, 0, none⟩ = some (.string a0_0) ∧ w'.cell? ⟨gb197, 1, none⟩ = some (.int .i64 a0_1) ∧ w'.cell? ⟨gb197, 2, none⟩ = some (.int .i64 a0_2) ∧ w'.cell? ⟨gb197, 3, none⟩ = some (.slice (some ad200) l0_3.length c0_3) ∧ w'.cell? (ad200.add (x3_1).toNat) = some (.slice (some ad202) (rd_LIns l0_3 x3_1).length c201_0) ∧ w'.cell? (ad202.add ((x4_2).toNat * 6)) = some (.int .i64 ((rd_TIns (rd_LIns l0_3 x3_1) x4_2).f0)) ∧ w'.cell? ⟨(ad202.add ((x4_2).toNat * 6)).block, (ad202.add ((x4_2).toNat * 6)).off + 1, none⟩ = some (.int .i64 ((rd_TIns (rd_LIns l0_3 x3_1) x4_2).f1)) ∧ w'.cell? ⟨(ad202.add ((x4_2).toNat * 6)).block, (ad202.add ((x4_2).toNat * 6)).off + 2, none⟩ = some (.int .i64 ((rd_TIns (rd_LIns l0_3 x3_1) x4_2).f2)) ∧ w'.cell? ⟨(ad202.add ((x4_2).toNat * 6)).block, (ad202.add ((x4_2).toNat * 6)).off + 3, none⟩ = some (.int .i64 ((rd_TIns (rd_LIns l0_3 x3_1) x4_2).f3)) ∧ w'.cell? ⟨(ad202.add ((x4_2).toNat * 6)).block, (ad202.add ((x4_2).toNat * 6)).off + 4, none⟩ = some (.string ((rd_TIns (rd_LIns l0_3 x3_1) x4_2).f4)) ∧ w'.cell? ⟨(ad202.add ((x4_2).toNat * 6)).block, (ad202.add ((x4_2).toNat * 6)).off + 5, none⟩ = some (.slice A202_5 ((rd_TIns (rd_LIns l0_3 x3_1) x4_2).f5).length c202_5) ∧ w'.cell? (ad200.add (x3_1).toNat) = some (.slice (some ad202) (rd_LIns l0_3 x3_1).length c201_0)) (ds := []) (bA 24 0) (by kernel_rfl) rfl rfl ⟨(blk_cell BK197.out 0).trans rfl, (blk_cell BK197.out 1).trans rfl, (blk_cell BK197.out 2).trans rfl, (blk_cell BK197.out 3).trans rfl, ((HB.out.cell (zE w _ hw201_0)).trans hw201_0), ((HB.out.cell (zE w _ hw202_0)).trans hw202_0), ((HB.out.cell (zE w _ hw202_1)).trans hw202_1), ((HB.out.cell (zE w _ hw202_2)).trans hw202_2), ((HB.out.cell (zE w _ hw202_3)).trans hw202_3), ((HB.out.cell (zE w _ hw202_4)).trans hw202_4), ((HB.out.cell (zE w _ hw202_5)).trans hw202_5), ((HB.out.cell (zE w _ hw203_0)).trans hw203_0)⟩ (fun hHeld => ?_); refine with_tabW cubbyref07_Check.tab11 cubbyref07_Check.bits11 (fun HT_ HW_ => ?_)
             generalize wr.drew = w17 at BK197 HB HR201_0 HR202_5 HR203_0 hx201_0 hx202_0 hx202_1 hx202_2 hx202_3 hx202_4 hx202_5 hx203_0 hHeld ⊢
             refine pu_ (i := 0) (N := some 35) (bA 24 1) ?_
             refine pu_ (i := 2) (N := some 37) (bA 24 5) ?_
             refine pu_ (i := 5) (N := some 40) (bA 24 37) ?_
             refine pu_ (i := 8) (N := some 43) (bA 24 293) ?_
             refine pu_ (i := 10) (N := some 45) (bA 24 1317) ?_
             refine pu_ (i := 13) (N := some 48) (bA 24 9509) ?_
             refine pu_ (i := 14) (N := some 49) (bA 24 25893) ?_
             refine pu_ (i := 16) (N := some 51) (bA 24 91429) ?_
             refine tk_ (i := 1) (N := some 36) (bA 24 91431) ?_
             refine pu_ (i := 3) (N := some 38) (bA 24 91439) ?_
             refine tk_ (i := 4) (N := some 39) (bA 24 91455) ?_
             refine pu_ (i := 6) (N := some 41) (bA 24 91519) ?_
             refine tk_ (i := 7) (N := some 42) (bA 24 91647) ?_
             refine tk_ (i := 9) (N := some 44) (bA 24 92159) ?_
             refine tk_ (i := 11) (N := some 46) (bA 24 94207) ?_
             refine pu_ (i := 12) (N := some 47) (bA 24 98303) ?_
             refine tk_ (i := 15) (N := some 50) (bA 24 131071) ?_
             refine pu_ (i := 17) (N := some 52) (bA 24 262143) ?_
             refine tk_ (i := 18) (N := some 53) (bA 24 524287) ?_
             refine pu_ (i := 19) (N := some 54) (bA 24 1048575) ?_
             refine pu_ (i := 20) (N := some 55) (bA 24 2097151) ?_
             refine pu_ (i := 21) (N := some 56) (bA 24 4194303) ?_
             refine one_ (i := 22) (N := some 57) (bA 24 8388607) rfl rfl (one_of HT_.out (by kernel_rfl)) (by decide) (fun K hK => ?_)
             refine goes_ Tryd.func15 (by kernel_rfl) rfl #[.agg #[.int .i64 ((rd_TIns (rd_LIns l0_3 x3_1) x4_2).f0), .int .i64 ((rd_TIns (rd_LIns l0_3 x3_1) x4_2).f1), .int .i64 ((rd_TIns (rd_LIns l0_3 x3_1) x4_2).f2), .int .i64 ((rd_TIns (rd_LIns l0_3 x3_1) x4_2).f3), .string ((rd_TIns (rd_LIns l0_3 x3_1) x4_2).f4), .slice A202_5 ((rd_TIns (rd_LIns l0_3 x3_1) x4_2).f5).length c202_5], .int .i64 a0_2, .int .i64 (l0_3.length : Int), .bool (x4_2 == (wrap64 (((rd_LIns l0_3 x3_1).length : Int) - 1)))] (by rfl) rfl rfl qL ?_
             with_reducible refine (cubbyref07_One.calls k2 ((rd_TIns (rd_LIns l0_3 x3_1) x4_2).f0) ((rd_TIns (rd_LIns l0_3 x3_1) x4_2).f1) ((rd_TIns (rd_LIns l0_3 x3_1) x4_2).f2) ((rd_TIns (rd_LIns l0_3 x3_1) x4_2).f3) ((rd_TIns (rd_LIns l0_3 x3_1) x4_2).f4) _ _ ((rd_TIns (rd_LIns l0_3 x3_1) x4_2).f5) a0_2 (l0_3.length : Int) (x4_2 == (wrap64 (((rd_LIns l0_3 x3_1).length : Int) - 1))) t204 _ ?side1 ?side2 A14.out).mono ?_
             (case side1 => exact qCB HR202_5.out)
             (case side2 => exact HC202_5.out)
             rintro e w18 ⟨rfl, hb⟩
             refine ⟨_, rfl, ?_⟩
             have n0_ := qW BK197 hb
             have n1_ := qH hb
             clear BK197
             clear HB
             have BK197 := n0_
             have HB := n1_
             clear n0_ n1_
             (try clear hb)
             (try clear hb2)
             (try clear hk)
             (try clear hi)
             refine hK.out _ _ ⟨(blk_cell BK197.out 0).trans rfl, (blk_cell BK197.out 1).trans rfl, (blk_cell BK197.out 2).trans rfl, (blk_cell BK197.out 3).trans rfl, ((HB.out.cell (zE w _ hw201_0)).trans hw201_0), ((HB.out.cell (zE w _ hw202_0)).trans hw202_0), ((HB.out.cell (zE w _ hw202_1)).trans hw202_1), ((HB.out.cell (zE w _ hw202_2)).trans hw202_2), ((HB.out.cell (zE w _ hw202_3)).trans hw202_3), ((HB.out.cell (zE w _ hw202_4)).trans hw202_4), ((HB.out.cell (zE w _ hw202_5)).trans hw202_5), ((HB.out.cell (zE w _ hw203_0)).trans hw203_0)⟩ (fun hHeld => ?_)
             clear hK K
             refine norm_ (a' := ?_) ?_ ?_
             rotate_left
             ·show Act.put _ (some 57) _ = _
              simp only [Act.put, List.setIfInBounds_toArray, List.set_cons_zero, List.set_cons_succ, i64_w, i32_w]
              rfl
             refine pu_ (i := 23) (N := some 5) (bA 24 16777215) ?_
             refine done_ (done_of HT_.out (by kernel_rfl)) ?_
             try go_wp2
             go_roundg k2
             case measure => have := HK1.out; have := HK2.out; omega
             case rel => exact ⟨(wrap64 (x4_2 + 1)), qT, H', ⟨by have := HK1.out; have := HK2.out; omega⟩, ⟨qK BK197.out⟩, ⟨qB⟩⟩
            ·rw [zD c15] at H
             obtain ⟨c15b0, c15b1⟩ := qn c15
             obtain rfl := zI H
             have z19_0 := bk4 BK197.out
             have p200 : 0 ≤ (x3_1 : Int) := zB qA
             have q200 : x3_1 < (l0_3.length : Int) := zB qA
             obtain ⟨ad200, A200_0, c200_0, e200, hx200_0, hl200_0, hi200_0⟩ := at_LIns HR0_3.out x3_1 p200 q200
             cases e200
             replace hx200_0 := (HB.out.cell (zE w _ hx200_0)).trans hx200_0
             have HR200_0 := zA hi200_0
             have HC200_0 := zA hl200_0
             clear hi200_0 hl200_0
             replace p200 := eq_true p200
             replace q200 := eq_true q200
             try go_wp2
             have n0_ := zA (blk_drew BK197.out)
             have n1_ := zA (below_drew1 HB.out)
             clear BK197
             clear HB
             have BK197 := n0_
             have HB := n1_
             clear n0_ n1_
             have p201 : 0 ≤ (x3_1 : Int) := zB qA
             have q201 : x3_1 < (l0_3.length : Int) := zB qA
             obtain ⟨ad201, A201_0, c201_0, e201, hx201_0, hl201_0, hi201_0⟩ := at_LIns HR0_3.out x3_1 p201 q201
             have hw201_0 := hx201_0
             obtain rfl : ad200 = ad201 := (by injection e201)
             replace hx201_0 := (HB.out.cell (zE w _ hx201_0)).trans hx201_0
             have HR201_0 := zA hi201_0
             have HC201_0 := zA hl201_0
             clear hi201_0 hl201_0
             replace p201 := eq_true p201
             replace q201 := eq_true q201
             have p202 : 0 ≤ (x4_2 : Int) := zB qA
             have q202 : x4_2 < ((rd_LIns l0_3 x3_1).length : Int) := zB qA
             obtain ⟨ad202, A202_5, c202_5, e202, hx202_0, hx202_1, hx202_2, hx202_3, hx202_4, hx202_5, hl202_5, hi202_5⟩ := at_TIns HR201_0.out x4_2 p202 q202
             have hw202_5 := hx202_5
             have hw202_4 := hx202_4
             have hw202_3 := hx202_3
             have hw202_2 := hx202_2
             have hw202_1 := hx202_1
             have hw202_0 := hx202_0
             cases e202
             replace hx202_0 := (HB.out.cell (zE w _ hx202_0)).trans hx202_0
             replace hx202_1 := (HB.out.cell (zE w _ hx202_1)).trans hx202_1
             replace hx202_2 := (HB.out.cell (zE w _ hx202_2)).trans hx202_2
             replace hx202_3 := (HB.out.cell (zE w _ hx202_3)).trans hx202_3
             replace hx202_4 := (HB.out.cell (zE w _ hx202_4)).trans hx202_4
             replace hx202_5 := (HB.out.cell (zE w _ hx202_5)).trans hx202_5
             have HR202_5 := zA hi202_5
             have HC202_5 := zA hl202_5
             clear hi202_5 hl202_5
             replace p202 := eq_true p202
             replace q202 := eq_true q202
             have p203 : 0 ≤ (x3_1 : Int) := zB qA
             have q203 : x3_1 < (l0_3.length : Int) := zB qA
             obtain ⟨ad203, A203_0, c203_0, e203, hx203_0, hl203_0, hi203_0⟩ := at_LIns HR0_3.out x3_1 p203 q203
             have hw203_0 := hx203_0
             obtain rfl : ad200 = ad203 := (by injection e203)
             replace hx203_0 := (HB.out.cell (zE w _ hx203_0)).trans hx203_0
             have HR203_0 := zA hi203_0
             have HC203_0 := zA hl203_0
             clear hi203_0 hl203_0
             replace p203 := eq_true p203
             replace q203 := eq_true q203
             have ea_ := zI (hx201_0.symm.trans hx203_0)
             injection ea_ with ea_ en_ ec_
             subst ea_
             subst ec_
             clear en_
             refine start_ (n := 24) (S := fun w' => w'.cell? ⟨gb197, 0, none⟩ = some (.string a0_0) ∧ w'.cell? ⟨gb197, 1, none⟩ = some (.int .i64 a0_1) ∧ w'.cell? ⟨gb197, 2, none⟩ = some (.int .i64 a0_2) ∧ w'.cell? ⟨gb197, 3, none⟩ = some (.slice (some ad200) l0_3.length c0_3) ∧ w'.cell? (ad200.add (x3_1).toNat) = some (.slice (some ad202) (rd_LIns l0_3 x3_1).length c201_0) ∧ w'.cell? (ad202.add ((x4_2).toNat * 6)) = some (.int .i64 ((rd_TIns (rd_LIns l0_3 x3_1) x4_2).f0)) ∧ w'.cell? ⟨(ad202.add ((x4_2).toNat * 6)).block, (ad202.add ((x4_2).toNat * 6)).off + 1, none⟩ = some (.int .i64 ((rd_TIns (rd_LIns l0_3 x3_1) x4_2).f1)) ∧ w'.cell? ⟨(ad202.add ((x4_2).toNat * 6)).block, (ad202.add ((x4_2).toNat * 6)).off + 2, none⟩ = some (.int .i64 ((rd_TIns (rd_LIns l0_3 x3_1) x4_2).f2)) ∧ w'.cell? ⟨(ad202.add ((x4_2).toNat * 6)).block, (ad202.add ((x4_2).toNat * 6)).off + 3, none⟩ = some (.int .i64 ((rd_TIns (rd_LIns l0_3 x3_1) x4_2).f3)) ∧ w'.cell? ⟨(ad202.add ((x4_2).toNat * 6)).block, (ad202.add ((x4_2).toNat * 6)).off + 4, none⟩ = some (.string ((rd_TIns (rd_LIns l0_3 x3_1) x4_2).f4)) ∧ w'.cell? ⟨(ad202.add ((x4_2).toNat * 6)).block, (ad202.add ((x4_2).toNat * 6)).off + 5, none⟩ = some (.slice A202_5 ((rd_TIns (rd_LIns l0_3 x3_1) x4_2).f5).length c202_5) ∧ w'.cell? (ad200.add (x3_1).toNat) = some (.slice (some ad202) (rd_LIns l0_3 x3_1).length c201_0)) (ds := []) (bA 24 0) (by kernel_rfl) rfl rfl ⟨(blk_cell BK197.out 0).trans rfl, (blk_cell BK197.out 1).trans rfl, (blk_cell BK197.out 2).trans rfl, (blk_cell BK197.out 3).trans rfl, ((HB.out.cell (zE w _ hw201_0)).trans hw201_0), ((HB.out.cell (zE w _ hw202_0)).trans hw202_0), ((HB.out.cell (zE w _ hw202_1)).trans hw202_1), ((HB.out.cell (zE w _ hw202_2)).trans hw202_2), ((HB.out.cell (zE w _ hw202_3)).trans hw202_3), ((HB.out.cell (zE w _ hw202_4)).trans hw202_4), ((HB.out.cell (zE w _ hw202_5)).trans hw202_5), ((HB.out.cell (zE w _ hw203_0)).trans hw203_0)⟩ (fun hHeld => ?_); refine with_tabW cubbyref07_Check.tab11 cubbyref07_Check.bits11 (fun HT_ HW_ => ?_)
             generalize wr.drew = w20 at BK197 HB HR201_0 HR202_5 HR203_0 hx201_0 hx202_0 hx202_1 hx202_2 hx202_3 hx202_4 hx202_5 hx203_0 hHeld ⊢
             refine pu_ (i := 0) (N := some 35) (bA 24 1) ?_
             refine pu_ (i := 2) (N := some 37) (bA 24 5) ?_
             refine pu_ (i := 5) (N := some 40) (bA 24 37) ?_
             refine pu_ (i := 8) (N := some 43) (bA 24 293) ?_
             refine pu_ (i := 10) (N := some 45) (bA 24 1317) ?_
             refine pu_ (i := 13) (N := some 48) (bA 24 9509) ?_
             refine pu_ (i := 14) (N := some 49) (bA 24 25893) ?_
             refine pu_ (i := 16) (N := some 51) (bA 24 91429) ?_
             refine tk_ (i := 1) (N := some 36) (bA 24 91431) ?_
             refine pu_ (i := 3) (N := some 38) (bA 24 91439) ?_
             refine tk_ (i := 4) (N := some 39) (bA 24 91455) ?_
             refine pu_ (i := 6) (N := some 41) (bA 24 91519) ?_
             refine tk_ (i := 7) (N := some 42) (bA 24 91647) ?_
             refine tk_ (i := 9) (N := some 44) (bA 24 92159) ?_
             refine tk_ (i := 11) (N := some 46) (bA 24 94207) ?_
             refine pu_ (i := 12) (N := some 47) (bA 24 98303) ?_
             refine tk_ (i := 15) (N := some 50) (bA 24 131071) ?_
             refine pu_ (i := 17) (N := some 52) (bA 24 262143) ?_
             refine tk_ (i := 18) (N := some 53) (bA 24 524287) ?_
             refine pu_ (i := 19) (N := some 54) (bA 24 1048575) ?_
             refine pu_ (i := 20) (N := some 55) (bA 24 2097151) ?_
             refine pu_ (i := 21) (N := some 56) (bA 24 4194303) ?_
             refine one_ (i := 22) (N := some 57) (bA 24 8388607) rfl rfl (one_of HT_.out (by kernel_rfl)) (by decide) (fun K hK => ?_)
             refine goes_ Tryd.func15 (by kernel_rfl) rfl #[.agg #[.int .i64 ((rd_TIns (rd_LIns l0_3 x3_1) x4_2).f0), .int .i64 ((rd_TIns (rd_LIns l0_3 x3_1) x4_2).f1), .int .i64 ((rd_TIns (rd_LIns l0_3 x3_1) x4_2).f2), .int .i64 ((rd_TIns (rd_LIns l0_3 x3_1) x4_2).f3), .string ((rd_TIns (rd_LIns l0_3 x3_1) x4_2).f4), .slice A202_5 ((rd_TIns (rd_LIns l0_3 x3_1) x4_2).f5).length c202_5], .int .i64 a0_2, .int .i64 (l0_3.length : Int), .bool (x4_2 == (wrap64 (((rd_LIns l0_3 x3_1).length : Int) - 1)))] (by rfl) rfl rfl qL ?_
             with_reducible refine (cubbyref07_One.calls k2 ((rd_TIns (rd_LIns l0_3 x3_1) x4_2).f0) ((rd_TIns (rd_LIns l0_3 x3_1) x4_2).f1) ((rd_TIns (rd_LIns l0_3 x3_1) x4_2).f2) ((rd_TIns (rd_LIns l0_3 x3_1) x4_2).f3) ((rd_TIns (rd_LIns l0_3 x3_1) x4_2).f4) _ _ ((rd_TIns (rd_LIns l0_3 x3_1) x4_2).f5) a0_2 (l0_3.length : Int) (x4_2 == (wrap64 (((rd_LIns l0_3 x3_1).length : Int) - 1))) t204 _ ?side1 ?side2 A14.out).mono ?_
             (case side1 => exact qCB HR202_5.out)
             (case side2 => exact HC202_5.out)
             rintro e w21 ⟨rfl, hb⟩
             refine ⟨_, rfl, ?_⟩
             have n0_ := qW BK197 hb
             have n1_ := qH hb
             clear BK197
             clear HB
             have BK197 := n0_
             have HB := n1_
             clear n0_ n1_
             (try clear hb)
             (try clear hb2)
             (try clear hk)
             (try clear hi)
             refine hK.out _ _ ⟨(blk_cell BK197.out 0).trans rfl, (blk_cell BK197.out 1).trans rfl, (blk_cell BK197.out 2).trans rfl, (blk_cell BK197.out 3).trans rfl, ((HB.out.cell (zE w _ hw201_0)).trans hw201_0), ((HB.out.cell (zE w _ hw202_0)).trans hw202_0), ((HB.out.cell (zE w _ hw202_1)).trans hw202_1), ((HB.out.cell (zE w _ hw202_2)).trans hw202_2), ((HB.out.cell (zE w _ hw202_3)).trans hw202_3), ((HB.out.cell (zE w _ hw202_4)).trans hw202_4), ((HB.out.cell (zE w _ hw202_5)).trans hw202_5), ((HB.out.cell (zE w _ hw203_0)).trans hw203_0)⟩ (fun hHeld => ?_)
             clear hK K
             refine norm_ (a' := ?_) ?_ ?_
             rotate_left
             ·show Act.put _ (some 57) _ = _
              simp only [Act.put, List.setIfInBounds_toArray, List.set_cons_zero, List.set_cons_succ, i64_w, i32_w]
              rfl
             refine pu_ (i := 23) (N := some 5) (bA 24 16777215) ?_
             refine done_ (done_of HT_.out (by kernel_rfl)) ?_
             try go_wp2
             go_ret
             exact ⟨qE, qB⟩
           ·rw [zD c13] at H
            exact absurd H (by simp)
          ·rw [zD c12] at H
           have c12b0 := zG c12
           clear c12
           have H' := zA H
           clear H
           have z22_0 := bk4 BK197.out
           have p200 : 0 ≤ (x3_1 : Int) := zB qA
           have q200 : x3_1 < (l0_3.length : Int) := zB qA
           obtain ⟨ad200, A200_0, c200_0, e200, hx200_0, hl200_0, hi200_0⟩ := at_LIns HR0_3.out x3_1 p200 q200
           cases e200
           replace hx200_0 := (HB.out.cell (zE w _ hx200_0)).trans hx200_0
           have HR200_0 := zA hi200_0
           have HC200_0 := zA hl200_0
           clear hi200_0 hl200_0
           replace p200 := eq_true p200
           replace q200 := eq_true q200
           go_wp2
           go_roundg k2
           case measure => have := HK1.out; have := HK2.out; omega
           case rel => exact ⟨(wrap64 (x3_1 + 1)), qT, H', ⟨by have := HK1.out; have := HK2.out; omega⟩, ⟨qK BK197.out⟩, ⟨qB⟩⟩
         ·rw [zD c11] at H
          exact absurd H (by simp)
        ·rw [zD c10] at H
         exact absurd H (by simp)
     ·rw [zD c8] at H
      have c8b0 := zG c8
      clear c8
      obtain rfl := zI H
      have z23_0 := bk4 BK197.out
      go_wp2
      go_ret
      exact ⟨qE, qB⟩
  ·replace c5 := Bool.eq_false_iff.mpr c5
   subst c5
   have H1 : (some 71) = some r := by rw [zD (show ¬ (false = true) by decide)] at H; exact H
   clear H
   have H := H1
   clear H1
   obtain rfl := zI H
   go_enter Tryd.func7, Tryd.ntmps7
   go_wp2_with (first | ((with_reducible refine gate_dst (N := 1) rfl ?_); refine box_event (by rfl) (N := 1) (by rfl) (cs := #[.string a0_0, .int .i64 a0_1, .int .i64 a0_2, .slice A0_3 l0_3.length c0_3]) (t := 24) ?hr ?_; (case hr => go_simp <;> rfl); intro gb197 hg w24 hbox hb; have BK197 := zA (hbox); have GW197 := qG hg; have GE197 := GW197; replace HB := qH hb; clear hb hbox hg; have z25_0 := bk4 BK197.out) | ((with_reducible refine gate_callee (f := 13) rfl ?_); refine goesL_ (some 8) rfl rfl Tryd.func13 (by kernel_rfl) rfl #[.string a0_0] rfl qL ?_; (with_reducible refine (cubbyref07_Name.calls k a0_0 true _ A2.out).mono ?_); rintro e w' ⟨rfl, ⟨nd, rfl⟩⟩; refine ⟨_, rfl, ?_⟩) | ((with_reducible refine gate_callee (f := 14) rfl ?_); refine goesL_ (some 16) rfl rfl Tryd.func14 (by kernel_rfl) rfl #[.int .i64 a0_1, .int .i64 a0_2, .slice A0_3 l0_3.length c0_3] rfl qL ?_; (with_reducible refine (cubbyref07_Shape.calls k a0_1 a0_2 _ _ l0_3 false _ ?side1 ?side2 A4.out).mono ?_); (case side1 => repeat (first | exact (Kd.C_below HR0_3.out qB) | (with_reducible refine Kd.C_alloc ?_ _) | (with_reducible refine Kd.C_drewN ?_ _) | (with_reducible refine Kd.C_drew ?_))); (case side2 => exact HC0_3.out); rintro e w' ⟨rfl, ⟨nd, rfl⟩⟩; refine ⟨_, rfl, ?_⟩))
   go_ret
   exact ⟨qE, qB⟩
 ·replace c3 := Bool.eq_false_iff.mpr c3
  subst c3
  have H1 : (some 70) = some r := by rw [zD (show ¬ (false = true) by decide)] at H; exact H
  clear H
  have H := H1
  clear H1
  obtain rfl := zI H
  go_enter Tryd.func7, Tryd.ntmps7
  go_wp2_with (first | ((with_reducible refine gate_dst (N := 1) rfl ?_); refine box_event (by rfl) (N := 1) (by rfl) (cs := #[.string a0_0, .int .i64 a0_1, .int .i64 a0_2, .slice A0_3 l0_3.length c0_3]) (t := 24) ?hr ?_; (case hr => go_simp <;> rfl); intro gb197 hg w26 hbox hb; have BK197 := zA (hbox); have GW197 := qG hg; have GE197 := GW197; replace HB := qH hb; clear hb hbox hg; have z27_0 := bk4 BK197.out) | ((with_reducible refine gate_callee (f := 13) rfl ?_); refine goesL_ (some 8) rfl rfl Tryd.func13 (by kernel_rfl) rfl #[.string a0_0] rfl qL ?_; (with_reducible refine (cubbyref07_Name.calls k a0_0 false _ A2.out).mono ?_); rintro e w' ⟨rfl, ⟨nd, rfl⟩⟩; refine ⟨_, rfl, ?_⟩))
  go_ret
  exact ⟨qE, qB⟩

mutual
def cubbylaw07_heavy.l0 : Nat → List (List (SIns)) → Int → Int → Option (Bool)
 | 0, _, _, _ => none
 | k + 1, x0, x3, x4 => if x4 < (x0.length : Int) then (cubbylaw07_heavy.j1 k x0 x3 x4 (decide (x3 ≤ 500))) else (cubbylaw07_heavy.j1 k x0 x3 x4 false)
def cubbylaw07_heavy.j1 : Nat → List (List (SIns)) → Int → Int → Bool → Option (Bool)
 | 0, _, _, _, _ => none
 | k + 1, x0, x3, x4, x16 => if x16 = true then (if 0 ≤ x4 then (if x4 < (x0.length : Int) then (cubbylaw07_heavy.l1 k x0 (wrap64 (x3 + (mn ((rd_LIns x0 x4).length : Int) 1048576))) x4 0) else (none)) else (none)) else (some (decide (x3 > 500)))
def cubbylaw07_heavy.l1 : Nat → List (List (SIns)) → Int → Int → Int → Option (Bool)
 | 0, _, _, _, _ => none
 | k + 1, x0, x3, x4, x5 => if 0 ≤ x4 then (if x4 < (x0.length : Int) then (if x5 < ((rd_LIns x0 x4).length : Int) then (cubbylaw07_heavy.j3 k x0 x3 x4 x5 (decide (x5 ≤ 500))) else (cubbylaw07_heavy.j3 k x0 x3 x4 x5 false)) else (none)) else (none)
def cubbylaw07_heavy.j3 : Nat → List (List (SIns)) → Int → Int → Int → Bool → Option (Bool)
 | 0, _, _, _, _, _ => none
 | k + 1, x0, x3, x4, x5, x37 => if x37 = true then (if 0 ≤ x4 then (if x4 < (x0.length : Int) then (if 0 ≤ x5 then (if x5 < ((rd_LIns x0 x4).length : Int) then (if (((rd_TIns (rd_LIns x0 x4) x5).f5).length : Int) > 100 then (some true) else (if (((rd_TIns (rd_LIns x0 x4) x5).f4).size : Int) > 1024 then (some true) else (cubbylaw07_heavy.l1 k x0 x3 x4 (wrap64 (x5 + 1))))) else (none)) else (none)) else (none)) else (none)) else (cubbylaw07_heavy.l0 k x0 x3 (wrap64 (x4 + 1)))
end
def cubbylaw07_heavy.f (k : Nat) (l0 : List (List (SIns))) : Option (Bool) := if (l0.length : Int) > 100 then (some true) else (cubbylaw07_heavy.l0 k l0 0 0)
set_option maxHeartbeats 8000000 in
set_option maxRecDepth 100000 in
theorem cubbylaw07_heavy.calls (k : Nat) (A0 : Option Addr) (c0 : Nat) (l0 : List (List (SIns))) (r : Bool) (w : World) (hr0 : Kd.C (Kd.slice 31 kIns) w A0 l0.length l0) (hc0 : l0.length ≤ c0) (h : cubbylaw07_heavy.f k l0 = some r) :
 Calls Tryd.prog 5 #[.slice A0 l0.length c0] w fun e w' => e = .returned (.bool r) ∧ Below w.heap.size w w' := by
 have HR0 := zA hr0
 have HC0 := zA hc0
 clear hr0 hc0
 have HB := zA (Below.refl w.heap.size w)
 have H := h; clear h; unfold cubbylaw07_heavy.f at H
 by_cases c2 : (l0.length : Int) > 100
 ·rw [zC c2] at H
  have c2b0 : decide (100 < (l0.length : Int)) = true := zF c2
  have c2b1 : decide (100 < l0.length) = true := zF (by omega)
  clear c2
  obtain rfl := zI H
  go_enter Tryd.func5, Tryd.ntmps5
  go_wp2
  go_ret
  exact ⟨qE, qB⟩
 ·rw [zD c2] at H
  have c2b0 : decide (100 < (l0.length : Int)) = false := zG c2
  have c2b1 : decide (100 < l0.length) = false := zG (by omega)
  clear c2
  have H' := zA H
  clear H
  go_enter Tryd.func5, Tryd.ntmps5
  go_wp2
  go_loopg [3, 4] k (fun kq v3 v4 w' => ∃ (x3_1 : Int) (x4_1 : Int), v3 = .int .i64 x3_1 ∧ v4 = .int .i64 x4_1 ∧ Aside0 (cubbylaw07_heavy.l0 kq l0 x3_1 x4_1 = some r) ∧ Aside0 (kq ≤ k) ∧ Aside0 (Below w.heap.size w w'))
  case atStart => exact ⟨(0), (0), qT, qT, H', ⟨Nat.le_refl _⟩, ⟨qB⟩⟩
  case round =>
   clear H'
   try clear c2b0 c2b1; try clear p2
   obtain ⟨x3_1, x4_1, rfl, rfl, HA, HK1, HB⟩ := hrel
   cases gk with
   | zero => exact absurd HA.out (by simp [cubbylaw07_heavy.l0])
   | succ k1 =>
    have H := HA.out
    clear HA
    simp only [cubbylaw07_heavy.l0] at H
    have HC3 := zA H
    clear H
    go_upto_region 5 with (fail)
    go_cut [16] (fun v16 wc => ∃ (kq : Nat) (x16_2 : Bool), v16 = .bool x16_2 ∧ Aside0 (cubbylaw07_heavy.j1 kq l0 x3_1 x4_1 x16_2 = some r) ∧ Aside0 (kq ≤ k1) ∧ Aside0 (Below w.heap.size w wc))
    case first =>
     have H := HC3.out
     clear HC3
     by_cases c4 : x4_1 < (l0.length : Int)
     ·rw [zC c4] at H
      have c4b0 := zF c4
      clear c4
      (first | rw [c4b0] | (simp only [i64_w, i32_w]; rw [c4b0]) | skip)
      have H' := zA H
      clear H
      go_wp2
      go_meet
      case rel => exact ⟨_, (decide (x3_1 ≤ 500)), qT, H', ⟨by have := HK1.out; first | omega | exact Nat.le_refl _⟩, ⟨qB⟩⟩
     ·rw [zD c4] at H
      have c4b0 := zG c4
      clear c4
      (first | rw [c4b0] | (simp only [i64_w, i32_w]; rw [c4b0]) | skip)
      have H' := zA H
      clear H
      go_wp2
      go_meet
      case rel => exact ⟨_, (false), qT, H', ⟨by have := HK1.out; first | omega | exact Nat.le_refl _⟩, ⟨qB⟩⟩
    case rest =>
     clear HC3
     try clear c2b0 c2b1; try clear p2; try clear c4; try clear c4b0
     obtain ⟨kq, x16_2, rfl, HA, HJ2, HB⟩ := hcut
     cases kq with
     | zero => exact absurd HA.out (by simp [cubbylaw07_heavy.j1])
     | succ kj2 =>
      have H := HA.out
      clear HA
      simp only [cubbylaw07_heavy.j1] at H
      by_cases c5 : x16_2 = true
      ·subst c5
       have H1 : (if 0 ≤ x4_1 then (if x4_1 < (l0.length : Int) then (cubbylaw07_heavy.l1 kj2 l0 (wrap64 (x3_1 + (mn ((rd_LIns l0 x4_1).length : Int) 1048576))) x4_1 0) else (none)) else (none)) = some r := by rw [zC rfl] at H; exact H
       clear H
       have H := H1
       clear H1
       by_cases c6 : 0 ≤ x4_1
       ·rw [zC c6] at H
        have c6b0 := zF c6
        clear c6
        by_cases c7 : x4_1 < (l0.length : Int)
        ·rw [zC c7] at H
         have c7b0 := zF c7
         clear c7
         obtain ⟨ji8, hji8⟩ : ∃ j_ : Int, (mn ((rd_LIns l0 x4_1).length : Int) 1048576) = j_ := ⟨_, rfl⟩
         replace H : (cubbylaw07_heavy.l1 kj2 l0 (wrap64 (x3_1 + (ji8))) x4_1 0) = some r := by first | (rw [hji8] at H; exact H) | (simp only [hji8] at H ⊢; exact H)
         have hji8_ : (if 1048576 < ((rd_LIns l0 x4_1).length : Int) then 1048576 else ((rd_LIns l0 x4_1).length : Int)) = ji8 := hji8
         have H' := zA H
         clear H
         have p101 : 0 ≤ (x4_1 : Int) := zB qA
         have q101 : x4_1 < (l0.length : Int) := zB qA
         obtain ⟨ad101, A101_0, c101_0, e101, hx101_0, hl101_0, hi101_0⟩ := at_LIns HR0.out x4_1 p101 q101
         cases e101
         replace hx101_0 := (HB.out.cell (zE w _ hx101_0)).trans hx101_0
         have HR101_0 := zA hi101_0
         have HC101_0 := zA hl101_0
         clear hi101_0 hl101_0
         replace p101 := eq_true p101
         replace q101 := eq_true q101
         go_wp2
         go_loopg [5] kj2 (fun kq v5 w' => ∃ (x5_3 : Int), v5 = .int .i64 x5_3 ∧ Aside0 (cubbylaw07_heavy.l1 kq l0 (wrap64 (x3_1 + (ji8))) x4_1 x5_3 = some r) ∧ Aside0 (kq ≤ kj2) ∧ Aside0 (Below w.heap.size w w'))
         case atStart => exact ⟨(0), qT, H', ⟨Nat.le_refl _⟩, ⟨qB⟩⟩
         case round =>
          clear H'
          try clear c1; try clear p1; try clear q1; try clear hx1; try clear c2b0 c2b1; try clear p2; try clear c4; try clear c4b0; try clear c5; try clear c6b0; try clear p6; try clear c7b0; try clear hx101_0; try clear p101; try clear q101
          obtain ⟨x5_3, rfl, HA, HK3, HB⟩ := hrel
          cases gk with
          | zero => exact absurd HA.out (by simp [cubbylaw07_heavy.l1])
          | succ k3 =>
           have H := HA.out
           clear HA
           simp only [cubbylaw07_heavy.l1] at H
           have HC9 := zA H
           clear H
           go_upto_region 9 with (fail)
           go_cut [37] (fun v37 wc => ∃ (kq : Nat) (x37_8 : Bool), v37 = .bool x37_8 ∧ Aside0 (cubbylaw07_heavy.j3 kq l0 (wrap64 (x3_1 + (ji8))) x4_1 x5_3 x37_8 = some r) ∧ Aside0 (kq ≤ k3) ∧ Aside0 (Below w.heap.size w wc))
           case first =>
            have H := HC9.out
            clear HC9
            by_cases c10 : 0 ≤ x4_1
            ·rw [zC c10] at H
             have c10b0 := zF c10
             clear c10
             (first | rw [c10b0] | (simp only [i64_w, i32_w]; rw [c10b0]) | skip)
             by_cases c11 : x4_1 < (l0.length : Int)
             ·rw [zC c11] at H
              have c11b0 := zF c11
              clear c11
              by_cases c12 : x5_3 < ((rd_LIns l0 x4_1).length : Int)
              ·rw [zC c12] at H
               have c12b0 := zF c12
               clear c12
               have H' := zA H
               clear H
               have p102 : 0 ≤ (x4_1 : Int) := zB qA
               have q102 : x4_1 < (l0.length : Int) := zB qA
               obtain ⟨ad102, A102_0, c102_0, e102, hx102_0, hl102_0, hi102_0⟩ := at_LIns HR0.out x4_1 p102 q102
               obtain rfl : ad101 = ad102 := (by injection e102)
               replace hx102_0 := (HB.out.cell (zE w _ hx102_0)).trans hx102_0
               have HR102_0 := zA hi102_0
               have HC102_0 := zA hl102_0
               clear hi102_0 hl102_0
               replace p102 := eq_true p102
               replace q102 := eq_true q102
               go_wp2
               go_meet
               case rel => exact ⟨_, (decide (x5_3 ≤ 500)), qT, H', ⟨by have := HK1.out; have := HJ2.out; have := HK3.out; first | omega | exact Nat.le_refl _⟩, ⟨qB⟩⟩
              ·rw [zD c12] at H
               have c12b0 := zG c12
               clear c12
               have H' := zA H
               clear H
               have p102 : 0 ≤ (x4_1 : Int) := zB qA
               have q102 : x4_1 < (l0.length : Int) := zB qA
               obtain ⟨ad102, A102_0, c102_0, e102, hx102_0, hl102_0, hi102_0⟩ := at_LIns HR0.out x4_1 p102 q102
               obtain rfl : ad101 = ad102 := (by injection e102)
               replace hx102_0 := (HB.out.cell (zE w _ hx102_0)).trans hx102_0
               have HR102_0 := zA hi102_0
               have HC102_0 := zA hl102_0
               clear hi102_0 hl102_0
               replace p102 := eq_true p102
               replace q102 := eq_true q102
               go_wp2
               go_meet
               case rel => exact ⟨_, (false), qT, H', ⟨by have := HK1.out; have := HJ2.out; have := HK3.out; first | omega | exact Nat.le_refl _⟩, ⟨qB⟩⟩
             ·rw [zD c11] at H
              exact absurd H (by simp)
            ·rw [zD c10] at H
             exact absurd H (by simp)
           case rest =>
            clear HC9
            try clear c1; try clear p1; try clear q1; try clear hx1; try clear c2b0 c2b1; try clear p2; try clear c4; try clear c4b0; try clear c5; try clear c6b0; try clear p6; try clear c7b0; try clear c10; try clear c10b0; try clear p10; try clear q10; try clear hx10; try clear c11; try clear c11b0; try clear c12; try clear c12b0; try clear hx101_0; try clear hx102_0; try clear p101; try clear p102; try clear q101; try clear q102
            obtain ⟨kq, x37_8, rfl, HA, HJ8, HB⟩ := hcut
            cases kq with
            | zero => exact absurd HA.out (by simp [cubbylaw07_heavy.j3])
            | succ kj8 =>
             have H := HA.out
             clear HA
             simp only [cubbylaw07_heavy.j3] at H
             by_cases c13 : x37_8 = true
             ·subst c13
              have H1 : (if 0 ≤ x4_1 then (if x4_1 < (l0.length : Int) then (if 0 ≤ x5_3 then (if x5_3 < ((rd_LIns l0 x4_1).length : Int) then (if (((rd_TIns (rd_LIns l0 x4_1) x5_3).f5).length : Int) > 100 then (some true) else (if (((rd_TIns (rd_LIns l0 x4_1) x5_3).f4).size : Int) > 1024 then (some true) else (cubbylaw07_heavy.l1 kj8 l0 (wrap64 (x3_1 + (ji8))) x4_1 (wrap64 (x5_3 + 1))))) else (none)) else (none)) else (none)) else (none)) = some r := by rw [zC rfl] at H; exact H
              clear H
              have H := H1
              clear H1
              by_cases c14 : 0 ≤ x4_1
              ·rw [zC c14] at H
               have c14b0 := zF c14
               clear c14
               by_cases c15 : x4_1 < (l0.length : Int)
               ·rw [zC c15] at H
                have c15b0 := zF c15
                clear c15
                by_cases c16 : 0 ≤ x5_3
                ·rw [zC c16] at H
                 have c16b0 := zF c16
                 clear c16
                 by_cases c17 : x5_3 < ((rd_LIns l0 x4_1).length : Int)
                 ·rw [zC c17] at H
                  have c17b0 := zF c17
                  clear c17
                  by_cases c18 : (((rd_TIns (rd_LIns l0 x4_1) x5_3).f5).length : Int) > 100
                  ·rw [zC c18] at H
                   have c18b0 : decide (100 < (((rd_TIns (rd_LIns l0 x4_1) x5_3).f5).length : Int)) = true := zF c18
                   have c18b1 : decide (100 < ((rd_TIns (rd_LIns l0 x4_1) x5_3).f5).length) = true := zF (by omega)
                   clear c18
                   obtain rfl := zI H
                   have p103 : 0 ≤ (x4_1 : Int) := zB qA
                   have q103 : x4_1 < (l0.length : Int) := zB qA
                   obtain ⟨ad103, A103_0, c103_0, e103, hx103_0, hl103_0, hi103_0⟩ := at_LIns HR0.out x4_1 p103 q103
                   obtain rfl : ad101 = ad103 := (by injection e103)
                   replace hx103_0 := (HB.out.cell (zE w _ hx103_0)).trans hx103_0
                   have HR103_0 := zA hi103_0
                   have HC103_0 := zA hl103_0
                   clear hi103_0 hl103_0
                   replace p103 := eq_true p103
                   replace q103 := eq_true q103
                   have p104 : 0 ≤ (x5_3 : Int) := zB qA
                   have q104 : x5_3 < ((rd_LIns l0 x4_1).length : Int) := zB qA
                   obtain ⟨ad104, A104_5, c104_5, e104, hx104_0, hx104_1, hx104_2, hx104_3, hx104_4, hx104_5, hl104_5, hi104_5⟩ := at_TIns HR103_0.out x5_3 p104 q104
                   cases e104
                   replace hx104_0 := (HB.out.cell (zE w _ hx104_0)).trans hx104_0
                   replace hx104_1 := (HB.out.cell (zE w _ hx104_1)).trans hx104_1
                   replace hx104_2 := (HB.out.cell (zE w _ hx104_2)).trans hx104_2
                   replace hx104_3 := (HB.out.cell (zE w _ hx104_3)).trans hx104_3
                   replace hx104_4 := (HB.out.cell (zE w _ hx104_4)).trans hx104_4
                   replace hx104_5 := (HB.out.cell (zE w _ hx104_5)).trans hx104_5
                   have HR104_5 := zA hi104_5
                   have HC104_5 := zA hl104_5
                   clear hi104_5 hl104_5
                   replace p104 := eq_true p104
                   replace q104 := eq_true q104
                   go_wp2
                   go_ret
                   exact ⟨by first | rfl | (simp [errW_none, errW_some] <;> rfl) | (simp only [← hji8]; first | rfl | (simp [errW_none, errW_some] <;> rfl)) | (simp [*, errW_none, errW_some] <;> rfl), qB⟩
                  ·rw [zD c18] at H
                   have c18b0 : decide (100 < (((rd_TIns (rd_LIns l0 x4_1) x5_3).f5).length : Int)) = false := zG c18
                   have c18b1 : decide (100 < ((rd_TIns (rd_LIns l0 x4_1) x5_3).f5).length) = false := zG (by omega)
                   clear c18
                   by_cases c19 : (((rd_TIns (rd_LIns l0 x4_1) x5_3).f4).size : Int) > 1024
                   ·rw [zC c19] at H
                    have c19b0 : decide (1024 < (((rd_TIns (rd_LIns l0 x4_1) x5_3).f4).size : Int)) = true := zF c19
                    have c19b1 : decide (1024 < ((rd_TIns (rd_LIns l0 x4_1) x5_3).f4).size) = true := zF (by omega)
                    clear c19
                    obtain rfl := zI H
                    have p103 : 0 ≤ (x4_1 : Int) := zB qA
                    have q103 : x4_1 < (l0.length : Int) := zB qA
                    obtain ⟨ad103, A103_0, c103_0, e103, hx103_0, hl103_0, hi103_0⟩ := at_LIns HR0.out x4_1 p103 q103
                    obtain rfl : ad101 = ad103 := (by injection e103)
                    replace hx103_0 := (HB.out.cell (zE w _ hx103_0)).trans hx103_0
                    have HR103_0 := zA hi103_0
                    have HC103_0 := zA hl103_0
                    clear hi103_0 hl103_0
                    replace p103 := eq_true p103
                    replace q103 := eq_true q103
                    have p104 : 0 ≤ (x5_3 : Int) := zB qA
                    have q104 : x5_3 < ((rd_LIns l0 x4_1).length : Int) := zB qA
                    obtain ⟨ad104, A104_5, c104_5, e104, hx104_0, hx104_1, hx104_2, hx104_3, hx104_4, hx104_5, hl104_5, hi104_5⟩ := at_TIns HR103_0.out x5_3 p104 q104
                    cases e104
                    replace hx104_0 := (HB.out.cell (zE w _ hx104_0)).trans hx104_0
                    replace hx104_1 := (HB.out.cell (zE w _ hx104_1)).trans hx104_1
                    replace hx104_2 := (HB.out.cell (zE w _ hx104_2)).trans hx104_2
                    replace hx104_3 := (HB.out.cell (zE w _ hx104_3)).trans hx104_3
                    replace hx104_4 := (HB.out.cell (zE w _ hx104_4)).trans hx104_4
                    replace hx104_5 := (HB.out.cell (zE w _ hx104_5)).trans hx104_5
                    have HR104_5 := zA hi104_5
                    have HC104_5 := zA hl104_5
                    clear hi104_5 hl104_5
                    replace p104 := eq_true p104
                    replace q104 := eq_true q104
                    have p105 : 0 ≤ (x4_1 : Int) := zB qA
                    have q105 : x4_1 < (l0.length : Int) := zB qA
                    obtain ⟨ad105, A105_0, c105_0, e105, hx105_0, hl105_0, hi105_0⟩ := at_LIns HR0.out x4_1 p105 q105
                    obtain rfl : ad101 = ad105 := (by injection e105)
                    replace hx105_0 := (HB.out.cell (zE w _ hx105_0)).trans hx105_0
                    have HR105_0 := zA hi105_0
                    have HC105_0 := zA hl105_0
                    clear hi105_0 hl105_0
                    replace p105 := eq_true p105
                    replace q105 := eq_true q105
                    have ea_ := zI (hx103_0.symm.trans hx105_0)
                    injection ea_ with ea_ en_ ec_
                    subst ea_
                    subst ec_
                    clear en_
                    have p106 : 0 ≤ (x5_3 : Int) := zB qA
                    have q106 : x5_3 < ((rd_LIns l0 x4_1).length : Int) := zB qA
                    obtain ⟨ad106, A106_5, c106_5, e106, hx106_0, hx106_1, hx106_2, hx106_3, hx106_4, hx106_5, hl106_5, hi106_5⟩ := at_TIns HR105_0.out x5_3 p106 q106
                    cases e106
                    replace hx106_0 := (HB.out.cell (zE w _ hx106_0)).trans hx106_0
                    replace hx106_1 := (HB.out.cell (zE w _ hx106_1)).trans hx106_1
                    replace hx106_2 := (HB.out.cell (zE w _ hx106_2)).trans hx106_2
                    replace hx106_3 := (HB.out.cell (zE w _ hx106_3)).trans hx106_3
                    replace hx106_4 := (HB.out.cell (zE w _ hx106_4)).trans hx106_4
                    replace hx106_5 := (HB.out.cell (zE w _ hx106_5)).trans hx106_5
                    have HR106_5 := zA hi106_5
                    have HC106_5 := zA hl106_5
                    clear hi106_5 hl106_5
                    replace p106 := eq_true p106
                    replace q106 := eq_true q106
                    go_wp2
                    go_ret
                    exact ⟨by first | rfl | (simp [errW_none, errW_some] <;> rfl) | (simp only [← hji8]; first | rfl | (simp [errW_none, errW_some] <;> rfl)) | (simp [*, errW_none, errW_some] <;> rfl), qB⟩
                   ·rw [zD c19] at H
                    have c19b0 : decide (1024 < (((rd_TIns (rd_LIns l0 x4_1) x5_3).f4).size : Int)) = false := zG c19
                    have c19b1 : decide (1024 < ((rd_TIns (rd_LIns l0 x4_1) x5_3).f4).size) = false := zG (by omega)
                    clear c19
                    have H' := zA H
                    clear H
                    have p103 : 0 ≤ (x4_1 : Int) := zB qA
                    have q103 : x4_1 < (l0.length : Int) := zB qA
                    obtain ⟨ad103, A103_0, c103_0, e103, hx103_0, hl103_0, hi103_0⟩ := at_LIns HR0.out x4_1 p103 q103
                    obtain rfl : ad101 = ad103 := (by injection e103)
                    replace hx103_0 := (HB.out.cell (zE w _ hx103_0)).trans hx103_0
                    have HR103_0 := zA hi103_0
                    have HC103_0 := zA hl103_0
                    clear hi103_0 hl103_0
                    replace p103 := eq_true p103
                    replace q103 := eq_true q103
                    have p104 : 0 ≤ (x5_3 : Int) := zB qA
                    have q104 : x5_3 < ((rd_LIns l0 x4_1).length : Int) := zB qA
                    obtain ⟨ad104, A104_5, c104_5, e104, hx104_0, hx104_1, hx104_2, hx104_3, hx104_4, hx104_5, hl104_5, hi104_5⟩ := at_TIns HR103_0.out x5_3 p104 q104
                    cases e104
                    replace hx104_0 := (HB.out.cell (zE w _ hx104_0)).trans hx104_0
                    replace hx104_1 := (HB.out.cell (zE w _ hx104_1)).trans hx104_1
                    replace hx104_2 := (HB.out.cell (zE w _ hx104_2)).trans hx104_2
                    replace hx104_3 := (HB.out.cell (zE w _ hx104_3)).trans hx104_3
                    replace hx104_4 := (HB.out.cell (zE w _ hx104_4)).trans hx104_4
                    replace hx104_5 := (HB.out.cell (zE w _ hx104_5)).trans hx104_5
                    have HR104_5 := zA hi104_5
                    have HC104_5 := zA hl104_5
                    clear hi104_5 hl104_5
                    replace p104 := eq_true p104
                    replace q104 := eq_true q104
                    have p105 : 0 ≤ (x4_1 : Int) := zB qA
                    have q105 : x4_1 < (l0.length : Int) := zB qA
                    obtain ⟨ad105, A105_0, c105_0, e105, hx105_0, hl105_0, hi105_0⟩ := at_LIns HR0.out x4_1 p105 q105
                    obtain rfl : ad101 = ad105 := (by injection e105)
                    replace hx105_0 := (HB.out.cell (zE w _ hx105_0)).trans hx105_0
                    have HR105_0 := zA hi105_0
                    have HC105_0 := zA hl105_0
                    clear hi105_0 hl105_0
                    replace p105 := eq_true p105
                    replace q105 := eq_true q105
                    have ea_ := zI (hx103_0.symm.trans hx105_0)
                    injection ea_ with ea_ en_ ec_
                    subst ea_
                    subst ec_
                    clear en_
                    have p106 : 0 ≤ (x5_3 : Int) := zB qA
                    have q106 : x5_3 < ((rd_LIns l0 x4_1).length : Int) := zB qA
                    obtain ⟨ad106, A106_5, c106_5, e106, hx106_0, hx106_1, hx106_2, hx106_3, hx106_4, hx106_5, hl106_5, hi106_5⟩ := at_TIns HR105_0.out x5_3 p106 q106
                    cases e106
                    replace hx106_0 := (HB.out.cell (zE w _ hx106_0)).trans hx106_0
                    replace hx106_1 := (HB.out.cell (zE w _ hx106_1)).trans hx106_1
                    replace hx106_2 := (HB.out.cell (zE w _ hx106_2)).trans hx106_2
                    replace hx106_3 := (HB.out.cell (zE w _ hx106_3)).trans hx106_3
                    replace hx106_4 := (HB.out.cell (zE w _ hx106_4)).trans hx106_4
                    replace hx106_5 := (HB.out.cell (zE w _ hx106_5)).trans hx106_5
                    have HR106_5 := zA hi106_5
                    have HC106_5 := zA hl106_5
                    clear hi106_5 hl106_5
                    replace p106 := eq_true p106
                    replace q106 := eq_true q106
                    go_wp2
                    go_roundg kj8
                    case measure => have := HK1.out; have := HJ2.out; have := HK3.out; have := HJ8.out; omega
                    case rel => exact ⟨(wrap64 (x5_3 + 1)), qT, H', ⟨by have := HK1.out; have := HJ2.out; have := HK3.out; have := HJ8.out; omega⟩, ⟨qB⟩⟩
                 ·rw [zD c17] at H
                  exact absurd H (by simp)
                ·rw [zD c16] at H
                 exact absurd H (by simp)
               ·rw [zD c15] at H
                exact absurd H (by simp)
              ·rw [zD c14] at H
               exact absurd H (by simp)
             ·replace c13 := Bool.eq_false_iff.mpr c13
              subst c13
              have H1 : (cubbylaw07_heavy.l0 kj8 l0 (wrap64 (x3_1 + (ji8))) (wrap64 (x4_1 + 1))) = some r := by rw [zD (show ¬ (false = true) by decide)] at H; exact H
              clear H
              have H := H1
              clear H1
              have H' := zA H
              clear H
              go_wp2
              go_roundg kj8
              case measure => have := HK1.out; have := HJ2.out; have := HK3.out; have := HJ8.out; omega
              case rel => exact ⟨((wrap64 (x3_1 + (ji8)))), (wrap64 (x4_1 + 1)), (by first | rfl | (simp; done) | (simp only [← hji8] <;> (first | rfl | simp)) | (simp [*]; done)), qT, H', ⟨by have := HK1.out; have := HJ2.out; have := HK3.out; have := HJ8.out; omega⟩, ⟨qB⟩⟩
        ·rw [zD c7] at H
         exact absurd H (by simp)
       ·rw [zD c6] at H
        exact absurd H (by simp)
      ·replace c5 := Bool.eq_false_iff.mpr c5
       subst c5
       have H1 : (some (decide (x3_1 > 500))) = some r := by rw [zD (show ¬ (false = true) by decide)] at H; exact H
       clear H
       have H := H1
       clear H1
       obtain rfl := zI H
       go_wp2
       go_ret
       exact ⟨qE, qB⟩
end Go.Proofs.YthidcafbhjahdaaDoor.Q
namespace Go.Proofs.YthidcafbhjahdaaDoor.Q
open Go.RowKit Go.Proofs.YthidcafbhjahdaaDoorW.PrintWords Go.Proofs.YthidcafbhjahdaaDoorW.PrintLast Go.Proofs.YthidcafbhjahdaaDoorW.PrintMore
set_option linter.unusedVariables false
set_option linter.unusedSimpArgs false
def spoil (regs nb : Int) (x : SIns) : SIns := if x.f0 = 12 then ⟨x.f0, x.f1, nb, x.f3, x.f4, x.f5⟩ else if x.f0 = 11 ∨ x.f0 = 1 then ⟨x.f0, regs, x.f2, x.f3, x.f4, x.f5⟩ else ⟨x.f0, x.f1, regs, x.f3, x.f4, x.f5⟩
def wantE (x : SIns) : Int := if x.f0 = 12 then 74 else 73
def SpoilOk (l : List (List SIns)) (i k : Int) : Prop := (l.length : Int) ≠ 0 ∧ 0 ≤ i ∧ i < (l.length : Int) ∧ ((rd_LIns l i).length : Int) ≠ 0 ∧ 0 ≤ k ∧ k < ((rd_LIns l i).length : Int) ∧ l.length ≤ 1000000 ∧ ∀ b ∈ l, b.length ≤ 1000000
instance (l : List (List SIns)) (i k : Int) : Decidable (SpoilOk l i k) := by unfold SpoilOk; infer_instance
def spot1 (l : List (List SIns)) (a1 : Int) : Int := Int.tmod (wrap64 a1) (l.length : Int)
def spot2 (l : List (List SIns)) (a1 a2 : Int) : Int := Int.tmod (wrap64 a2) ((rd_LIns l (Int.tmod (wrap64 a1) (l.length : Int))).length : Int)
def cubbylaw07_IrSpoilt.f (k : Nat) (a0_0 : ByteArray) (a0_1 : Int) (a0_2 : Int) (l0_3 : List (List SIns)) (a1 : Int) (a2 : Int) : Option Bool :=
 (cubbylaw07_heavy.f k l0_3).bind fun t1 => (if t1 = true then some true else (if (a0_0.size : Int) > 1024 then some true else
   (ir_Check.f k a0_0 a0_1 a0_2 l0_3).bind fun t2 => (cubbyref07_Check.f k a0_0 a0_1 a0_2 l0_3).bind fun t3 =>
   (if t2 = t3 then (if t2 = 0 then (if SpoilOk l0_3 (spot1 l0_3 a1) (spot2 l0_3 a1 a2) then
     (ir_Check.f k a0_0 a0_1 a0_2 (l0_3.set (spot1 l0_3 a1).toNat ((rd_LIns l0_3 (spot1 l0_3 a1)).set (spot2 l0_3 a1 a2).toNat (spoil a0_2 (l0_3.length : Int) (rd_TIns (rd_LIns l0_3 (spot1 l0_3 a1)) (spot2 l0_3 a1 a2)))))).bind fun t4 => some (t4 == wantE (rd_TIns (rd_LIns l0_3 (spot1 l0_3 a1)) (spot2 l0_3 a1 a2))) else none)
    else some true) else some false)))
def cubbylaw07_IrSpoilt.T15 : Bool × List (List Nat × List Nat) := (true, [([], []), ([0], [0]), ([], []), ([], []), ([3], [3]), ([], []), ([4, 5], [4, 5]), ([6], [6]), ([2, 7], [2, 7]), ([8], [8]), ([1, 9, 8], [1, 9]), ([0, 1, 2, 3, 4, 5, 6, 7, 8, 9, 10], []), ([11, 10, 10, 0, 1, 2, 3, 4, 5, 6, 7, 8, 9, 10], [10, 11])])
def cubbylaw07_IrSpoilt.B15 : List Nat := [0, 1, 0, 0, 8, 0, 56, 120, 252, 508, 1023, 2047, 4095]
theorem cubbylaw07_IrSpoilt.tab15 : rtab .any (opsOf Tryd.f3 15) = cubbylaw07_IrSpoilt.T15 := by kernel_rfl
theorem cubbylaw07_IrSpoilt.bits15 : waitsOk cubbylaw07_IrSpoilt.T15.2 cubbylaw07_IrSpoilt.B15 = true := by kernel_rfl
def cubbylaw07_IrSpoilt.T27 : Bool × List (List Nat × List Nat) := (true, [([], []), ([0], [0]), ([], []), ([1, 2], [1, 2]), ([3], [3]), ([], []), ([], []), ([4, 5, 0, 1, 2, 3, 4, 5, 6], [4, 5]), ([7, 6, 0, 1, 2, 3, 4, 5, 6], [6, 7])])
def cubbylaw07_IrSpoilt.B27 : List Nat := [0, 1, 0, 7, 15, 0, 0, 127, 255]
theorem cubbylaw07_IrSpoilt.tab27 : rtab .any (opsOf Tryd.f3 27) = cubbylaw07_IrSpoilt.T27 := by kernel_rfl
theorem cubbylaw07_IrSpoilt.bits27 : waitsOk cubbylaw07_IrSpoilt.T27.2 cubbylaw07_IrSpoilt.B27 = true := by kernel_rfl
structure Blk (P : Prop) : Prop where
 out : P
structure SpoSt (w0 w : World) (gf gg : Nat) (cf : Array Value) (nm : ByteArray) (pp rg : Int) (vG : Value) (rows : List (List (List Value))) : Prop where
 bf : w.heap[gf]? = some (.cells cf 24 (0, 0))
 bg : w.heap[gg]? = some (.cells #[.string nm, .int .i64 pp, .int .i64 rg, vG] 24 (0, 0))
 hs : Kd.S (Kd.slice 31 (Kd.raw 6)) 28 w w0.heap.size (fun _ => True) vG rows
 hB : Below w0.heap.size w0 w
 hg : w0.heap.size ≤ gg ∧ w0.heap.size ≤ gf ∧ gf ≠ gg
theorem SpoSt.below {w0 w w1 : World} {gf gg : Nat} {cf : Array Value} {nm : ByteArray} {pp rg : Int} {vG : Value} {rows : List (List (List Value))} (h : SpoSt w0 w gf gg cf nm pp rg vG rows) (hb : Below w.heap.size w w1) : SpoSt w0 w1 gf gg cf nm pp rg vG rows :=
 ⟨blk_below h.bf hb, blk_below h.bg hb, Kd.S_below h.hs hb, below_step h.hB hb, h.hg⟩
def insCells (x : SIns) (A5 : Option Addr) (c5 : Nat) : List Value := [.int .i64 x.f0, .int .i64 x.f1, .int .i64 x.f2, .int .i64 x.f3, .string x.f4, .slice A5 x.f5.length c5]
theorem SpoSt.spot {w0 w : World} {gf gg : Nat} {cf : Array Value} {nm : ByteArray} {pp rg : Int} {vG : Value} {rows : List (List (List Value))} {l : List (List SIns)} (h : SpoSt w0 w gf gg cf nm pp rg vG rows) (hy : SaysAll kIns w0 l rows)
 (i j : Int) (i0 : 0 ≤ i) (i1 : i < (l.length : Int)) (j0 : 0 ≤ j) (j1 : j < ((rd_LIns l i).length : Int)) :
 ∃ (gv cG gi ci : Nat) (A5 : Option Addr) (c5 : Nat), vG = .slice (some ⟨gv, 0, none⟩) l.length cG ∧ w.cell? ⟨gv, i.toNat, none⟩ = some (.slice (some ⟨gi, 0, none⟩) (rd_LIns l i).length ci) ∧
  (∀ (m : Nat) (u : Value), (insCells (rd_TIns (rd_LIns l i) j) A5 c5)[m]? = some u → w.cell? ⟨gi, j.toNat * 6 + m, none⟩ = some u) ∧ (∀ m, w.frozen? ⟨gi, j.toNat * 6 + m, none⟩ = false) ∧
  (rd_TIns (rd_LIns l i) j).f5.length ≤ c5 ∧ (Kd.int .i64).C w0 A5 (rd_TIns (rd_LIns l i) j).f5.length (rd_TIns (rd_LIns l i) j).f5 ∧
  ∀ (x' : SIns) (cs' : List Value), kIns.K w0 x' cs' → ∃ rows', SpoSt w0 (w.setCells gi (j.toNat * 6) cs') gf gg cf nm pp rg vG rows' ∧ SaysAll kIns w0 (l.set i.toNat ((rd_LIns l i).set j.toNat x')) rows' := by
 have hrl := hy.len
 have hil : i.toNat < l.length := by omega
 obtain ⟨gv, cG, ev, -⟩ := Kd.S_form h.hs (by omega)
 rw [hrl] at ev
 subst ev
 obtain ⟨oki, c, hcl, ⟨v, rfl, hR⟩, hcc, hoki, hback⟩ := Kd.S_borrow h.hs ([] : List (List Value)) i i0 i1
 have hcell := hcc 0 v rfl
 rw [add_at] at hcell
 have hri : rows[i.toNat]? = some (rows.getD i.toNat []) := by rw [List.getD_eq_getElem?_getD, List.getElem?_eq_getElem (by omega), Option.getD_some]
 have hli : l[i.toNat]? = some (rd_LIns l i) := by unfold rd_LIns; rw [List.getD_eq_getElem?_getD, List.getElem?_eq_getElem (by omega), Option.getD_some]
 have hs := hy.at_ i.toNat _ _ hli hri
 generalize rows.getD i.toNat [] = ri at hR hri hs hback
 have hrj := hs.len
 have hjl : j.toNat < ri.length := by omega
 obtain ⟨gi, ci, ev, -⟩ := Kd.R_form hR (by omega)
 subst ev
 obtain ⟨cj, hcjl, hM, hccj, hfr⟩ := Kd.R_elem hR ([] : List Value) j j0 (by omega)
 have hrij : ri[j.toNat]? = some (ri.getD j.toNat []) := by rw [List.getD_eq_getElem?_getD, List.getElem?_eq_getElem (by omega), Option.getD_some]
 have hlj : (rd_LIns l i)[j.toNat]? = some (rd_TIns (rd_LIns l i) j) := by unfold rd_TIns; rw [List.getD_eq_getElem?_getD, List.getElem?_eq_getElem (by omega), Option.getD_some]
 have hK := hs.at_ j.toNat _ _ hlj hrij
 rw [← hM.1] at hK
 obtain ⟨A5, c5, ec, h5, g5⟩ := kIns_open hK
 subst ec
 refine ⟨gv, cG, gi, ci, A5, c5, rfl, ?_, fun m u hu => hccj m u hu, fun m => hfr m, h5, g5, fun x' cs' hx' => ?_⟩
 ·have e_ : 0 + (i.toNat * 1 + 0) = i.toNat := by omega
  have hcell' : w.cell? ⟨gv, 0 + (i.toNat * 1 + 0), none⟩ = _ := hcell
  rw [e_, hrj] at hcell'
  exact hcell'
 ·have hl6 : cs'.length = 6 := kIns.K_len hx'
  have hseg : List.take 0 (insCells (rd_TIns (rd_LIns l i) j) A5 c5) ++ cs' ++ List.drop (0 + cs'.length) (insCells (rd_TIns (rd_LIns l i) j) A5 c5) = cs' := by rw [hl6]; simp [insCells]
  obtain ⟨hR', hg⟩ := Kd.R_seg hR j j0 (by omega) (c := insCells (rd_TIns (rd_LIns l i) j) A5 c5) (seg := cs') (j := 0) (x' := cs') (okp := fun _ => False) hcjl hccj (by rw [hl6]; exact Nat.le_refl 6) ⟨hseg, by rw [hseg]; exact hl6, by rw [hseg]; exact kIns.K_one hx'⟩ (fun _ hk => hk.elim)
  rw [Nat.add_zero] at hR' hg
  have hg' : w.grownBy (w.setCells gi (j.toNat * 6) cs') (some gi) := hg
  have ho : (Value.slice (some ⟨gi, 0, none⟩) ri.length ci).ownBlock = some gi := by simp [Value.ownBlock]
  have hlt := Kd.R_lt hR gi ho
  refine ⟨rows.set i.toNat (ri.set j.toNat cs'), ⟨?_, ?_, ?_, ?_, h.hg⟩, hy.set _ (hs.set _ hx')⟩
  ·exact (hg'.block gf (blk_lt h.bf) (fun e => Kd.R_ne hR h.bf (by decide) (e.trans ho.symm))).trans h.bf
  ·exact (hg'.block gg (blk_lt h.bg) (fun e => Kd.R_ne hR h.bg (by decide) (e.trans ho.symm))).trans h.bg
  ·refine hback hg' (fun k hk => ?_) ⟨_, rfl, hR'⟩
   injection hk with hk
   subst hk
   exact hR.1 _ ho
  ·exact h.hB.grown hg' (below_size h.hB) (fun k hk => by injection hk with hk; subst hk; exact Kd.R_base hR _ ho)
set_option maxHeartbeats 8000000 in
set_option maxRecDepth 100000 in
theorem cubbylaw07_IrSpoilt.calls (k : Nat) (a0_0 : ByteArray) (a0_1 : Int) (a0_2 : Int) (A0_3 : Option Addr) (c0_3 : Nat) (l0_3 : List (List (SIns))) (a1 : Int) (a2 : Int) (r : Bool) (w : World) (hL : LaidW w) (hr0_3 : Kd.C (Kd.slice 31 kIns) w A0_3 l0_3.length l0_3) (hc0_3 : l0_3.length ≤ c0_3) (h : cubbylaw07_IrSpoilt.f k a0_0 a0_1 a0_2 l0_3 a1 a2 = some r) :
 Calls Tryd.prog 3 #[.agg #[.string a0_0, .int .i64 a0_1, .int .i64 a0_2, .slice A0_3 l0_3.length c0_3], .int .u8 a1, .int .u8 a2] w fun e w' => e = .returned (.bool r) ∧ Below w.heap.size w w' := by
 have HR := zA hr0_3
 have HC := zA hc0_3
 have HLd := zA hL
 have HB := zA (Below.refl w.heap.size w)
 have H := h
 clear hr0_3 hc0_3 h hL
 unfold cubbylaw07_IrSpoilt.f at H
 replace H := qb H; obtain ⟨t1, A1, H⟩ := H
 have hu24 := Tryd.underlying24
 have hu31 := Tryd.underlying31
 go_enter Tryd.func3, Tryd.ntmps3
 go_wp2_with (first
  | ((with_reducible refine gate_dst (N := 3) rfl ?_); refine box_event (by rfl) (N := 3) (by rfl) (cs := #[.string a0_0, .int .i64 a0_1, .int .i64 a0_2, .slice A0_3 l0_3.length c0_3]) (t := 24) ?hr ?_; (case hr => go_simp <;> rfl); intro gf hg w1 hbox hb; have GF := zA (Nat.le_of_eq hg.symm); have BF := zA hbox; replace HB := zA (below_step HB.out hb); clear hb hbox hg; have z1 := bk4 BF.out)
  | ((with_reducible refine gate_callee (f := 5) rfl ?_); refine goesL_ (some 17) rfl rfl Tryd.func5 (by kernel_rfl) rfl #[.slice A0_3 l0_3.length c0_3] rfl qL ?_; (with_reducible refine (cubbylaw07_heavy.calls k _ _ l0_3 t1 _ ?side1 ?side2 A1.out).mono ?_); (case side1 => exact Kd.C_below HR.out HB.out); (case side2 => exact HC.out); rintro e w2 ⟨rfl, hb⟩; refine ⟨_, rfl, ?_⟩; replace HB := zA (below_step HB.out hb); replace BF := zA (blk_below BF.out hb); clear z1 hb A1; have z1 := bk4 BF.out; refine Blk.out ?_))
 refine Blk.mk ?_
 cases t1 with
 | true =>
  rw [zC rfl] at H
  cases H
  go_wp2_with fail
  go_ret
  exact ⟨rfl, HB.out⟩
 | false =>
  rw [zD Bool.false_ne_true] at H
  by_cases c2 : (a0_0.size : Int) > 1024
  ·rw [zC c2] at H
   cases H
   have c2b0 : decide ((1024 : Int) < (a0_0.size : Int)) = true := zF c2
   go_wp2_with fail
   go_ret
   exact ⟨rfl, HB.out⟩
  ·rw [zD c2] at H
   have c2b0 : decide ((1024 : Int) < (a0_0.size : Int)) = false := zG c2
   replace H := qb H; obtain ⟨t2, A2, H⟩ := H
   replace H := qb H; obtain ⟨t3, A3, H⟩ := H
   go_wp2_with (first
    | ((with_reducible refine gate_callee (f := 6) rfl ?_); refine goesL_ (some 25) rfl rfl Tryd.func6 (by kernel_rfl) rfl #[.agg #[.string a0_0, .int .i64 a0_1, .int .i64 a0_2, .slice A0_3 l0_3.length c0_3]] rfl qL ?_; (with_reducible refine (ir_Check.calls k a0_0 a0_1 a0_2 _ _ l0_3 t2 _ ?side0 ?side1 ?side2 A2.out).mono ?_); (case side0 => exact HLd.out.below HB.out); (case side1 => exact Kd.C_below HR.out HB.out); (case side2 => exact HC.out); rintro e w3 ⟨rfl, hb⟩; refine ⟨_, rfl, ?_⟩; replace HB := zA (below_step HB.out hb); replace BF := zA (blk_below BF.out hb); clear z1 hb A2; have z1 := bk4 BF.out)
    | ((with_reducible refine gate_callee (f := 7) rfl ?_); refine goesL_ (some 28) rfl rfl Tryd.func7 (by kernel_rfl) rfl #[.agg #[.string a0_0, .int .i64 a0_1, .int .i64 a0_2, .slice A0_3 l0_3.length c0_3]] rfl qL ?_; (with_reducible refine (cubbyref07_Check.calls k a0_0 a0_1 a0_2 _ _ l0_3 t3 _ ?side1 ?side2 A3.out).mono ?_); (case side1 => exact Kd.C_below HR.out HB.out); (case side2 => exact HC.out); rintro e w4 ⟨rfl, hb⟩; refine ⟨_, rfl, ?_⟩; replace HB := zA (below_step HB.out hb); replace BF := zA (blk_below BF.out hb); clear z1 hb A3; have z1 := bk4 BF.out; refine Blk.out ?_))
   refine Blk.mk ?_
   by_cases c3 : t2 = t3
   case neg =>
    rw [zD c3] at H
    cases H
    obtain ⟨c3b0, c3b1⟩ := qn c3
    go_wp2_with fail
    go_ret
    exact ⟨rfl, HB.out⟩
   rw [zC c3] at H
   obtain ⟨c3b0, c3b1⟩ := qe c3
   by_cases c4 : t2 = 0
   case neg =>
    rw [zD c4] at H
    cases H
    obtain ⟨c4b0, c4b1⟩ := qn c4
    go_wp2_with fail
    go_ret
    exact ⟨rfl, HB.out⟩
   rw [zC c4] at H
   obtain ⟨c4b0, c4b1⟩ := qe c4
   by_cases c5 : SpoilOk l0_3 (spot1 l0_3 a1) (spot2 l0_3 a1 a2)
   case neg =>
    rw [zD c5] at H
    exact absurd H (by simp)
   rw [zC c5] at H
   obtain ⟨n0, i0, i1, n1, k0, k1, L1, L2⟩ := c5
   replace H := qb H; obtain ⟨t4, A4, H⟩ := H
   replace H := zI H
   have n0b := (qn n0)
   have n1b := (qn n1)
   simp only [spot1, spot2] at i0 i1 n1 k0 k1 n1b A4 H
   obtain ⟨adr, Ab, cb, ea, hx, hlb, hib⟩ := at_LIns HR.out _ i0 i1
   cases ea
   replace hx := (HB.out.cell (zE w _ hx)).trans hx
   go_wp2_with (first
    | ((with_reducible refine gate_dst (N := 10) rfl ?_); refine box_event (by rfl) (N := 10) (by rfl) (cs := #[.string (⟨#[]⟩ : ByteArray), .int .i64 0, .int .i64 0, .slice none 0 0]) (t := 24) ?hr ?_; (case hr => go_simp <;> rfl); intro gg hg w5 hbox_ hb_; have hbox := zA hbox_; have hb := zA hb_; have HG := zA (Nat.le_of_eq hg.symm); clear hbox_ hb_ hg; have z5 := bk4 hbox.out))
   generalize Int.tmod (wrap64 a1) (l0_3.length : Int) = i at i0 i1 n1 n1b k0 k1 A4 H hx hlb hib ⊢
   generalize Int.tmod (wrap64 a2) ((rd_LIns l0_3 i).length : Int) = j at k0 k1 A4 H ⊢
   generalize hw : ((((w5.setCell ⟨gg, 0, none⟩ (.string a0_0)).setCell ⟨gg, 1, none⟩ (.int .i64 a0_1)).setCell ⟨gg, 2, none⟩ (.int .i64 a0_2)).setCell ⟨gg, 3, none⟩ (.slice none 0 0)) = w6
   have HS := zA (show SpoSt w w6 gf gg #[.string a0_0, .int .i64 a0_1, .int .i64 a0_2, .slice (some adr) l0_3.length c0_3] a0_0 a0_1 a0_2 (.slice none 0 0) [] by
    have hgx := HG.out
    have hlt := HB.out.1
    have hbl := show Below _ _ w6 by rw [← hw]; exact (below_set (below_set (below_set (below_set hb.out hgx) hgx) hgx) hgx)
    refine ⟨blk_below BF.out hbl, ?_, Kd.S_nil _ _ _ _ _, below_step HB.out hbl, Nat.le_trans (below_size HB.out) hgx, GF.out, fun e => ?_⟩
    ·rw [← hw]; exact blk_put (blk_put (blk_put (blk_put hbox.out 0 _ rfl) 1 _ rfl) 2 _ rfl) 3 _ rfl
    ·have := blk_lt BF.out; omega)
   clear hw hbox hb HG z5 z1 BF HB GF hx hlb hib n0b n1b
   have H' := zA H
   clear H
   go_loopg [11] l0_3.length (fun kq v11 w' => ∃ (n : Nat) (vG : Value) (rows : List (List (List Value))), v11 = .int .i64 (n : Int) ∧ Aside0 (kq + n = l0_3.length) ∧ Aside0 (SaysAll kIns w (l0_3.take n) rows) ∧ Aside0 (SpoSt w w' gf gg #[.string a0_0, .int .i64 a0_1, .int .i64 a0_2, .slice (some adr) l0_3.length c0_3] a0_0 a0_1 a0_2 vG rows))
   case atStart => exact ⟨0, _, [], by first | rfl | simp, ⟨by omega⟩, ⟨by rw [List.take_zero]; exact SaysAll.nil _ _⟩, HS⟩
   case round =>
    clear HS
    obtain ⟨n, vG, rows, rfl, HK, HY, HS⟩ := hrel
    have z1 := bk4 HS.out.bf
    cases gk with
    | zero =>
     have d1 : ¬ ((n : Int) < (l0_3.length : Int)) := by have := HK.out; omega
     have d1b := zG d1
     have hn : n = l0_3.length := by have := HK.out; omega
     subst hn
     replace HY := zA (by have h_ := HY.out; rwa [List.take_length] at h_ : SaysAll kIns w l0_3 rows)
     have hll : rows.length = l0_3.length := HY.out.len
     obtain ⟨gv, cG, gi, ci, A5, c5, eG, hc1, hc2, hfz, h5, g5, -⟩ := HS.out.spot HY.out i j i0 i1 k0 k1
     subst eG
     generalize hxx : rd_TIns (rd_LIns l0_3 i) j = x at A4 H' hc2 h5 g5
     obtain ⟨x0, x1, x2, x3, x4, x5⟩ := x
     dsimp only at h5 g5
     have y0 := hc2 0 _ rfl
     have y1 := hc2 1 _ rfl
     have y2 := hc2 2 _ rfl
     have y3 := hc2 3 _ rfl
     have y4 := hc2 4 _ rfl
     have y5 := hc2 5 _ rfl
     dsimp only [Nat.add_zero] at y0 y1 y2 y3 y4 y5
     have z2 := bk4 HS.out.bg
     clear hc2 hfz
     go_upto_block 2 with (first
      | ((with_reducible refine gate_dst (N := 13) rfl ?_); refine box_event (by rfl) (N := 13) (by rfl) (cs := #[.int .i64 0, .int .i64 0, .int .i64 0, .int .i64 0, .string (⟨#[]⟩ : ByteArray), .slice none 0 0]) (t := 31) ?hr ?_; (case hr => go_simp <;> rfl); intro gx hg w7 hbox_ hb_; have hbox := zA hbox_; have hb := zA hb_; have HG := zA (Nat.le_of_eq hg.symm); clear hbox_ hb_ hg y0 y1 y2 y3 y4 y5 z1 z2 hc1; have z5 := bk6 hbox.out))
     generalize hw : ((((((w7.setCell ⟨gx, 0, none⟩ (.int .i64 x0)).setCell ⟨gx, 1, none⟩ (.int .i64 x1)).setCell ⟨gx, 2, none⟩ (.int .i64 x2)).setCell ⟨gx, 3, none⟩ (.int .i64 x3)).setCell ⟨gx, 4, none⟩ (.string x4)).setCell ⟨gx, 5, none⟩ (.slice A5 x5.length c5)) = w8
     have hgx := HG.out
     have BX := zA (show w8.heap[gx]? = some (.cells #[.int .i64 x0, .int .i64 x1, .int .i64 x2, .int .i64 x3, .string x4, .slice A5 x5.length c5] 31 (0, 0)) by rw [← hw]; exact (blk_put (blk_put (blk_put (blk_put (blk_put (blk_put hbox.out 0 _ rfl) 1 _ rfl) 2 _ rfl) 3 _ rfl) 4 _ rfl) 5 _ rfl))
     have hbl : Below wr.heap.size wr w8 := by rw [← hw]; exact (below_set (below_set (below_set (below_set (below_set (below_set hb.out hgx) hgx) hgx) hgx) hgx) hgx)
     have HX := zA (show w.heap.size ≤ gx from Nat.le_trans (below_size HS.out.hB) hgx)
     have hgf : gf ≠ gx := by have := blk_lt HS.out.bf; omega
     have hgg : gg ≠ gx := by have := blk_lt HS.out.bg; omega
     have HN := zA (And.intro hgf hgg)
     have HX2 := zA (Kd.S_below (Kd.S_elderB HS.out.hs gx hgx) hbl)
     replace HS := zA (HS.out.below hbl)
     clear hbl hw z5 hgx HG hbox hb hgf hgg
     have z1 := bk4 HS.out.bf
     have z6 := bk6 BX.out
     have hset : ∀ (m : Nat) (u : Value), SpoSt w (w8.setCell ⟨gx, m, none⟩ u) gf gg #[.string a0_0, .int .i64 a0_1, .int .i64 a0_2, .slice (some adr) l0_3.length c0_3] a0_0 a0_1 a0_2 (.slice (some ⟨gv, 0, none⟩) l0_3.length cG) rows := fun m u =>
      ⟨blk_far HS.out.bf (fun e => HN.out.1 e) _, blk_far HS.out.bg (fun e => HN.out.2 e) _, Kd.S_mono (Kd.S_far (p := ⟨gx, m, none⟩) HX2.out (fun _ hk => hk.2) u) (fun _ _ => trivial), below_set HS.out.hB HX.out, HS.out.hg⟩
     have HP := zA hset
     clear hset HX2
     go_cut [14] (fun v14 wc => v14 = .int .i64 (wantE ⟨x0, x1, x2, x3, x4, x5⟩) ∧ Aside0 (SpoSt w wc gf gg #[.string a0_0, .int .i64 a0_1, .int .i64 a0_2, .slice (some adr) l0_3.length c0_3] a0_0 a0_1 a0_2 (.slice (some ⟨gv, 0, none⟩) l0_3.length cG) rows) ∧ Aside0 (wc.heap[gx]? = some (.cells (insCells (spoil a0_2 (l0_3.length : Int) ⟨x0, x1, x2, x3, x4, x5⟩) A5 c5).toArray 31 (0, 0))))
     case first =>
      by_cases e12 : x0 = 12
      ·subst e12
       go_wp2_with fail
       go_meet
       case rel => exact ⟨by rfl, ⟨HP.out _ _⟩, ⟨blk_put BX.out 2 _ rfl⟩⟩
      ·obtain ⟨q1, q2⟩ := qn e12
       by_cases e11 : x0 = 11
       ·subst e11
        go_wp2_with fail
        go_meet
        case rel => exact ⟨by rfl, ⟨HP.out _ _⟩, ⟨blk_put BX.out 1 _ rfl⟩⟩
       ·obtain ⟨q3, q4⟩ := qn e11
        by_cases e1 : x0 = 1
        ·subst e1
         go_wp2_with fail
         go_meet
         case rel => exact ⟨by rfl, ⟨HP.out _ _⟩, ⟨blk_put BX.out 1 _ rfl⟩⟩
        ·obtain ⟨q5, q6⟩ := qn e1
         go_wp2_with fail
         go_meet
         case rel => exact ⟨by unfold wantE; simp only [zD e12], ⟨HP.out _ _⟩, ⟨by unfold spoil; simp only [zD e12, zD (show ¬ (x0 = 11 ∨ x0 = 1) by omega)]; exact blk_put BX.out 2 _ rfl⟩⟩
     case rest =>
      clear HS BX HP z1 z6
      obtain ⟨rfl, HS, BX⟩ := hcut
      go_upto_region 27 with fail
      obtain ⟨x', hx'⟩ : ∃ x' : SIns, spoil a0_2 (l0_3.length : Int) ⟨x0, x1, x2, x3, x4, x5⟩ = x' := ⟨_, rfl⟩
      have hf5 : x'.f5 = x5 := by rw [← hx']; unfold spoil; split <;> (try split) <;> rfl
      rw [hx'] at BX A4
      have hK : kIns.K w x' (insCells x' A5 c5) := kIns_mk w x' (by rw [hf5]; exact h5) (by rw [hf5]; exact g5)
      have BX := zA (show wc.heap[gx]? = some (.cells #[.int .i64 x'.f0, .int .i64 x'.f1, .int .i64 x'.f2, .int .i64 x'.f3, .string x'.f4, .slice A5 x'.f5.length c5] 31 (0, 0)) from BX.out)
      have n0_ := zA (blk_drew BX.out)
      have n1_ := zA (HS.out.below (below_drew (Below.refl _ _)))
      obtain ⟨gv2, cG2, gi2, ci2, A6, c6, eG2, hc1, hc2, hfz, -, -, hback⟩ := n1_.out.spot HY.out i j i0 i1 k0 k1
      cases eG2
      have q0 := hc2 0 _ rfl
      have q1 := hc2 1 _ rfl
      have q2 := hc2 2 _ rfl
      have q3 := hc2 3 _ rfl
      have q4 := hc2 4 _ rfl
      have q5 := hc2 5 _ rfl
      rw [Nat.add_zero] at q0
      clear hc2 BX HS
      obtain ⟨rows', HS2, HY2⟩ := hback x' _ hK
      clear hback
      refine start_ (n := 9) (S := fun w' => w'.cell? ⟨gg, 3, none⟩ = some (.slice (some ⟨gv, 0, none⟩) l0_3.length cG) ∧ w'.cell? ⟨gv, i.toNat, none⟩ = some (.slice (some ⟨gi2, 0, none⟩) (rd_LIns l0_3 i).length ci2) ∧ w'.cell? ⟨gx, 0, none⟩ = some (.int .i64 x'.f0) ∧ w'.cell? ⟨gx, 1, none⟩ = some (.int .i64 x'.f1) ∧ w'.cell? ⟨gx, 2, none⟩ = some (.int .i64 x'.f2) ∧ w'.cell? ⟨gx, 3, none⟩ = some (.int .i64 x'.f3) ∧ w'.cell? ⟨gx, 4, none⟩ = some (.string x'.f4) ∧ w'.cell? ⟨gx, 5, none⟩ = some (.slice A5 x'.f5.length c5)) (ds := [8]) (bA 9 0) (by kernel_rfl) rfl rfl ⟨(blk_cell n1_.out.bg 3).trans rfl, hc1, (blk_cell n0_.out 0).trans rfl, (blk_cell n0_.out 1).trans rfl, (blk_cell n0_.out 2).trans rfl, (blk_cell n0_.out 3).trans rfl, (blk_cell n0_.out 4).trans rfl, (blk_cell n0_.out 5).trans rfl⟩ (fun hHeld => ?_); refine with_tabW cubbylaw07_IrSpoilt.tab27 cubbylaw07_IrSpoilt.bits27 (fun HT_ HW_ => ?_)
      generalize wc.drew = w10 at n0_ n1_ hHeld hc1 hfz HS2 q0 q1 q2 q3 q4 q5 ⊢
      refine pu_ (i := 0) (N := some 99) (bA 9 1) ?_
      refine tk_ (i := 1) (N := some 100) (bA 9 3) ?_
      refine pu_ (i := 2) (N := some 101) (bA 9 7) ?_
      refine pu_ (i := 3) (N := some 102) (bA 9 15) ?_
      refine tk_ (i := 4) (N := some 103) (bA 9 31) ?_
      refine pu_ (i := 5) (N := some 104) (bA 9 63) ?_
      refine tk_ (i := 6) (N := some 105) (bA 9 127) ?_
      refine pu_ (i := 7) (N := some 106) (bA 9 255) ?_
      refine last_ (i := 8) (N := none) (bA 9 511) rfl rfl (one_of HT_.out (by kernel_rfl)) (by decide) (fun K hK => ?_)
      have f0 := hfz 0
      have f1 := hfz 1
      have f2 := hfz 2
      have f3 := hfz 3
      have f4 := hfz 4
      have f5 := hfz 5
      rw [Nat.add_zero] at f0
      refine skip_ (w1 := ?_) (by rfl) rfl ?_ ?_
      rotate_left
      ·go_simp
       rfl
      refine hK.out _ _ ?_
      clear hK K
      refine done_ (done_of HT_.out (by kernel_rfl)) ?_
      generalize hw : ((((((w10.setCell ⟨gi2, j.toNat * 6, none⟩ (.int .i64 x'.f0)).setCell ⟨gi2, j.toNat * 6 + 1, none⟩ (.int .i64 x'.f1)).setCell ⟨gi2, j.toNat * 6 + 2, none⟩ (.int .i64 x'.f2)).setCell ⟨gi2, j.toNat * 6 + 3, none⟩ (.int .i64 x'.f3)).setCell ⟨gi2, j.toNat * 6 + 4, none⟩ (.string x'.f4)).setCell ⟨gi2, j.toNat * 6 + 5, none⟩ (.slice A5 x5.length c5)) = w11
      have e_ : w10.setCells gi2 (j.toNat * 6) (insCells x' A5 c5) = w11 := by rw [← hw]; unfold insCells; rw [hf5]; simp only [World.setCells, Nat.add_assoc, Nat.reduceAdd]
      have HS3 := zA (show SpoSt w w11 gf gg #[.string a0_0, .int .i64 a0_1, .int .i64 a0_2, .slice (some adr) l0_3.length c0_3] a0_0 a0_1 a0_2 (.slice (some ⟨gv, 0, none⟩) l0_3.length cG) rows' by rw [← e_]; exact HS2)
      clear hw e_ HS2 hHeld n0_ n1_ hc1 hfz q0 q1 q2 q3 q4 q5 f0 f1 f2 f3 f4 f5
      have z2 := bk4 HS3.out.bg
      obtain ⟨l', hl'⟩ : ∃ l', l0_3.set i.toNat ((rd_LIns l0_3 i).set j.toNat x') = l' := ⟨_, rfl⟩
      rw [hl'] at A4 HY2
      have hll : l'.length = l0_3.length := by rw [← hl', List.length_set]
      have hC := HY2.read HS3.out.hB (Kd.S_reads' HS3.out.hs).2.2
      rw [HY2.len] at hC
      have hcall := zA (ir_Check.calls k a0_0 a0_1 a0_2 (some ⟨gv, 0, none⟩) cG l' t4 w11 (HLd.out.below HS3.out.hB) hC (by rw [hll]; exact (Kd.S_reads' HS3.out.hs).2.1) A4.out)
      clear hC
      rw [hll] at hcall
      go_wp2_with ((with_reducible refine gate_callee (f := 6) rfl ?_); refine goesL_ (some 108) rfl rfl Tryd.func6 (by kernel_rfl) rfl #[.agg #[.string a0_0, .int .i64 a0_1, .int .i64 a0_2, .slice (some ⟨gv, 0, none⟩) l0_3.length cG]] rfl qL ?_; (with_reducible refine hcall.out.mono ?_); rintro e w12 ⟨rfl, hb⟩; refine ⟨_, rfl, ?_⟩; have HB := zA (below_step HS3.out.hB hb); clear hb hcall HS3 z2; refine Blk.out ?_)
      refine Blk.mk ?_
      go_wp2_with fail
      go_ret
      exact ⟨by rw [← H'.out]; rfl, HB.out⟩
    | succ k1 =>
     have d1 : ((n : Int) < (l0_3.length : Int)) := by have := HK.out; omega
     have d1b := zF d1
     obtain ⟨adn, An, cn, en, hxn, hln, hin⟩ := at_LIns HR.out (n : Int) (by omega) (by omega)
     cases en
     rw [Int.toNat_natCast] at hxn
     have hnb : (rd_LIns l0_3 (n : Int)).length ≤ 1000000 := L2 _ (by unfold rd_LIns; rw [Int.toNat_natCast, List.getD_eq_getElem?_getD, List.getElem?_eq_getElem (by omega : n < l0_3.length), Option.getD_some]; exact List.getElem_mem _)
     go_wp2_with (first
      | ((with_reducible refine gate_dst (N := 61) rfl ?_); refine Kd.R_lit (Kd.raw 6) _ 31 (by rfl) (N := 61) (by rfl) (xs := ([] : List (List Value))) (inner := []) (ok := fun _ => True) (okp := fun _ => True) ?hr ?hp (fun _ hk => hk) trivial (Below.refl _ _) (Nat.le_refl _) (by simp) ?_; (case hr => go_simp <;> rfl); (case hp => exact (Reps.none _ _)); intro v12 w7 ho_ hb_ hg_ hnew_; have ho := zA ho_; have hb := zA hb_; clear ho_ hb_ hg_ hnew_ z1))
     have n0_ := zA (Kd.R_drew ho.out)
     have n1_ := zA (below_drew hb.out)
     obtain ⟨rn, HSn, hrn⟩ := Says.of_reads hin (below_step HS.out.hB n1_.out)
     have n2_ := zA (HS.out.below n1_.out)
     have hxm := (n2_.out.hB.cell (zE w _ hxn)).trans hxn
     clear ho hb
     refine start_ (n := 13) (S := fun w' => w'.cell? ⟨gg, 3, none⟩ = some vG ∧ w'.cell? ⟨gf, 3, none⟩ = some (.slice (some adr) l0_3.length c0_3) ∧ w'.cell? (adr.add n) = some (.slice An (rd_LIns l0_3 (n : Int)).length cn)) (ds := [12]) (bA 13 0) (by kernel_rfl) rfl rfl ⟨(blk_cell n2_.out.bg 3).trans rfl, (blk_cell n2_.out.bf 3).trans rfl, hxm⟩ (fun hHeld => ?_); refine with_tabW cubbylaw07_IrSpoilt.tab15 cubbylaw07_IrSpoilt.bits15 (fun HT_ HW_ => ?_)
     generalize w7.drew = w8 at n0_ n1_ n2_ hHeld hxm hrn ⊢
     refine pu_ (i := 0) (N := some 62) (bA 13 1) ?_
     refine tk_ (i := 1) (N := some 63) (bA 13 3) ?_
     refine pu_ (i := 2) (N := some 64) (bA 13 7) ?_
     refine pu_ (i := 3) (N := some 65) (bA 13 15) ?_
     refine tk_ (i := 4) (N := some 66) (bA 13 31) ?_
     refine pu_ (i := 5) (N := some 67) (bA 13 63) ?_
     refine pu_ (i := 6) (N := some 68) (bA 13 127) ?_
     refine tk_ (i := 7) (N := some 69) (bA 13 255) ?_
     refine one_ (i := 8) (N := some 70) (bA 13 511) rfl rfl (one_of HT_.out (by kernel_rfl)) (by decide) (fun K hK => ?_)
     refine Kd.R_append_rows_step (Kd.raw 6) (w0 := wr) wr.heap.size (by rfl) (.tmp 64) (.tmp 69) 28 31 (.agg #[(.int .i64 0), (.int .i64 0), (.int .i64 0), (.int .i64 0), (.string ⟨#[]⟩), (.slice none 0 0)]) 72 rfl Tryd.underlying28 info31 rfl (by decide) (by omega) v12 ([] : List (List Value)) rn An (rd_LIns l0_3 (n : Int)).length cn (fun _ => True) (fun _ => False) rfl rfl n0_.out hrn (fun _ _ h => h) (fun _ h => h.elim) (fun _ _ => trivial) n1_.out (below_size n1_.out) (by simp only [List.length_nil]; omega) ?_
     intro v70 w9 ho hb _ _
     rw [List.nil_append] at ho
     obtain ⟨A70, c70, e70⟩ := Kd.R_slice ho
     subst e70
     have n3_ := zA ho
     have n4_ := zA hb
     have n5_ := zA (HS.out.below hb)
     have n6_ := zA (HS.out.below (below_alloc hb (.cells #[.slice A70 rn.length c70] 28)))
     clear n0_ n1_ n2_ hHeld hrn hxm ho hb
     refine hK.out _ _ ⟨(blk_cell n5_.out.bg 3).trans rfl, (blk_cell n5_.out.bf 3).trans rfl, (n5_.out.hB.cell (zE w _ hxn)).trans hxn⟩ (fun hHeld => ?_)
     clear hK K
     refine norm_ (a' := ?_) ?_ ?_
     rotate_left
     ·show Act.put _ (some 70) _ = _
      simp only [Act.put, List.setIfInBounds_toArray, List.set_cons_zero, List.set_cons_succ, i64_w, i32_w]
      rfl
     refine one_ (i := 9) (N := some 71) (bA 13 1023) rfl rfl (one_of HT_.out (by kernel_rfl)) (by decide) (fun K hK => ?_)
     refine value_ (v := .slice (some ⟨w9.heap.size, 0, none⟩) 1 1) (w1 := w9.alloc (.cells #[.slice A70 rn.length c70] 28)) rfl rfl (by first | (go_simp; done) | (go_simp; with_reducible rfl)) ?_
     refine hK.out _ _ ⟨(blk_cell n6_.out.bg 3).trans rfl, (blk_cell n6_.out.bf 3).trans rfl, (n6_.out.hB.cell (zE w _ hxn)).trans hxn⟩ (fun hHeld => ?_)
     clear hK K
     refine norm_ (a' := ?_) ?_ ?_
     rotate_left
     ·show Act.put _ (some 71) _ = _
      simp only [Act.put, List.setIfInBounds_toArray, List.set_cons_zero, List.set_cons_succ, i64_w, i32_w]
      rfl
     have hrl : rows.length ≤ 1000000 := by rw [HY.out.len, List.length_take]; omega
     refine one_ (i := 10) (N := some 72) (bA 13 2047) rfl rfl (one_of HT_.out (by kernel_rfl)) (by decide) (fun K hK => ?_)
     refine Kd.S_append_step (Kd.slice 31 (Kd.raw 6)) (w0 := w) w.heap.size (by rfl) (.tmp 63) (.tmp 71) 22 28 (.slice none 0 0) 24 rfl Tryd.underlying22 info28 rfl (by decide) (by omega) vG rows rn [.slice A70 rn.length c70] (fun _ => True) (fun q => wr.heap.size ≤ q) rfl rfl ⟨_, rfl, Kd.R_lower (Kd.R_mono (Kd.R_bound n3_.out) (fun q hq => hq.2.1)) (below_size HS.out.hB)⟩ (fun q hq => ⟨trivial, fun e => by have := Kd.S_lt HS.out.hs q e.symm; omega⟩) (fun _ _ => trivial) (Kd.S_mono (Kd.S_old HS.out.hs n4_.out) (fun q hq => ⟨trivial, by omega⟩)) n5_.out.hB (below_size n5_.out.hB) (by omega) ?_
     intro v72 w10 ho hb hg _
     obtain ⟨A72, c72, e72⟩ := Kd.S_slice ho
     subst e72
     rw [show (rows ++ [rn]).length = rows.length + 1 by simp] at ho ⊢
     have bf10 := zA ((hg.block gf (blk_lt n5_.out.bf) (Kd.S_ne n5_.out.hs n5_.out.bf (by decide))).trans n5_.out.bf)
     have bg10 := zA ((hg.block gg (blk_lt n5_.out.bg) (Kd.S_ne n5_.out.hs n5_.out.bg (by decide))).trans n5_.out.bg)
     have hs10 := zA ho
     have hB10 := zA hb
     clear n3_ n4_ n5_ n6_ hHeld ho hb hg
     refine hK.out _ _ ⟨(blk_cell bg10.out 3).trans rfl, (blk_cell bf10.out 3).trans rfl, (hB10.out.cell (zE w _ hxn)).trans hxn⟩ (fun hHeld => ?_)
     clear hK K
     refine norm_ (a' := ?_) ?_ ?_
     rotate_left
     ·show Act.put _ (some 72) _ = _
      simp only [Act.put, List.setIfInBounds_toArray, List.set_cons_zero, List.set_cons_succ, i64_w, i32_w]
      rfl
     refine pu_ (i := 11) (N := some 73) (bA 13 4095) ?_
     refine last_ (i := 12) (N := none) (bA 13 8191) rfl rfl (one_of HT_.out (by kernel_rfl)) (by decide) (fun K hK => ?_)
     have z3 := bk4 bg10.out
     refine skip_ (w1 := ?_) (by rfl) rfl ?_ ?_
     rotate_left
     ·go_simp
      rfl
     refine hK.out _ _ ?_
     clear hK K
     refine done_ (done_of HT_.out (by kernel_rfl)) ?_
     go_wp2_with fail
     generalize hw : w10.setCell ⟨gg, 3, none⟩ (.slice A72 (rows.length + 1) c72) = w11
     have HS' := zA (show SpoSt w w11 gf gg #[.string a0_0, .int .i64 a0_1, .int .i64 a0_2, .slice (some adr) l0_3.length c0_3] a0_0 a0_1 a0_2 (.slice A72 (rows.length + 1) c72) (rows ++ [rn]) by
      rw [← hw]
      exact ⟨blk_far bf10.out (fun e => HS.out.hg.2.2 e) _, blk_put bg10.out 3 _ rfl, Kd.S_set hs10.out bg10.out (by decide) 3 _, below_set hB10.out HS.out.hg.1, HS.out.hg⟩)
     have hrd : rd_LIns l0_3 (n : Int) = l0_3[n]'(by omega) := by unfold rd_LIns; rw [Int.toNat_natCast, List.getD_eq_getElem?_getD, List.getElem?_eq_getElem (by omega : n < l0_3.length), Option.getD_some]
     go_roundg k1
     case measure => omega
     case rel => exact ⟨n + 1, _, rows ++ [rn], by first | rfl | rw [Go.Proofs.YthidcafbhjahdaaDoor.Plain.wrap_nat (by omega)], ⟨by have := HK.out; omega⟩, ⟨by rw [List.take_succ_eq_append_getElem (by omega)]; exact HY.out.snoc (hrd ▸ HSn)⟩, HS'⟩
end Go.Proofs.YthidcafbhjahdaaDoor.Q
namespace Go.Proofs.YthidcafbhjahdaaDoor.RIrSpoilt
open Go Go.RowKit Go.Proofs.YthidcafbhjahdaaDoorW.PrintWords Go.Proofs.YthidcafbhjahdaaDoor.Q
set_option linter.unusedVariables false
def GIns (x : SIns) : Prop := (Lit.int .i64 (x.f0)).wf = true ∧ (Lit.int .i64 (x.f1)).wf = true ∧ (Lit.int .i64 (x.f2)).wf = true ∧ (Lit.int .i64 (x.f3)).wf = true ∧ (x.f4).size ≤ 140737488351232 ∧ ((x.f5).length * 8 ≤ 140737488351232 ∧ (x.f5).length ≤ maxLen ∧ ∀ y1 ∈ (x.f5), (Lit.int .i64 (y1)).wf = true)
def IrSpoilt.Pure : Prop := ∀ (a0_0 : ByteArray) (a0_1 : Int) (a0_2 : Int) (l0_3 : List (List (SIns))) (a1 : Int) (a2 : Int), (a0_0).size ≤ 140737488351232 → (Lit.int .i64 (a0_1)).wf = true → (Lit.int .i64 (a0_2)).wf = true → ((l0_3).length * 24 ≤ 140737488351232 ∧ (l0_3).length ≤ maxLen ∧ ∀ y1 ∈ (l0_3), ((y1).length * 72 ≤ 140737488351232 ∧ (y1).length ≤ maxLen ∧ ∀ y2 ∈ (y1), GIns (y2))) → (Lit.int .u8 (a1)).wf = true → (Lit.int .u8 (a2)).wf = true → ∃ k, cubbylaw07_IrSpoilt.f k a0_0 a0_1 a0_2 l0_3 a1 a2 = some true
end Go.Proofs.YthidcafbhjahdaaDoor.RIrSpoilt
namespace Go.Proofs.YthidcafbhjahdaaDoor.Plain
open Go Go.RowKit Go.Proofs.YthidcafbhjahdaaDoorW.PrintWords Go.Proofs.YthidcafbhjahdaaDoorW.PrintMore
theorem scan {α : Type} (g : Nat → Nat → Option α) (n : Nat) (R : Nat → α) (hend : Ev (fun k => g k n) (R n)) (hstep : ∀ i, i < n → Ev (fun k => g k (i + 1)) (R (i + 1)) → Ev (fun k => g k i) (R i)) : ∀ i, i ≤ n → Ev (fun k => g k i) (R i) := by
 have h : ∀ d i, i + d = n → Ev (fun k => g k i) (R i) := by
  intro d
  induction d with
  | zero =>
   intro i hi
   obtain rfl : i = n := by omega
   exact hend
  | succ d ih =>
   intro i hi
   exact hstep i (by omega) (ih (i + 1) (by omega))
 intro i hi
 exact h (n - i) i (by omega)
theorem seek {α : Type} (g : Nat → Nat → Option α) (n : Nat) (bad : Nat → Prop) (e r : α) (hbad : ∀ i, i < n → bad i → Ev (fun k => g k i) e) (hgo : ∀ i, i < n → ¬ bad i → ∀ r', Ev (fun k => g k (i + 1)) r' → Ev (fun k => g k i) r')
 (hr : (∃ i, i < n ∧ bad i) → r = e) (hend : (∀ i, i < n → ¬ bad i) → Ev (fun k => g k n) r) : Ev (fun k => g k 0) r := by
 by_cases h : ∃ i, i < n ∧ bad i
 ·obtain rfl := hr h
  obtain ⟨m, hm, hb⟩ := h
  refine scan g m (fun _ => r) (hbad m hm hb) ?_ 0 (Nat.zero_le _)
  intro i hi hE
  by_cases c : bad i
  ·exact hbad i (by omega) c
  ·exact hgo i (by omega) c _ hE
 ·have hn : ∀ i, i < n → ¬ bad i := fun i hi hb => h ⟨i, hi, hb⟩
  refine scan g n (fun _ => r) (hend hn) ?_ 0 (Nat.zero_le _)
  intro i hi hE
  exact hgo i hi (hn i hi) _ hE
end Go.Proofs.YthidcafbhjahdaaDoor.Plain
namespace Go.Proofs.YthidcafbhjahdaaDoor.PlainIr
open Go Go.RowKit Go.Proofs.YthidcafbhjahdaaDoorW.PrintWords Go.Proofs.YthidcafbhjahdaaDoorW.PrintMore Go.Proofs.YthidcafbhjahdaaDoor.Q Go.Proofs.YthidcafbhjahdaaDoor.Plain
set_option linter.unusedVariables false
set_option linter.unusedSimpArgs false
theorem op_cases {op : Int} (h : 1 ≤ op ∧ op ≤ 14) : op = 1 ∨ op = 2 ∨ op = 3 ∨ op = 4 ∨ op = 5 ∨ op = 6 ∨ op = 7 ∨ op = 8 ∨ op = 9 ∨ op = 10 ∨ op = 11 ∨ op = 12 ∨ op = 13 ∨ op = 14 := by omega
theorem shape_none {op : Int} (h : ¬ (1 ≤ op ∧ op ≤ 14)) : ir_shape.f op = some ⟨#[]⟩ := by
 unfold ir_shape.f
 split
 ·have : op = 0 := by omega
  subst this
  rfl
 ·rfl
theorem nil_toList : (⟨#[]⟩ : ByteArray).toList = [] := by decide +kernel
def uses (op a b : Int) (args : List Int) : List Int :=
 if op = 2 ∨ op = 8 ∨ op = 10 ∨ op = 13 ∨ op = 14 then [a] else if (3 ≤ op ∧ op ≤ 7) ∨ op = 9 then [a, b] else if op = 11 then args else []
def defOf (op d : Int) : Int := if (1 ≤ op ∧ op ≤ 8) ∨ op = 11 then d else -1
def lastOp (op : Int) : Bool := decide (12 ≤ op ∧ op ≤ 14)
def targets7 (op d a b : Int) : List Int := if op = 12 then [a] else if op = 13 then [b, d] else []
structure Sh (op : Int) (s : ByteArray) : Prop where
 ne : ¬ s.toList = []
 size : s.size = 3
 b0 : bt s 0 = 114 ↔ ((1 ≤ op ∧ op ≤ 8) ∨ op = 11)
 b1 : bt s 1 = 114 ↔ ((2 ≤ op ∧ op ≤ 10) ∨ op = 13 ∨ op = 14)
 b2 : bt s 2 = 114 ↔ ((3 ≤ op ∧ op ≤ 7) ∨ op = 9)
 f0 : bt s 0 = 32 ↔ (op = 9 ∨ op = 10 ∨ op = 12 ∨ op = 14)
 f1 : bt s 1 = 32 ↔ op = 11
 f2 : bt s 2 = 32 ↔ (op = 1 ∨ op = 2 ∨ op = 8 ∨ op = 10 ∨ op = 11 ∨ op = 12 ∨ op = 14)
 n0 : ¬ bt s 0 = 110
 n1 : bt s 1 = 110 ↔ op = 1
 n2 : ¬ bt s 2 = 110
theorem shape_some {op : Int} (h : 1 ≤ op ∧ op ≤ 14) : ∃ s, ir_shape.f op = some s ∧ Sh op s := by
 rcases op_cases h with rfl | rfl | rfl | rfl | rfl | rfl | rfl | rfl | rfl | rfl | rfl | rfl | rfl | rfl
 all_goals exact ⟨_, rfl, by decide +kernel, rfl, by decide +kernel, by decide +kernel, by decide +kernel, by decide +kernel, by decide +kernel, by decide +kernel, by decide +kernel, by decide +kernel, by decide +kernel⟩
theorem refdef_eq (op d a b : Int) (nm : ByteArray) (args : List Int) : cubbyref07_Def.f op d a b nm args = some (defOf op d) := by
 unfold cubbyref07_Def.f defOf
 by_cases h : (1 ≤ op ∧ op ≤ 8) ∨ op = 11
 ·rw [zC h]
  repeat' split
  all_goals first | rfl | omega
 ·rw [zD h]
  repeat' split
  all_goals first | rfl | omega
theorem last_eq (op : Int) : ir_Last.f op = some (lastOp op) := by
 unfold ir_Last.f lastOp
 split
 ·rw [Option.some.injEq, decide_eq_decide]
  omega
 ·rw [zG (by omega)]
theorem reflast_eq (op : Int) : cubbyref07_Last.f op = some (lastOp op) := by
 unfold cubbyref07_Last.f lastOp
 split
 ·rw [zF (by omega)]
 ·split
  ·rw [zF (by omega)]
  ·by_cases h : op = 14
   ·rw [zF (by omega), beq_iff_eq.2 h]
   ·rw [zG (by omega), beq_eq_false_iff_ne.2 h]
theorem targets_eq (op d a b : Int) (nm : ByteArray) (args : List Int) : ir_Targets.f op d a b nm args = some (targets7 op d a b) := by
 unfold ir_Targets.f targets7
 split
 ·rfl
 ·split <;> rfl
theorem reftargets_eq (op d a b : Int) (nm : ByteArray) (args : List Int) : cubbyref07_Targets.f op d a b nm args = some (targets7 op d a b) := by
 unfold cubbyref07_Targets.f targets7
 simp only [zJ]
 split
 ·rw [zC (by simp)]; rfl
 ·split
  ·rw [zC (by simp)]; rfl
  ·rfl
theorem refuses_j1 (k : Nat) (op : Int) (c : Bool) (d a b : Int) (nm : ByteArray) (args : List Int) (ha : args.length ≤ 17592186043904) (hc : c = decide ((3 ≤ op ∧ op ≤ 7) ∨ op = 9)) (h : ¬ (op = 2 ∨ op = 8 ∨ op = 10 ∨ op = 13 ∨ op = 14)) :
 cubbyref07_Uses.j1 (k + 1) [] op c op d a b nm args = some (uses op a b args) := by
 simp only [cubbyref07_Uses.j1, zJ]
 unfold uses
 rw [zD h]
 by_cases h2 : (3 ≤ op ∧ op ≤ 7) ∨ op = 9
 ·rw [zC (by rw [hc]; exact zF h2), zC (by simp), zC h2]
  rfl
 ·rw [zD (by rw [hc]; simpa using h2), zD h2]
  split
  ·rw [zC (by simp; omega)]
   rfl
  ·rfl
theorem refuses_ev (op d a b : Int) (nm : ByteArray) (args : List Int) (ha : args.length ≤ 17592186043904) : Ev (fun k => cubbyref07_Uses.f k op d a b nm args) (uses op a b args) := by
 refine ⟨2, fun k hk => ?_⟩
 obtain ⟨k, rfl⟩ : ∃ m, k = m + 2 := ⟨k - 2, by omega⟩
 show cubbyref07_Uses.f (k + 2) op d a b nm args = some (uses op a b args)
 unfold cubbyref07_Uses.f
 simp only [zJ]
 have yes : (op = 2 ∨ op = 8 ∨ op = 10 ∨ op = 13 ∨ op = 14) → cubbyref07_Uses.j0 (k + 2) [] op true op d a b nm args = some (uses op a b args) := fun h => by
  simp only [cubbyref07_Uses.j0, if_true]
  rw [zC (by simp)]
  unfold uses
  rw [zC h]
  rfl
 by_cases h1 : op = 2
 ·rw [zC h1, beq_iff_eq.2 h1]
  exact yes (.inl h1)
 rw [zD h1]
 by_cases h2 : op = 8
 ·rw [zC h2, beq_iff_eq.2 h2]
  exact yes (by omega)
 rw [zD h2]
 by_cases h3 : op = 10
 ·rw [zC h3, beq_iff_eq.2 h3]
  exact yes (by omega)
 rw [zD h3]
 by_cases h4 : op = 14
 ·rw [zC h4, beq_iff_eq.2 h4]
  exact yes (by omega)
 rw [zD h4]
 by_cases h5 : op = 13
 ·rw [beq_iff_eq.2 h5]
  exact yes (by omega)
 rw [beq_eq_false_iff_ne.2 h5]
 simp only [cubbyref07_Uses.j0]
 rw [zD (by simp)]
 have g : ∀ c, c = decide ((3 ≤ op ∧ op ≤ 7) ∨ op = 9) → cubbyref07_Uses.j1 (k + 1) [] op c op d a b nm args = some (uses op a b args) := fun c hc => refuses_j1 k op c d a b nm args ha hc (by omega)
 repeat' split
 all_goals
  refine g _ ?_
  first
  | (rename_i h; rw [beq_iff_eq.2 h, zF (by omega)])
  | (by_cases h9 : op = 9
     ·rw [beq_iff_eq.2 h9, zF (by omega)]
     ·rw [beq_eq_false_iff_ne.2 h9, zG (by omega)])
end Go.Proofs.YthidcafbhjahdaaDoor.PlainIr
namespace Go.Proofs.YthidcafbhjahdaaDoor.PlainName
open Go Go.RowKit Go.Proofs.YthidcafbhjahdaaDoorW.PrintWords Go.Proofs.YthidcafbhjahdaaDoorW.PrintMore Go.Proofs.YthidcafbhjahdaaDoor.Q Go.Proofs.YthidcafbhjahdaaDoor.Plain
set_option linter.unusedVariables false
set_option linter.unusedSimpArgs false
def lowD (x : UInt8) : Bool := decide ((97 ≤ x.toNat ∧ x.toNat ≤ 122) ∨ (48 ≤ x.toNat ∧ x.toNat ≤ 57))
def nameOk (s : ByteArray) : Bool := decide (1 ≤ s.size ∧ s.size ≤ 12 ∧ 97 ≤ bt s 0) && s.data.toList.all lowD
theorem cut_has (x : UInt8) : nameCut.data.toList.contains x = lowD x := by
 have h : ∀ n, n < 256 → nameCut.data.toList.contains (UInt8.ofNat n) = lowD (UInt8.ofNat n) := by decide +kernel
 have := h x.toNat x.toNat_lt
 rwa [UInt8.ofNat_toNat] at this
theorem dw_nil {p : UInt8 → Bool} : ∀ {l : List UInt8}, l.dropWhile p = [] ↔ ∀ x, x ∈ l → p x = true
 | [] => by simp
 | a :: t => by
  rw [List.dropWhile_cons]
  by_cases h : p a = true
  ·rw [zC h, dw_nil (l := t)]
   constructor
   ·intro g x hx
    rcases List.mem_cons.1 hx with rfl | hx
    ·exact h
    ·exact g x hx
   ·exact fun g x hx => g x (List.mem_cons_of_mem _ hx)
  ·rw [zD h]
   constructor
   ·intro g
    exact absurd g (by simp)
   ·intro g
    exact absurd (g a List.mem_cons_self) h
theorem trim_nil (l cs : List UInt8) : Lib.trimS l cs = [] ↔ l.all (cs.contains ·) = true := by
 unfold Lib.trimS Lib.trimLeftS Lib.trimRightS
 constructor
 ·intro h
  rw [dw_nil] at h
  rw [List.all_eq_true]
  intro x hx
  have h2 : x ∈ l.reverse := List.mem_reverse.2 hx
  rw [← List.takeWhile_append_dropWhile (p := fun x => cs.contains x) (l := l.reverse)] at h2
  rcases List.mem_append.1 h2 with h3 | h3
  ·exact (List.all_eq_true.1 (List.all_takeWhile (p := fun x => cs.contains x) (l := l.reverse))) x h3
  ·exact h x (List.mem_reverse.2 h3)
 ·intro h
  have h1 : l.reverse.dropWhile (cs.contains ·) = [] := by
   rw [dw_nil]
   intro x hx
   exact List.all_eq_true.1 h x (List.mem_reverse.1 hx)
  rw [h1]
  rfl
theorem size_list (s : ByteArray) : s.data.toList.length = s.size := by simp
theorem bt_get {s : ByteArray} {j : Nat} (h : j < s.data.toList.length) : bt s (j : Int) = ((s.data.toList[j]).toNat : Int) := by
 have hs := size_list s
 unfold bt
 rw [dif_pos (by omega)]
 rfl
theorem name_eq (s : ByteArray) : ir_Name.f s = some (nameOk s) := by
 have hs := size_list s
 unfold ir_Name.f
 rw [toList_data]
 by_cases h0 : s.data.toList = []
 ·have : s.size = 0 := by
   rw [h0] at hs
   exact hs.symm
  rw [zC h0]
  unfold nameOk
  rw [zG (by omega)]
  rfl
 ·have h1 : 0 < s.size := by
   rw [← hs]
   exact List.length_pos_iff.2 h0
  rw [zD h0]
  by_cases h2 : (s.size : Int) > 12
  ·rw [zC h2]
   unfold nameOk
   rw [zG (by omega)]
   rfl
  ·rw [zD h2, zC (by omega)]
   by_cases h3 : bt s 0 < 97
   ·rw [zC h3]
    unfold nameOk
    rw [zG (by omega)]
    rfl
   ·rw [zD h3]
    unfold strings_Trim.f
    rw [zC ⟨by omega, rfl⟩]
    simp only [zJ]
    rw [toList_data]
    unfold nameOk
    rw [zF (by omega), Bool.true_and, List.toList_toArray]
    congr 1
    have hc : s.data.toList.all (nameCut.data.toList.contains ·) = s.data.toList.all lowD := by
     congr 1
     funext x
     exact cut_has x
    have ht := trim_nil s.data.toList nameCut.data.toList
    rw [hc] at ht
    by_cases ha : s.data.toList.all lowD = true
    ·rw [ha]
     exact beq_iff_eq.2 (ht.2 ha)
    ·rw [Bool.not_eq_true _ |>.mp ha]
     exact beq_eq_false_iff_ne.2 fun e => ha (ht.1 e)
def restOk (s : ByteArray) (j : Nat) : Bool := (s.data.toList.drop j).all lowD && decide (j = 0 → 97 ≤ bt s 0)
theorem refname_loop (s : ByteArray) (hl : s.size ≤ 12) : ∀ (d j : Nat), s.size - j = d → j ≤ s.size → (j = 0 → 0 < s.size) → Ev (fun k => cubbyref07_Name.l0 k s (j : Int)) (restOk s j) := by
 have hs := size_list s
 intro d
 induction d with
 | zero =>
  intro j hd hj h0
  have : restOk s j = true := by
   unfold restOk
   rw [List.drop_eq_nil_of_le (by omega)]
   simp
   omega
  rw [this]
  exact Ev.step (f := fun _ => some true) (fun k => by simp only [cubbyref07_Name.l0]; rw [zD (by omega)]) (Ev.now _)
 | succ d ih =>
  intro j hd hj h0
  have hlt : j < s.data.toList.length := by omega
  have hb := bt_get hlt
  have hR : restOk s j = (lowD (s.data.toList[j]) && decide (j = 0 → 97 ≤ bt s 0) && restOk s (j + 1)) := by
   unfold restOk
   rw [drop_cons hlt]
   simp
   cases lowD s.data.toList[j] <;> cases (List.drop (j + 1) s.data.toList).all lowD <;> simp
  have hlow : lowD (s.data.toList[j]) = decide ((97 ≤ bt s (j : Int) ∧ bt s (j : Int) ≤ 122) ∨ (48 ≤ bt s (j : Int) ∧ bt s (j : Int) ≤ 57)) := by
   unfold lowD
   rw [hb]
   apply decide_eq_decide.2
   omega
  have hj0 : j = 0 → bt s (j : Int) = bt s 0 := by
   rintro rfl
   rfl
  rw [hR, hlow]
  have hstep : ∀ k, cubbyref07_Name.l0 (k + 1) s (j : Int) = (if (97 ≤ bt s (j : Int) ∧ bt s (j : Int) ≤ 122) ∨ ((48 ≤ bt s (j : Int) ∧ bt s (j : Int) ≤ 57) ∧ j ≠ 0) then cubbyref07_Name.l0 k s ((j + 1 : Nat) : Int) else some false) := by
   intro k
   simp only [cubbyref07_Name.l0]
   rw [zC (by omega : (j : Int) < (s.size : Int)), zC (by omega : (0 : Int) ≤ (j : Int)), wrap_nat (by omega)]
   repeat' split
   all_goals first
    | rfl
    | omega
  by_cases c : (97 ≤ bt s (j : Int) ∧ bt s (j : Int) ≤ 122) ∨ ((48 ≤ bt s (j : Int) ∧ bt s (j : Int) ≤ 57) ∧ j ≠ 0)
  ·refine Ev.step (fun k => (hstep k).trans (zC c)) ?_
   rw [zF (by omega), zF (by intro h; have := hj0 h; omega), Bool.true_and, Bool.true_and]
   exact ih (j + 1) (by omega) (by omega) (by omega)
  ·refine Ev.step (f := fun _ => some false) (fun k => (hstep k).trans (zD c)) ?_
   have : (decide ((97 ≤ bt s (j : Int) ∧ bt s (j : Int) ≤ 122) ∨ (48 ≤ bt s (j : Int) ∧ bt s (j : Int) ≤ 57)) && decide (j = 0 → 97 ≤ bt s 0)) = false := by
    by_cases c1 : (97 ≤ bt s (j : Int) ∧ bt s (j : Int) ≤ 122) ∨ (48 ≤ bt s (j : Int) ∧ bt s (j : Int) ≤ 57)
    ·rw [zG (p := (j = 0 → 97 ≤ bt s 0)) (fun h => by
      have h9 : j = 0 := by omega
      have := hj0 h9
      have := h h9
      omega), Bool.and_false]
    ·rw [zG c1, Bool.false_and]
   rw [this, Bool.false_and]
   exact Ev.now _
theorem refname_ev (s : ByteArray) : Ev (fun k => cubbyref07_Name.f k s) (nameOk s) := by
 have hyes : (s.size < 1 ∨ 12 < s.size) → Ev (fun k => cubbyref07_Name.j0 k s true) (nameOk s) := fun h => by
  have : nameOk s = false := by
   unfold nameOk
   rw [zG (by omega)]
   rfl
  rw [this]
  exact Ev.step (f := fun _ => some false) (fun k => by simp only [cubbyref07_Name.j0, if_true]) (Ev.now _)
 by_cases h1 : (s.size : Int) < 1
 ·exact Ev.congr (fun k => by unfold cubbyref07_Name.f; rw [zC h1]) (hyes (by omega))
 refine Ev.congr (f := fun k => cubbyref07_Name.j0 k s (decide ((s.size : Int) > 12))) (fun k => by unfold cubbyref07_Name.f; rw [zD h1]) ?_
 by_cases h2 : (s.size : Int) > 12
 ·rw [zF h2]
  exact hyes (by omega)
 ·rw [zG h2]
  refine Ev.step (f := fun k => cubbyref07_Name.l0 k s ((0 : Nat) : Int)) (fun k => by simp only [cubbyref07_Name.j0]; rw [zD (by simp)]; rfl) ?_
  have := refname_loop s (by omega) s.size 0 (by omega) (by omega) (by omega)
  have hR : restOk s 0 = nameOk s := by
   unfold restOk nameOk
   rw [List.drop_zero, Bool.and_comm]
   congr 1
   apply decide_eq_decide.2
   constructor
   ·intro h
    exact ⟨by omega, by omega, h rfl⟩
   ·intro h _
    exact h.2.2
  rw [← hR]
  exact this
end Go.Proofs.YthidcafbhjahdaaDoor.PlainName
namespace Go.Proofs.YthidcafbhjahdaaDoor.PlainOne
open Go Go.RowKit Go.Proofs.YthidcafbhjahdaaDoorW.PrintWords Go.Proofs.YthidcafbhjahdaaDoorW.PrintMore Go.Proofs.YthidcafbhjahdaaDoor.Q Go.Proofs.YthidcafbhjahdaaDoor.Plain Go.Proofs.YthidcafbhjahdaaDoor.PlainIr Go.Proofs.YthidcafbhjahdaaDoor.PlainName
set_option linter.unusedVariables false
set_option linter.unusedSimpArgs false
def hasD (op : Int) : Prop := (1 ≤ op ∧ op ≤ 8) ∨ op = 11
instance (op : Int) : Decidable (hasD op) := by unfold hasD; infer_instance
def bareP (op d a b : Int) (nm : ByteArray) (args : List Int) : Prop :=
 (op = 11 ∨ (nm.toList = ([] : List UInt8) ∧ args.length = 0)) ∧ ((op = 9 ∨ op = 10 ∨ op = 12 ∨ op = 14) → d = 0) ∧ (op = 11 → a = 0) ∧ ((op = 1 ∨ op = 2 ∨ op = 8 ∨ op = 10 ∨ op = 11 ∨ op = 12 ∨ op = 14) → b = 0)
instance (op d a b : Int) (nm : ByteArray) (args : List Int) : Decidable (bareP op d a b nm args) := by unfold bareP; infer_instance
def e5 (op : Int) (args : List Int) : Int := if op = 11 ∧ 4 < args.length then 192 else 0
def e4 (op : Int) (nm : ByteArray) (args : List Int) : Int := if op = 11 ∧ nameOk nm = false then 70 else e5 op args
def e3 (blocks op d a b : Int) (nm : ByteArray) (args : List Int) : Int := if (targets7 op d a b).any (oddReg blocks) = true then 74 else e4 op nm args
def e2 (blocks op d a b : Int) (nm : ByteArray) (args : List Int) : Int := if op = 1 ∧ (a < 0 ∨ 65536 ≤ a) then 81 else e3 blocks op d a b nm args
def e1 (regs blocks op d a b : Int) (nm : ByteArray) (args : List Int) : Int := if (hasD op ∧ oddReg regs d = true) ∨ (uses op a b args).any (oddReg regs) = true then 73 else e2 blocks op d a b nm args
def oneE (regs blocks op d a b : Int) (nm : ByteArray) (args : List Int) (last : Bool) : Int := if (1 ≤ op ∧ op ≤ 14) ∧ lastOp op = last ∧ bareP op d a b nm args then e1 regs blocks op d a b nm args else 72
theorem odd_iff (m n : Int) : oddReg m n = true ↔ n < 0 ∨ m ≤ n := by
 unfold oddReg
 exact decide_eq_true_iff
theorem any_odd {m : Int} {l : List Int} : l.any (oddReg m) = true ↔ ∃ i : Nat, i < l.length ∧ oddReg m (rd l (i : Int)) = true := by
 rw [List.any_eq_true]
 constructor
 ·rintro ⟨x, hx, h⟩
  obtain ⟨i, hi, rfl⟩ := List.mem_iff_getElem.1 hx
  exact ⟨i, hi, by rw [rd_get hi]; exact h⟩
 ·rintro ⟨i, hi, h⟩
  rw [rd_get hi] at h
  exact ⟨_, List.getElem_mem hi, h⟩

theorem refwithin_ev (l : List Int) (most : Int) (hl : l.length ≤ 4611686018427387904) : Ev (fun k => cubbyref07_within.f k l most) (!(l.any (oddReg most))) := by
 show Ev (fun k => cubbyref07_within.l0 k l most ((0 : Nat) : Int)) _
 refine seek (fun k i => cubbyref07_within.l0 k l most (i : Int)) l.length (fun i => oddReg most (rd l (i : Int)) = true) false _ ?_ ?_ ?_ ?_
 ·intro i hi hb
  rw [odd_iff] at hb
  refine Ev.step (f := fun _ => some false) (fun k => ?_) (Ev.now _)
  simp only [cubbyref07_within.l0]
  rw [zC (by omega), zC (by omega)]
  split
  ·rfl
  ·rw [zC (by omega)]
 ·intro i hi hb r' hE
  rw [odd_iff] at hb
  refine Ev.step (fun k => ?_) hE
  simp only [cubbyref07_within.l0]
  rw [zC (by omega), zC (by omega), zD (by omega), zD (by omega), wrap_nat (by omega)]
 ·intro h
  rw [any_odd.2 h]
  rfl
 ·intro h
  have : l.any (oddReg most) = false := by
   rw [← Bool.not_eq_true, any_odd]
   rintro ⟨i, hi, hb⟩
   exact h i hi hb
  rw [this]
  exact Ev.step (f := fun _ => some true) (fun k => by simp only [cubbyref07_within.l0]; rw [zD (by omega)]) (Ev.now _)
theorem refbare_ev (op d a b : Int) (nm : ByteArray) (args : List Int) (h : 1 ≤ op ∧ op ≤ 14) : Ev (fun k => cubbyref07_bare.f k op d a b nm args) (decide (bareP op d a b nm args)) := by
 have h3 : ∀ B, (B = true ↔ op = 10 ∨ op = 12 ∨ op = 14) → (op = 10 ∨ op = 11 ∨ op = 12 ∨ op = 14) → Ev (fun k => cubbyref07_bare.j3 k op B op d a b nm args) (if op = 11 then decide (a = 0 ∧ b = 0) else decide (d = 0 ∧ b = 0)) := by
  intro B hB ho
  refine Ev.step (f := fun _ => some _) (fun k => ?_) (Ev.now _)
  simp only [cubbyref07_bare.j3]
  by_cases c : op = 11
  ·rw [zD (by rw [hB]; omega), zC c, zC c]
   by_cases c1 : a = 0
   ·rw [zC c1]
    simp [c1]
    rfl
   ·rw [zD c1]
    simp [c1]
  ·rw [zC (by rw [hB]; omega), zD c]
   by_cases c1 : d = 0
   ·rw [zC c1]
    simp [c1]
    rfl
   ·rw [zD c1]
    simp [c1]
 have h2 : ∀ B, (B = true ↔ (3 ≤ op ∧ op ≤ 7) ∨ op = 13) → ¬ (op = 1 ∨ op = 2 ∨ op = 8) → Ev (fun k => cubbyref07_bare.j2 k op B op d a b nm args) (if (3 ≤ op ∧ op ≤ 7) ∨ op = 13 then true else if op = 9 then decide (d = 0) else if op = 11 then decide (a = 0 ∧ b = 0) else decide (d = 0 ∧ b = 0)) := by
  intro B hB ho
  by_cases c : (3 ≤ op ∧ op ≤ 7) ∨ op = 13
  ·rw [zC c]
   exact Ev.step (f := fun _ => some true) (fun k => by simp only [cubbyref07_bare.j2]; rw [zC (hB.2 c)]) (Ev.now _)
  ·rw [zD c]
   by_cases c1 : op = 9
   ·rw [zC c1]
    exact Ev.step (f := fun _ => some (d == 0)) (fun k => by simp only [cubbyref07_bare.j2]; rw [zD (by rw [hB]; exact c), zC c1]) (Ev.now _)
   ·rw [zD c1]
    by_cases c2 : op = 10
    ·exact Ev.step (fun k => by simp only [cubbyref07_bare.j2]; rw [zD (by rw [hB]; exact c), zD c1, zC c2]) (h3 (op == 10) (by rw [beq_iff_eq]; omega) (by omega))
    ·by_cases c3 : op = 14
     ·exact Ev.step (fun k => by simp only [cubbyref07_bare.j2]; rw [zD (by rw [hB]; exact c), zD c1, zD c2, zC c3]) (h3 (op == 14) (by rw [beq_iff_eq]; omega) (by omega))
     ·exact Ev.step (fun k => by simp only [cubbyref07_bare.j2]; rw [zD (by rw [hB]; exact c), zD c1, zD c2, zD c3]) (h3 (op == 12) (by rw [beq_iff_eq]; omega) (by omega))
 have h1 : ∀ B, (B = true ↔ op = 1 ∨ op = 2 ∨ op = 8) → Ev (fun k => cubbyref07_bare.j1 k op B op d a b nm args) (if op = 1 ∨ op = 2 ∨ op = 8 then decide (b = 0) else if (3 ≤ op ∧ op ≤ 7) ∨ op = 13 then true else if op = 9 then decide (d = 0) else if op = 11 then decide (a = 0 ∧ b = 0) else decide (d = 0 ∧ b = 0)) := by
  intro B hB
  by_cases c : op = 1 ∨ op = 2 ∨ op = 8
  ·rw [zC c]
   exact Ev.step (f := fun _ => some (b == 0)) (fun k => by simp only [cubbyref07_bare.j1]; rw [zC (hB.2 c)]) (Ev.now _)
  ·rw [zD c]
   have hn : ¬ B = true := by rw [hB]; exact c
   by_cases c3 : op = 3
   ·exact Ev.step (fun k => by simp only [cubbyref07_bare.j1]; rw [zD hn, zC c3]) (h2 (op == 3) (by rw [beq_iff_eq]; omega) c)
   by_cases c4 : op = 4
   ·exact Ev.step (fun k => by simp only [cubbyref07_bare.j1]; rw [zD hn, zD c3, zC c4]) (h2 (op == 4) (by rw [beq_iff_eq]; omega) c)
   by_cases c5 : op = 5
   ·exact Ev.step (fun k => by simp only [cubbyref07_bare.j1]; rw [zD hn, zD c3, zD c4, zC c5]) (h2 (op == 5) (by rw [beq_iff_eq]; omega) c)
   by_cases c6 : op = 6
   ·exact Ev.step (fun k => by simp only [cubbyref07_bare.j1]; rw [zD hn, zD c3, zD c4, zD c5, zC c6]) (h2 (op == 6) (by rw [beq_iff_eq]; omega) c)
   by_cases c7 : op = 7
   ·exact Ev.step (fun k => by simp only [cubbyref07_bare.j1]; rw [zD hn, zD c3, zD c4, zD c5, zD c6, zC c7]) (h2 (op == 7) (by rw [beq_iff_eq]; omega) c)
   ·exact Ev.step (fun k => by simp only [cubbyref07_bare.j1]; rw [zD hn, zD c3, zD c4, zD c5, zD c6, zD c7]) (h2 (op == 13) (by rw [beq_iff_eq]; omega) c)
 have h0 : Ev (fun k => cubbyref07_bare.j0 k false op d a b nm args) (if op = 1 ∨ op = 2 ∨ op = 8 then decide (b = 0) else if (3 ≤ op ∧ op ≤ 7) ∨ op = 13 then true else if op = 9 then decide (d = 0) else if op = 11 then decide (a = 0 ∧ b = 0) else decide (d = 0 ∧ b = 0)) := by
  by_cases c1 : op = 1
  ·exact Ev.step (fun k => by simp only [cubbyref07_bare.j0]; rw [zD Bool.false_ne_true, zC c1]) (h1 (op == 1) (by rw [beq_iff_eq]; omega))
  by_cases c2 : op = 2
  ·exact Ev.step (fun k => by simp only [cubbyref07_bare.j0]; rw [zD Bool.false_ne_true, zD c1, zC c2]) (h1 (op == 2) (by rw [beq_iff_eq]; omega))
  ·exact Ev.step (fun k => by simp only [cubbyref07_bare.j0]; rw [zD Bool.false_ne_true, zD c1, zD c2]) (h1 (op == 8) (by rw [beq_iff_eq]; omega))
 have hsame : (op = 11 ∨ (nm.toList = ([] : List UInt8) ∧ args.length = 0)) → (if op = 1 ∨ op = 2 ∨ op = 8 then decide (b = 0) else if (3 ≤ op ∧ op ≤ 7) ∨ op = 13 then true else if op = 9 then decide (d = 0) else if op = 11 then decide (a = 0 ∧ b = 0) else decide (d = 0 ∧ b = 0)) = decide (bareP op d a b nm args) := by
  intro hb
  unfold bareP
  repeat' split
  all_goals first
   | (apply decide_eq_decide.2; constructor <;> intro hx <;> first | omega | (refine ⟨hb, ?_, ?_, ?_⟩ <;> omega))
   | (symm; apply zF; refine ⟨hb, ?_, ?_, ?_⟩ <;> omega)
 by_cases c : op = 11
 ·rw [← hsame (.inl c)]
  exact Ev.congr (fun k => by unfold cubbyref07_bare.f; rw [zC c]) h0
 ·by_cases c1 : nm.toList = ([] : List UInt8)
  ·refine Ev.congr (fun k => by unfold cubbyref07_bare.f; rw [zD c, zC c1]) ?_
   by_cases c2 : (args.length : Int) > 0
   ·rw [zF c2, zG (by unfold bareP; omega)]
    exact Ev.step (f := fun _ => some false) (fun k => by simp only [cubbyref07_bare.j0]; rw [zC trivial]) (Ev.now _)
   ·rw [zG c2, ← hsame (.inr ⟨c1, by omega⟩)]
    exact h0
  ·refine Ev.congr (fun k => by unfold cubbyref07_bare.f; rw [zD c, zD c1]) ?_
   rw [zG (p := bareP op d a b nm args) (by
    unfold bareP
    rintro ⟨h4 | h4, _⟩
    ·exact c h4
    ·exact c1 h4.1)]
   exact Ev.step (f := fun _ => some false) (fun k => by simp only [cubbyref07_bare.j0]; rw [zC trivial]) (Ev.now _)
theorem uses_short {op a b : Int} {args : List Int} (ha : args.length ≤ 17592186043904) : (uses op a b args).length ≤ 4611686018427387904 := by
 unfold uses
 repeat' split
 all_goals first | omega | simp
theorem targets_short (op d a b : Int) : (targets7 op d a b).length ≤ 4611686018427387904 := by
 unfold targets7
 repeat' split
 all_goals simp
theorem defOf_iff {op d : Int} : (defOf op d = -1 ↔ ¬ hasD op ∨ d = -1) ∧ (hasD op → defOf op d = d) := by
 unfold defOf hasD
 constructor
 ·split <;> omega
 ·intro h
  rw [zC h]
section
variable (op d a b : Int) (nm : ByteArray) (args : List Int)
theorem r4 (B : Bool) : Ev (fun k => cubbyref07_One.j4 k B op d a b nm args) (if B = true then 70 else e5 op args) := by
 refine Ev.step (f := fun _ => some _) (fun k => ?_) (Ev.now _)
 simp only [cubbyref07_One.j4]
 unfold e5
 repeat' split
 all_goals first | rfl | omega
theorem r3 (blocks : Int) (B : Bool) : Ev (fun k => cubbyref07_One.j3 k blocks B op d a b nm args) (if B = true then 81 else e3 blocks op d a b nm args) := by
 cases B
 ·rw [zD Bool.false_ne_true]
  refine Ev.step (fun k => by simp only [cubbyref07_One.j3]; rw [zD Bool.false_ne_true, reftargets_eq, zJ]) (Ev.bind (refwithin_ev (targets7 op d a b) blocks (targets_short op d a b)) ?_)
  unfold e3
  by_cases c : (targets7 op d a b).any (oddReg blocks) = true
  ·rw [zC c, c]
   exact Ev.congr (f := fun _ => some 74) (fun k => by rw [zD (by decide)]) (Ev.now _)
  ·rw [zD c, (Bool.not_eq_true _).mp c]
   unfold e4
   by_cases c1 : op = 11
   ·refine Ev.congr (fun k => by rw [zC (by decide), zC c1]) (Ev.bind (refname_ev nm) ?_)
    have := r4 op d a b nm args (!nameOk nm)
    cases hn : nameOk nm
    ·rw [hn] at this
     rw [zC ⟨c1, rfl⟩]
     exact this
    ·rw [hn] at this
     rw [zD (by simp)]
     exact this
   ·rw [zD (fun h => c1 h.1)]
    exact Ev.congr (fun k => by rw [zC (by decide), zD c1]) (r4 op d a b nm args false)
 ·exact Ev.step (f := fun _ => some 81) (fun k => by simp only [cubbyref07_One.j3]; rw [zC trivial]) (Ev.now _)
theorem r2 (blocks : Int) (B : Bool) : Ev (fun k => cubbyref07_One.j2 k blocks B op d a b nm args) (if B = true then 73 else e2 blocks op d a b nm args) := by
 cases B
 ·rw [zD Bool.false_ne_true]
  unfold e2
  by_cases c : op = 1
  ·by_cases c1 : a < 0
   ·rw [zC ⟨c, .inl c1⟩]
    exact Ev.step (fun k => by simp only [cubbyref07_One.j2]; rw [zD Bool.false_ne_true, zC c, zC c1]) (r3 op d a b nm args blocks true)
   ·refine Ev.step (fun k => by simp only [cubbyref07_One.j2]; rw [zD Bool.false_ne_true, zC c, zD c1]) ?_
    have := r3 op d a b nm args blocks (decide (a ≥ 65536))
    by_cases c2 : a ≥ 65536
    ·rw [zC ⟨c, .inr c2⟩]
     rw [zF c2] at this ⊢
     exact this
    ·rw [zD (by omega)]
     rw [zG c2] at this ⊢
     exact this
  ·rw [zD (by omega)]
   exact Ev.step (fun k => by simp only [cubbyref07_One.j2]; rw [zD Bool.false_ne_true, zD c]) (r3 op d a b nm args blocks false)
 ·exact Ev.step (f := fun _ => some 73) (fun k => by simp only [cubbyref07_One.j2]; rw [zC trivial]) (Ev.now _)
theorem r1 (h : 1 ≤ op ∧ op ≤ 14) (blocks : Int) (B : Bool) : Ev (fun k => cubbyref07_One.j1 k blocks B op d a b nm args) (if B = true ∨ (hasD op ∧ d = -1) then 73 else e2 blocks op d a b nm args) := by
 cases B
 ·have hd := (defOf_iff (op := op) (d := d)).1
  by_cases c : defOf op d = -1
  ·by_cases c9 : op = 9
   ·rw [zD (by unfold hasD; rintro (x | x) <;> first | exact absurd x (by decide) | omega)]
    exact Ev.step (fun k => by simp only [cubbyref07_One.j1]; rw [zD Bool.false_ne_true, refdef_eq, zJ, zC c, zC c9]) (r2 op d a b nm args blocks false)
   ·by_cases c10 : op = 10
    ·rw [zD (by unfold hasD; rintro (x | x) <;> first | exact absurd x (by decide) | omega)]
     exact Ev.step (fun k => by simp only [cubbyref07_One.j1]; rw [zD Bool.false_ne_true, refdef_eq, zJ, zC c, zD c9, zC c10]) (r2 op d a b nm args blocks false)
    ·refine Ev.step (fun k => by simp only [cubbyref07_One.j1]; rw [zD Bool.false_ne_true, refdef_eq, zJ, zC c, zD c9, zD c10, reflast_eq, zJ]) ?_
     have := r2 op d a b nm args blocks (!lastOp op)
     by_cases cl : 12 ≤ op ∧ op ≤ 14
     ·rw [zD (by unfold hasD; rintro (x | x) <;> first | exact absurd x (by decide) | omega)]
      rw [show lastOp op = true from zF cl] at this ⊢
      exact this
     ·rw [zC (.inr ⟨by unfold hasD; omega, by unfold hasD at hd; omega⟩)]
      rw [show lastOp op = false from zG cl] at this ⊢
      exact this
  ·rw [zD (by
    rintro (x | x)
    ·exact absurd x (by decide)
    ·exact c (hd.2 (.inr x.2)))]
   exact Ev.step (fun k => by simp only [cubbyref07_One.j1]; rw [zD Bool.false_ne_true, refdef_eq, zJ, zD c]) (r2 op d a b nm args blocks false)
 ·rw [zC (.inl rfl)]
  exact Ev.step (f := fun _ => some 73) (fun k => by simp only [cubbyref07_One.j1]; rw [zC trivial]) (Ev.now _)
theorem r0 (h : 1 ≤ op ∧ op ≤ 14) (ha : args.length ≤ 17592186043904) (regs blocks : Int) (B : Bool) : Ev (fun k => cubbyref07_One.j0 k regs blocks B op d a b nm args) (if B = true then 72 else e1 regs blocks op d a b nm args) := by
 cases B
 ·rw [zD Bool.false_ne_true]
  have hd := (defOf_iff (op := op) (d := d))
  have hj : Ev (fun k => (cubbyref07_Uses.f k op d a b nm args).bind fun t273 => (cubbyref07_within.f k t273 regs).bind fun t276 => cubbyref07_One.j1 k blocks (!t276) op d a b nm args) (if (uses op a b args).any (oddReg regs) = true ∨ (hasD op ∧ d = -1) then 73 else e2 blocks op d a b nm args) := by
   refine Ev.bind (refuses_ev op d a b nm args ha) (Ev.bind (refwithin_ev _ regs (uses_short ha)) ?_)
   have := r1 op d a b nm args h blocks ((uses op a b args).any (oddReg regs))
   rw [Bool.not_not]
   exact this
  by_cases c : defOf op d = -1
  ·refine Ev.step (fun k => by simp only [cubbyref07_One.j0]; rw [zD Bool.false_ne_true, refdef_eq, zJ, zC c]) ?_
   have e : e1 regs blocks op d a b nm args = (if (uses op a b args).any (oddReg regs) = true ∨ (hasD op ∧ d = -1) then 73 else e2 blocks op d a b nm args) := by
    unfold e1
    have h1 : ((hasD op ∧ oddReg regs d = true) ∨ (uses op a b args).any (oddReg regs) = true) ↔ ((uses op a b args).any (oddReg regs) = true ∨ (hasD op ∧ d = -1)) := by
     rw [odd_iff]
     have h2 := hd.1.1 c
     constructor
     ·rintro (⟨x, _⟩ | x)
      ·exact .inr ⟨x, by rcases h2 with h2 | h2; exact absurd x h2; exact h2⟩
      ·exact .inl x
     ·rintro (x | ⟨x, y⟩)
      ·exact .inr x
      ·exact .inl ⟨x, .inl (by omega)⟩
    simp only [h1]
   rw [e]
   exact hj
  ·have hh : hasD op := Decidable.byContradiction fun x => c (hd.1.2 (.inl x))
   have hdd := hd.2 hh
   have hne : d ≠ -1 := fun x => c (hd.1.2 (.inr x))
   by_cases c1 : d < 0
   ·have e : e1 regs blocks op d a b nm args = 73 := by
     unfold e1
     rw [zC (.inl ⟨hh, (odd_iff _ _).2 (.inl c1)⟩)]
    rw [e]
    have := r1 op d a b nm args h blocks true
    rw [zC (.inl rfl)] at this
    exact Ev.step (fun k => by simp only [cubbyref07_One.j0]; rw [zD Bool.false_ne_true, refdef_eq, zJ, zD c, zJ, zC (by omega)]) this
   ·by_cases c2 : d ≥ regs
    ·have e : e1 regs blocks op d a b nm args = 73 := by
      unfold e1
      rw [zC (.inl ⟨hh, (odd_iff _ _).2 (.inr c2)⟩)]
     rw [e]
     have := r1 op d a b nm args h blocks true
     rw [zC (.inl rfl)] at this
     exact Ev.step (fun k => by simp only [cubbyref07_One.j0]; rw [zD Bool.false_ne_true, refdef_eq, zJ, zD c, zJ, zD (by omega), zJ, zC (by omega)]) this
    ·have e : e1 regs blocks op d a b nm args = (if (uses op a b args).any (oddReg regs) = true ∨ (hasD op ∧ d = -1) then 73 else e2 blocks op d a b nm args) := by
      unfold e1
      have h1 : ((hasD op ∧ oddReg regs d = true) ∨ (uses op a b args).any (oddReg regs) = true) ↔ ((uses op a b args).any (oddReg regs) = true ∨ (hasD op ∧ d = -1)) := by
       rw [odd_iff]
       constructor
       ·rintro (⟨_, x⟩ | x)
        ·omega
        ·exact .inl x
       ·rintro (x | ⟨_, y⟩)
        ·exact .inr x
        ·exact absurd y hne
      simp only [h1]
     rw [e]
     exact Ev.step (fun k => by simp only [cubbyref07_One.j0]; rw [zD Bool.false_ne_true, refdef_eq, zJ, zD c, zJ, zD (by omega), zJ, zD (by omega)]) hj
 ·exact Ev.step (f := fun _ => some 72) (fun k => by simp only [cubbyref07_One.j0]; rw [zC trivial]) (Ev.now _)
theorem refone_ev (ha : args.length ≤ 17592186043904) (regs blocks : Int) (last : Bool) : Ev (fun k => cubbyref07_One.f k op d a b nm args regs blocks last) (oneE regs blocks op d a b nm args last) := by
 unfold oneE
 have hyes : Ev (fun k => cubbyref07_One.j0 k regs blocks true op d a b nm args) 72 := Ev.step (f := fun _ => some 72) (fun k => by simp only [cubbyref07_One.j0]; rw [zC trivial]) (Ev.now _)
 by_cases c0 : op < 1
 ·rw [zD (by omega)]
  exact Ev.congr (fun k => by unfold cubbyref07_One.f; rw [zC c0]) hyes
 by_cases c1 : op > 14
 ·rw [zD (by omega)]
  exact Ev.congr (fun k => by unfold cubbyref07_One.f; rw [zD c0, zC c1]) hyes
 have h : 1 ≤ op ∧ op ≤ 14 := by omega
 by_cases c2 : lastOp op = last
 ·refine Ev.congr (fun k => by unfold cubbyref07_One.f; rw [zD c0, zD c1, reflast_eq, zJ, zD (by simp [c2])]) (Ev.bind (refbare_ev op d a b nm args h) ?_)
  have := r0 op d a b nm args h ha regs blocks (!decide (bareP op d a b nm args))
  by_cases c3 : bareP op d a b nm args
  ·rw [zC ⟨h, c2, c3⟩]
   rw [zF c3] at this ⊢
   exact this
  ·rw [zD (fun x => c3 x.2.2)]
   rw [zG c3] at this ⊢
   exact this
 ·rw [zD (fun x => c2 x.2.1)]
  exact Ev.congr (fun k => by unfold cubbyref07_One.f; rw [zD c0, zD c1, reflast_eq, zJ, zC (by simpa using c2)]) hyes
end
theorem lt3 {i : Nat} (h : i < 3) : i = 0 ∨ i = 1 ∨ i = 2 := by omega
section
variable (pn : ByteArray) (pp regs : Int) (bs : List (List SIns)) (op d a b : Int) (nm : ByteArray) (args : List Int)
theorem o5 (B : Bool) (hb : op = 11 ∨ (nm.toList = ([] : List UInt8) ∧ args.length = 0)) : Ev (fun k => ir_one.j5 k B op d a b nm args) (if B = true then 70 else e5 op args) := by
 refine Ev.step (f := fun _ => some _) (fun k => ?_) (Ev.now _)
 simp only [ir_one.j5]
 unfold e5
 repeat' split
 all_goals first | rfl | omega
theorem o3 (hb : op = 11 ∨ (nm.toList = ([] : List UInt8) ∧ args.length = 0)) : Ev (fun k => ir_one.l3 k (targets7 op d a b) ((targets7 op d a b).length : Int) 0 pn pp regs bs op d a b nm args) (e3 (bs.length : Int) op d a b nm args) := by
 have hl := targets_short op d a b
 unfold e3
 refine seek (fun k i => ir_one.l3 k (targets7 op d a b) ((targets7 op d a b).length : Int) (i : Int) pn pp regs bs op d a b nm args) (targets7 op d a b).length (fun i => oddReg (bs.length : Int) (rd (targets7 op d a b) (i : Int)) = true) 74 _ ?_ ?_ ?_ ?_
 ·intro i hi hx
  rw [odd_iff] at hx
  refine Ev.step (f := fun _ => some 74) (fun k => ?_) (Ev.now _)
  simp only [ir_one.l3]
  rw [zC (by omega), zC (by omega), zC (by omega)]
  split
  ·rfl
  ·rw [zC (by omega)]
 ·intro i hi hx r' hE
  rw [odd_iff] at hx
  refine Ev.step (fun k => ?_) hE
  simp only [ir_one.l3]
  rw [zC (by omega), zC (by omega), zC (by omega), zD (by omega), zD (by omega), wrap_nat (by omega)]
 ·intro h
  rw [zC (any_odd.2 h)]
 ·intro h
  rw [zD (fun x => by
   obtain ⟨i, hi, hx⟩ := any_odd.1 x
   exact h i hi hx)]
  unfold e4
  by_cases c : op = 11
  ·refine Ev.step (fun k => by simp only [ir_one.l3]; rw [zD (by omega), zC c, name_eq, zJ]) ?_
   have := o5 op d a b nm args (!nameOk nm) hb
   cases hn : nameOk nm
   ·rw [hn] at this
    rw [zC ⟨c, rfl⟩]
    exact this
   ·rw [hn] at this
    rw [zD (by simp)]
    exact this
  ·rw [zD (fun x => c x.1)]
   exact Ev.step (fun k => by simp only [ir_one.l3]; rw [zD (by omega), zD c]) (o5 op d a b nm args false hb)
theorem o2 (s : ByteArray) (S : Sh op s) (hb : op = 11 ∨ (nm.toList = ([] : List UInt8) ∧ args.length = 0)) : Ev (fun k => ir_one.l2 k s [d, a, b] (([d, a, b] : List Int).length : Int) 0 pn pp regs bs op d a b nm args) (e2 (bs.length : Int) op d a b nm args) := by
 have hs := S.size
 have hl : ([d, a, b] : List Int).length = 3 := rfl
 have h0 := S.n0
 have h1 := S.n1
 have h2 := S.n2
 unfold e2
 refine seek (fun k i => ir_one.l2 k s [d, a, b] (([d, a, b] : List Int).length : Int) (i : Int) pn pp regs bs op d a b nm args) 3 (fun i => bt s (i : Int) = 110 ∧ (rd [d, a, b] (i : Int) < 0 ∨ rd [d, a, b] (i : Int) ≥ 65536)) 81 _ ?_ ?_ ?_ ?_
 ·rintro i hi ⟨hx, hy⟩
  refine Ev.step (f := fun _ => some 81) (fun k => ?_) (Ev.now _)
  simp only [ir_one.l2]
  rw [zC (by omega), zC (by omega), zC (by omega), zC (by omega), zC hx]
  split
  ·rfl
  ·rw [zC (by omega)]
 ·intro i hi hx r' hE
  refine Ev.step (fun k => ?_) hE
  simp only [ir_one.l2]
  rw [zC (by omega), zC (by omega), zC (by omega), zC (by omega), wrap_nat (by omega)]
  repeat' split
  all_goals first
   | rfl
   | (exfalso; apply hx; constructor <;> first | assumption | omega)
 ·rintro ⟨i, hi, hx, hy⟩
  rcases lt3 hi with rfl | rfl | rfl
  ·exact absurd hx h0
  ·exact zC ⟨h1.1 hx, hy⟩
  ·exact absurd hx h2
 ·intro h
  rw [zD (fun x => h 1 (by omega) ⟨h1.2 x.1, x.2⟩)]
  refine Ev.step (fun k => by simp only [ir_one.l2]; rw [zD (by omega), targets_eq, zJ]) (o3 pn pp regs bs op d a b nm args hb)
theorem o1 (s : ByteArray) (S : Sh op s) (hop : 1 ≤ op ∧ op ≤ 14) (hb : op = 11 ∨ (nm.toList = ([] : List UInt8) ∧ args.length = 0)) : Ev (fun k => ir_one.l1 k s [d, a, b] [d, a, b] (([d, a, b] : List Int).length : Int) 0 pn pp regs bs op d a b nm args) (e1 regs (bs.length : Int) op d a b nm args) := by
 have hs := S.size
 have hl : ([d, a, b] : List Int).length = 3 := rfl
 have h0 := S.b0
 have h1 := S.b1
 have h2 := S.b2
 have hargs : ¬ op = 11 → args = [] := fun h => by
  rcases hb with hb | hb
  ·exact absurd hb h
  ·exact List.length_eq_zero_iff.1 hb.2
 unfold e1
 have hC : ((hasD op ∧ oddReg regs d = true) ∨ (uses op a b args).any (oddReg regs) = true) ↔ ((∃ i : Nat, i < 3 ∧ bt s (i : Int) = 114 ∧ oddReg regs (rd [d, a, b] (i : Int)) = true) ∨ args.any (oddReg regs) = true) := by
  constructor
  ·rintro (⟨x, y⟩ | x)
   ·exact .inl ⟨0, by omega, h0.2 x, y⟩
   ·by_cases c : op = 11
    ·right
     unfold uses at x
     rwa [zD (by omega), zD (by omega), zC c] at x
    ·left
     unfold uses at x
     split at x
     ·simp at x
      exact ⟨1, by omega, h1.2 (by omega), x⟩
     ·split at x
      ·simp at x
       rcases x with x | x
       ·exact ⟨1, by omega, h1.2 (by omega), x⟩
       ·exact ⟨2, by omega, h2.2 (by omega), x⟩
      ·exact absurd x (by simp)
  ·rintro (⟨i, hi, hx, hy⟩ | x)
   ·rcases lt3 hi with rfl | rfl | rfl
    ·exact .inl ⟨h0.1 hx, hy⟩
    ·right
     have := h1.1 hx
     have hy' : oddReg regs a = true := hy
     unfold uses
     split
     ·simp [hy']
     ·split
      ·simp [hy']
      ·omega
    ·right
     have := h2.1 hx
     have hy' : oddReg regs b = true := hy
     unfold uses
     rw [zD (by omega), zC (by omega)]
     simp [hy']
   ·by_cases c : op = 11
    ·right
     unfold uses
     rw [zD (by omega), zD (by omega), zC c]
     exact x
    ·rw [hargs c] at x
     exact absurd x (by simp)
 refine seek (fun k i => ir_one.l1 k s [d, a, b] [d, a, b] (([d, a, b] : List Int).length : Int) (i : Int) pn pp regs bs op d a b nm args) 3 (fun i => bt s (i : Int) = 114 ∧ oddReg regs (rd [d, a, b] (i : Int)) = true) 73 _ ?_ ?_ ?_ ?_
 ·rintro i hi ⟨hx, hy⟩
  refine Ev.step (f := fun _ => some 73) (fun k => ?_) (Ev.now _)
  simp only [ir_one.l1]
  rw [zC (by omega), zC (by omega), zC (by omega), zC (by omega), zC hx]
  simp only [ir_one_1.f, zJ, hy, if_true]
 ·intro i hi hx r' hE
  refine Ev.step (fun k => ?_) hE
  simp only [ir_one.l1]
  rw [zC (by omega), zC (by omega), zC (by omega), zC (by omega), wrap_nat (by omega)]
  by_cases c : bt s (i : Int) = 114
  ·rw [zC c]
   simp only [ir_one_1.f, zJ]
   rw [zD (fun y => hx ⟨c, y⟩)]
  ·rw [zD c]
 ·rintro ⟨i, hi, hx⟩
  exact zC (hC.2 (.inl ⟨i, hi, hx⟩))
 ·intro h
  by_cases c : args.any (oddReg regs) = true
  ·rw [zC (hC.2 (.inr c))]
   exact Ev.step (f := fun _ => some 73) (fun k => by simp only [ir_one.l1]; rw [zD (by omega)]; simp only [slices_ContainsFunc_int_int.f, zJ]; rw [zC c]) (Ev.now _)
  ·rw [zD (fun x => by
    rcases hC.1 x with ⟨i, hi, hy⟩ | y
    ·exact h i hi hy
    ·exact c y)]
   exact Ev.step (fun k => by simp only [ir_one.l1]; rw [zD (by omega)]; simp only [slices_ContainsFunc_int_int.f, zJ]; rw [zD c]) (o2 pn pp regs bs op d a b nm args s S hb)
theorem o0 (s : ByteArray) (S : Sh op s) (hop : 1 ≤ op ∧ op ≤ 14) (hb : op = 11 ∨ (nm.toList = ([] : List UInt8) ∧ args.length = 0)) : Ev (fun k => ir_one.l0 k s [d, a, b] [d, a, b] (([d, a, b] : List Int).length : Int) 0 pn pp regs bs op d a b nm args) (if bareP op d a b nm args then e1 regs (bs.length : Int) op d a b nm args else 72) := by
 have hs := S.size
 have hl : ([d, a, b] : List Int).length = 3 := rfl
 have h0 := S.f0
 have h1 := S.f1
 have h2 := S.f2
 refine seek (fun k i => ir_one.l0 k s [d, a, b] [d, a, b] (([d, a, b] : List Int).length : Int) (i : Int) pn pp regs bs op d a b nm args) 3 (fun i => bt s (i : Int) = 32 ∧ ¬ rd [d, a, b] (i : Int) = 0) 72 _ ?_ ?_ ?_ ?_
 ·rintro i hi ⟨hx, hy⟩
  refine Ev.step (f := fun _ => some 72) (fun k => ?_) (Ev.now _)
  simp only [ir_one.l0]
  rw [zC (by omega), zC (by omega), zC (by omega), zC (by omega), zC hx, zD hy]
 ·intro i hi hx r' hE
  refine Ev.step (fun k => ?_) hE
  simp only [ir_one.l0]
  rw [zC (by omega), zC (by omega), zC (by omega), zC (by omega), wrap_nat (by omega)]
  by_cases c : bt s (i : Int) = 32
  ·rw [zC c, zC (Decidable.byContradiction fun y => hx ⟨c, y⟩)]
  ·rw [zD c]
 ·rintro ⟨i, hi, hx, hy⟩
  refine zD (fun hB => ?_)
  obtain ⟨_, f0, f1, f2⟩ := hB
  rcases lt3 hi with rfl | rfl | rfl
  ·exact hy (f0 (h0.1 hx))
  ·exact hy (f1 (h1.1 hx))
  ·exact hy (f2 (h2.1 hx))
 ·intro h
  rw [zC ⟨hb, fun x => Decidable.byContradiction fun y => h 0 (by omega) ⟨h0.2 x, y⟩, fun x => Decidable.byContradiction fun y => h 1 (by omega) ⟨h1.2 x, y⟩, fun x => Decidable.byContradiction fun y => h 2 (by omega) ⟨h2.2 x, y⟩⟩]
  exact Ev.step (fun k => by simp only [ir_one.l0]; rw [zD (by omega)]) (o1 pn pp regs bs op d a b nm args s S hop hb)
theorem one_ev (last : Bool) : Ev (fun k => ir_one.f k pn pp regs bs op d a b nm args last) (oneE regs (bs.length : Int) op d a b nm args last) := by
 unfold oneE
 by_cases hop : 1 ≤ op ∧ op ≤ 14
 ·obtain ⟨s, hs, S⟩ := shape_some hop
  have hyes : Ev (fun k => ir_one.j0 k s true pn pp regs bs op d a b nm args) 72 := Ev.step (f := fun _ => some 72) (fun k => by simp only [ir_one.j0]; rw [zC trivial]) (Ev.now _)
  by_cases c2 : lastOp op = last
  ·have hgo : (op = 11 ∨ (nm.toList = ([] : List UInt8) ∧ args.length = 0)) → Ev (fun k => ir_one.j0 k s false pn pp regs bs op d a b nm args) (if (1 ≤ op ∧ op ≤ 14) ∧ lastOp op = last ∧ bareP op d a b nm args then e1 regs (bs.length : Int) op d a b nm args else 72) := fun hb => by
    refine Ev.step (fun k => by simp only [ir_one.j0]; rw [zD Bool.false_ne_true, zJ]) ?_
    have := o0 pn pp regs bs op d a b nm args s S hop hb
    by_cases c3 : bareP op d a b nm args
    ·rw [zC ⟨hop, c2, c3⟩]
     rw [zC c3] at this
     exact this
    ·rw [zD (fun x => c3 x.2.2)]
     rw [zD c3] at this
     exact this
   by_cases c : op = 11
   ·exact Ev.congr (fun k => by unfold ir_one.f; rw [hs, zJ, zD S.ne, last_eq, zJ, zD (by simp [c2]), zC c]) (hgo (.inl c))
   ·by_cases c1 : nm.toList = ([] : List UInt8)
    ·refine Ev.congr (fun k => by unfold ir_one.f; rw [hs, zJ, zD S.ne, last_eq, zJ, zD (by simp [c2]), zD c, zC c1]) ?_
     by_cases c4 : (args.length : Int) > 0
     ·rw [zF c4, zD (fun x => by have := x.2.2.1; omega)]
      exact hyes
     ·rw [zG c4]
      exact hgo (.inr ⟨c1, by omega⟩)
    ·rw [zD (fun x => by
      rcases x.2.2.1 with y | y
      ·exact c y
      ·exact c1 y.1)]
     exact Ev.congr (fun k => by unfold ir_one.f; rw [hs, zJ, zD S.ne, last_eq, zJ, zD (by simp [c2]), zD c, zD c1]) hyes
  ·rw [zD (fun x => c2 x.2.1)]
   exact Ev.congr (fun k => by unfold ir_one.f; rw [hs, zJ, zD S.ne, last_eq, zJ, zC (by simpa using c2)]) hyes
 ·rw [zD (fun x => hop x.1)]
  refine Ev.congr (fun k => by unfold ir_one.f; rw [shape_none hop, zJ, zC nil_toList]) ?_
  exact Ev.step (f := fun _ => some 72) (fun k => by simp only [ir_one.j0]; rw [zC trivial]) (Ev.now _)
end
end Go.Proofs.YthidcafbhjahdaaDoor.PlainOne
namespace Go.Proofs.YthidcafbhjahdaaDoor.PlainHeavy
open Go Go.RowKit Go.Proofs.YthidcafbhjahdaaDoorW.PrintWords Go.Proofs.YthidcafbhjahdaaDoorW.PrintMore Go.Proofs.YthidcafbhjahdaaDoor.Q Go.Proofs.YthidcafbhjahdaaDoor.Plain
set_option linter.unusedVariables false
set_option linter.unusedSimpArgs false
theorem rdL_get {l : List (List SIns)} {j : Nat} (h : j < l.length) : rd_LIns l (j : Int) = l[j] := by
 show l.getD j [] = _
 rw [List.getD_eq_getElem?_getD, List.getElem?_eq_getElem h]
 rfl
theorem rdT_get {l : List SIns} {j : Nat} (h : j < l.length) : rd_TIns l (j : Int) = l[j] := by
 show l.getD j zIns = _
 rw [List.getD_eq_getElem?_getD, List.getElem?_eq_getElem h]
 rfl
structure FairB (x : List (List SIns)) : Prop where
 len : x.length ≤ 1000000000000000
 row : ∀ b ∈ x, b.length ≤ 1000000000000000
 ins : ∀ b ∈ x, ∀ y ∈ b, y.f5.length ≤ 17592186043904
end Go.Proofs.YthidcafbhjahdaaDoor.PlainHeavy
namespace Go.Proofs.YthidcafbhjahdaaDoor.PlainCheck
open Go Go.RowKit Go.Proofs.YthidcafbhjahdaaDoorW.PrintWords Go.Proofs.YthidcafbhjahdaaDoorW.PrintMore Go.Proofs.YthidcafbhjahdaaDoor.Q Go.Proofs.YthidcafbhjahdaaDoor.Plain Go.Proofs.YthidcafbhjahdaaDoor.PlainName Go.Proofs.YthidcafbhjahdaaDoor.PlainOne Go.Proofs.YthidcafbhjahdaaDoor.PlainHeavy
set_option linter.unusedVariables false
set_option linter.unusedSimpArgs false
def insE (regs nb : Int) (x : SIns) (last : Bool) : Int := oneE regs nb x.f0 x.f1 x.f2 x.f3 x.f4 x.f5 last
def rowE (regs nb : Int) : List SIns → Int
 | [] => 0
 | x :: xs => if insE regs nb x xs.isEmpty = 0 then rowE regs nb xs else insE regs nb x xs.isEmpty
def allE (regs nb : Int) : List (List SIns) → Int
 | [] => 0
 | b :: bs => if rowE regs nb b = 0 then allE regs nb bs else rowE regs nb b
def total : List (List SIns) → Nat
 | [] => 0
 | b :: bs => b.length + total bs
def fits (left : Int) (l : List (List SIns)) : Bool := decide ((∀ b ∈ l, b.length ≠ 0) ∧ (total l : Int) ≤ left)
def shapeP (params regs : Int) (bs : List (List SIns)) : Prop := 0 ≤ params ∧ params ≤ 4 ∧ params ≤ regs ∧ regs ≤ 64 ∧ 1 ≤ bs.length ∧ bs.length ≤ 32 ∧ fits 200 bs = true
instance (params regs : Int) (bs : List (List SIns)) : Decidable (shapeP params regs bs) := by unfold shapeP; infer_instance
def checkE (nm : ByteArray) (params regs : Int) (bs : List (List SIns)) : Int := if nameOk nm = true then (if shapeP params regs bs then allE regs (bs.length : Int) bs else 71) else 70
theorem fits_nil {left : Int} (h : 0 ≤ left) : fits left [] = true := by
 unfold fits
 apply zF
 exact ⟨by simp, by unfold total; omega⟩
theorem fits_cons (left : Int) (b : List SIns) (bs : List (List SIns)) : fits left (b :: bs) = (decide (b.length ≠ 0) && fits (left - b.length) bs) := by
 unfold fits
 rw [← Bool.decide_and]
 apply decide_eq_decide.2
 simp only [List.mem_cons, forall_eq_or_imp, total]
 constructor
 ·rintro ⟨⟨h1, h2⟩, h3⟩
  exact ⟨h1, h2, by omega⟩
 ·rintro ⟨h1, h2, h3⟩
  exact ⟨⟨h1, h2⟩, by omega⟩
theorem fits_neg {left : Int} {bs : List (List SIns)} (h : left < 0) : fits left bs = false := by
 unfold fits
 apply zG
 rintro ⟨_, h2⟩
 omega
theorem last_eq' {b : List SIns} {j : Nat} (hj : j < b.length) (hl : b.length ≤ 4611686018427387904) : ((j : Int) == wrap64 ((b.length : Int) - 1)) = (b.drop (j + 1)).isEmpty := by
 rw [wrap_pred (by omega) hl]
 by_cases c : j + 1 = b.length
 ·rw [List.drop_eq_nil_of_le (by omega)]
  simp
  omega
 ·have : b.drop (j + 1) ≠ [] := fun h => by
   have := congrArg List.length h
   rw [List.length_drop] at this
   simp at this
   omega
  rw [List.isEmpty_eq_false_iff.2 this]
  simp
  omega

section
variable (pn : ByteArray) (pp rg : Int) (bs : List (List SIns)) (hF : FairB bs)
include hF
theorem refshape_loop : ∀ (d i : Nat), bs.length - i = d → i ≤ bs.length → ∀ s : Int, 0 ≤ s → s ≤ 1000 * i → Ev (fun k => cubbyref07_Shape.l0 k bs s (i : Int)) (fits (200 - s) (bs.drop i)) := by
 have hlen := hF.len
 intro d
 induction d with
 | zero =>
  intro i hd hi s h0 hs
  rw [List.drop_eq_nil_of_le (by omega)]
  refine Ev.step (f := fun _ => some _) (fun k => by simp only [cubbyref07_Shape.l0]; rw [zD (by omega)]) ?_
  have : fits (200 - s) [] = decide (s ≤ 200) := by
   unfold fits total
   apply decide_eq_decide.2
   constructor
   ·rintro ⟨_, h⟩
    omega
   ·intro h
    exact ⟨by simp, by omega⟩
  rw [this]
  exact Ev.now _
 | succ d ih =>
  intro i hd hi s h0 hs
  have hlt : i < bs.length := by omega
  have hr := hF.row _ (List.getElem_mem hlt)
  rw [drop_cons hlt, fits_cons]
  by_cases c : ((bs[i]).length : Int) = 0
  ·rw [zG (by omega), Bool.false_and]
   exact Ev.step (f := fun _ => some false) (fun k => by simp only [cubbyref07_Shape.l0]; rw [zC (by omega), zC (by omega), rdL_get hlt, zC c]) (Ev.now _)
  ·by_cases c1 : ((bs[i]).length : Int) > 200
   ·rw [fits_neg (by omega), Bool.and_false]
    exact Ev.step (f := fun _ => some false) (fun k => by simp only [cubbyref07_Shape.l0]; rw [zC (by omega), zC (by omega), rdL_get hlt, zD c, zC c1]) (Ev.now _)
   ·rw [zF (by omega), Bool.true_and]
    have := ih (i + 1) (by omega) (by omega) (s + (bs[i]).length) (by omega) (by omega)
    rw [show 200 - s - ((bs[i]).length : Int) = 200 - (s + (bs[i]).length) by omega]
    refine Ev.step (fun k => ?_) this
    simp only [cubbyref07_Shape.l0]
    rw [zC (by omega), zC (by omega), rdL_get hlt, zD c, zD c1, wrap_nat (by omega), wrap_id (by omega) (by omega)]
theorem refshape_ev : Ev (fun k => cubbyref07_Shape.f k pp rg bs) (decide (shapeP pp rg bs)) := by
 have hyes : ¬ shapeP pp rg bs → Ev (fun k => cubbyref07_Shape.j0 k bs true) (decide (shapeP pp rg bs)) := fun h => by
  rw [zG h]
  exact Ev.step (f := fun _ => some false) (fun k => by simp only [cubbyref07_Shape.j0]; rw [zC trivial]) (Ev.now _)
 by_cases c0 : pp < 0
 ·exact Ev.congr (fun k => by unfold cubbyref07_Shape.f; rw [zC c0]) (hyes (fun h => by have := h.1; omega))
 by_cases c1 : pp > 4
 ·exact Ev.congr (fun k => by unfold cubbyref07_Shape.f; rw [zD c0, zC c1]) (hyes (fun h => by have := h.2.1; omega))
 by_cases c2 : rg < pp
 ·exact Ev.congr (fun k => by unfold cubbyref07_Shape.f; rw [zD c0, zD c1, zC c2]) (hyes (fun h => by have := h.2.2.1; omega))
 by_cases c3 : rg > 64
 ·exact Ev.congr (fun k => by unfold cubbyref07_Shape.f; rw [zD c0, zD c1, zD c2, zC c3]) (hyes (fun h => by have := h.2.2.2.1; omega))
 by_cases c4 : (bs.length : Int) < 1
 ·exact Ev.congr (fun k => by unfold cubbyref07_Shape.f; rw [zD c0, zD c1, zD c2, zD c3, zC c4]) (hyes (fun h => by have := h.2.2.2.2.1; omega))
 refine Ev.congr (fun k => by unfold cubbyref07_Shape.f; rw [zD c0, zD c1, zD c2, zD c3, zD c4]) ?_
 by_cases c5 : (bs.length : Int) > 32
 ·rw [zF c5]
  exact hyes (fun h => by have := h.2.2.2.2.2.1; omega)
 ·rw [zG c5]
  have := refshape_loop bs hF bs.length 0 (by omega) (by omega) 0 (by omega) (by omega)
  have e : fits (200 - 0) (bs.drop 0) = decide (shapeP pp rg bs) := by
   rw [List.drop_zero]
   unfold shapeP
   cases hf : fits (200 - 0) bs
   ·symm
    apply zG
    rintro ⟨_, _, _, _, _, _, h⟩
    rw [show (200 : Int) - 0 = 200 by omega, h] at hf
    exact absurd hf (by simp)
   ·symm
    apply zF
    exact ⟨by omega, by omega, by omega, by omega, by omega, by omega, hf⟩
  rw [← e]
  refine Ev.step (fun k => by simp only [cubbyref07_Shape.j0]; rw [zD Bool.false_ne_true]; rfl) this
theorem refcheck_row (i : Nat) (hi : i < bs.length) (R : Int) (h : Ev (fun k => cubbyref07_Check.l0 k ((i + 1 : Nat) : Int) pn pp rg bs) R) : ∀ (d j : Nat), bs[i].length - j = d → j ≤ bs[i].length → Ev (fun k => cubbyref07_Check.l1 k (i : Int) (j : Int) pn pp rg bs) (if rowE rg (bs.length : Int) (bs[i].drop j) = 0 then R else rowE rg (bs.length : Int) (bs[i].drop j)) := by
 have hlen := hF.len
 have hr := hF.row _ (List.getElem_mem hi)
 have hg := rdL_get hi
 intro d
 induction d with
 | zero =>
  intro j hd hj
  rw [List.drop_eq_nil_of_le (by omega)]
  unfold rowE
  rw [zC rfl]
  exact Ev.step (fun k => by simp only [cubbyref07_Check.l1]; rw [zC (by omega), zC (by omega), hg, zD (by omega), wrap_nat (by omega)]) h
 | succ d ih =>
  intro j hd hj
  have hlt : j < bs[i].length := by omega
  have hx := hF.ins _ (List.getElem_mem hi) _ (List.getElem_mem hlt)
  rw [drop_cons hlt]
  unfold rowE
  have h1 := refone_ev bs[i][j].f0 bs[i][j].f1 bs[i][j].f2 bs[i][j].f3 bs[i][j].f4 bs[i][j].f5 (by omega) rg (bs.length : Int) (bs[i].drop (j + 1)).isEmpty
  refine Ev.step (fun k => by simp only [cubbyref07_Check.l1]; rw [zC (by omega), zC (by omega), hg, zC (by omega), zC (by omega), rdT_get hlt, last_eq' hlt (by omega)]) (Ev.bind h1 ?_)
  show Ev (fun n => if insE rg (bs.length : Int) bs[i][j] (bs[i].drop (j + 1)).isEmpty = 0 then _ else some (insE rg (bs.length : Int) bs[i][j] (bs[i].drop (j + 1)).isEmpty)) _
  by_cases c : insE rg (bs.length : Int) bs[i][j] (bs[i].drop (j + 1)).isEmpty = 0
  ·rw [zC c]
   exact Ev.congr (fun k => by rw [zC c, wrap_nat (by omega)]) (ih (j + 1) (by omega) (by omega))
  ·rw [zD c, zD c]
   exact Ev.congr (f := fun _ => some _) (fun k => by rw [zD c]) (Ev.now _)
theorem refcheck_all : ∀ (d i : Nat), bs.length - i = d → i ≤ bs.length → Ev (fun k => cubbyref07_Check.l0 k (i : Int) pn pp rg bs) (allE rg (bs.length : Int) (bs.drop i)) := by
 intro d
 induction d with
 | zero =>
  intro i hd hi
  rw [List.drop_eq_nil_of_le (by omega)]
  exact Ev.step (f := fun _ => some 0) (fun k => by simp only [cubbyref07_Check.l0]; rw [zD (by omega)]) (Ev.now _)
 | succ d ih =>
  intro i hd hi
  have hlt : i < bs.length := by omega
  rw [drop_cons hlt]
  unfold allE
  refine Ev.step (fun k => by simp only [cubbyref07_Check.l0]; rw [zC (by omega)]) ?_
  have := refcheck_row pn pp rg bs hF i hlt _ (ih (i + 1) (by omega) (by omega)) bs[i].length 0 (by omega) (by omega)
  rw [List.drop_zero] at this
  exact this
theorem refcheck_ev : Ev (fun k => cubbyref07_Check.f k pn pp rg bs) (checkE pn pp rg bs) := by
 unfold checkE
 refine Ev.bind (refname_ev pn) ?_
 cases nameOk pn
 ·exact Ev.congr (f := fun _ => some 70) (fun k => by rw [zD Bool.false_ne_true]) (Ev.now _)
 ·refine Ev.congr (fun k => by rw [zC rfl]) (Ev.bind (refshape_ev pp rg bs hF) ?_)
  rw [zC rfl]
  by_cases c : shapeP pp rg bs
  ·rw [zC c, zF c]
   have := refcheck_all pn pp rg bs hF bs.length 0 (by omega) (by omega)
   exact Ev.congr (fun k => by rw [zC rfl]; rfl) this
  ·rw [zD c, zG c]
   exact Ev.congr (f := fun _ => some 71) (fun k => by rw [zD Bool.false_ne_true]) (Ev.now _)

theorem check_row (i : Nat) (hi : i < bs.length) (R : Int) (h : Ev (fun k => ir_Check.l1 k bs (bs.length : Int) ((i + 1 : Nat) : Int) pn pp rg bs) R) : ∀ (d j : Nat), bs[i].length - j = d → j ≤ bs[i].length → Ev (fun k => ir_Check.l2 k bs[i] bs (bs.length : Int) (i : Int) bs[i] (bs[i].length : Int) (j : Int) pn pp rg bs) (if rowE rg (bs.length : Int) (bs[i].drop j) = 0 then R else rowE rg (bs.length : Int) (bs[i].drop j)) := by
 have hlen := hF.len
 have hr := hF.row _ (List.getElem_mem hi)
 intro d
 induction d with
 | zero =>
  intro j hd hj
  rw [List.drop_eq_nil_of_le (by omega)]
  unfold rowE
  rw [zC rfl]
  exact Ev.step (fun k => by simp only [ir_Check.l2]; rw [zD (by omega), wrap_nat (by omega)]) h
 | succ d ih =>
  intro j hd hj
  have hlt : j < bs[i].length := by omega
  have hx := hF.ins _ (List.getElem_mem hi) _ (List.getElem_mem hlt)
  rw [drop_cons hlt]
  unfold rowE
  have h1 := one_ev pn pp rg bs bs[i][j].f0 bs[i][j].f1 bs[i][j].f2 bs[i][j].f3 bs[i][j].f4 bs[i][j].f5 (bs[i].drop (j + 1)).isEmpty
  refine Ev.step (fun k => by simp only [ir_Check.l2]; rw [zC (by omega), zC (by omega), zC (by omega), rdT_get hlt, last_eq' hlt (by omega)]) (Ev.bind h1 ?_)
  show Ev (fun n => if insE rg (bs.length : Int) bs[i][j] (bs[i].drop (j + 1)).isEmpty = 0 then _ else some (insE rg (bs.length : Int) bs[i][j] (bs[i].drop (j + 1)).isEmpty)) _
  by_cases c : insE rg (bs.length : Int) bs[i][j] (bs[i].drop (j + 1)).isEmpty = 0
  ·rw [zC c]
   exact Ev.congr (fun k => by rw [zC c, wrap_nat (by omega)]) (ih (j + 1) (by omega) (by omega))
  ·rw [zD c, zD c]
   exact Ev.congr (f := fun _ => some _) (fun k => by rw [zD c]) (Ev.now _)
theorem check_all : ∀ (d i : Nat), bs.length - i = d → i ≤ bs.length → Ev (fun k => ir_Check.l1 k bs (bs.length : Int) (i : Int) pn pp rg bs) (allE rg (bs.length : Int) (bs.drop i)) := by
 intro d
 induction d with
 | zero =>
  intro i hd hi
  rw [List.drop_eq_nil_of_le (by omega)]
  exact Ev.step (f := fun _ => some 0) (fun k => by simp only [ir_Check.l1]; rw [zD (by omega)]) (Ev.now _)
 | succ d ih =>
  intro i hd hi
  have hlt : i < bs.length := by omega
  rw [drop_cons hlt]
  unfold allE
  refine Ev.step (fun k => by simp only [ir_Check.l1]; rw [zC (by omega), zC (by omega), zC (by omega), rdL_get hlt]) ?_
  have := check_row pn pp rg bs hF i hlt _ (ih (i + 1) (by omega) (by omega)) bs[i].length 0 (by omega) (by omega)
  rw [List.drop_zero] at this
  exact this
theorem check_fits : ∀ (d i : Nat), bs.length - i = d → i ≤ bs.length → ∀ left : Int, 0 ≤ left → left ≤ 200 → Ev (fun k => ir_Check.l0 k left bs (bs.length : Int) (i : Int) pn pp rg bs) (if fits left (bs.drop i) = true then allE rg (bs.length : Int) bs else 71) := by
 have hlen := hF.len
 intro d
 induction d with
 | zero =>
  intro i hd hi left h0 h1
  rw [List.drop_eq_nil_of_le (by omega), fits_nil h0, zC rfl]
  have := check_all pn pp rg bs hF bs.length 0 (by omega) (by omega)
  exact Ev.step (fun k => by simp only [ir_Check.l0]; rw [zD (by omega)]; rfl) this
 | succ d ih =>
  intro i hd hi left h0 h1
  have hlt : i < bs.length := by omega
  rw [drop_cons hlt, fits_cons]
  by_cases c : ((bs[i]).length : Int) = 0
  ·rw [zG (by omega), Bool.false_and, zD Bool.false_ne_true]
   exact Ev.step (f := fun _ => some 71) (fun k => by simp only [ir_Check.l0]; rw [zC (by omega), zC (by omega), zC (by omega), rdL_get hlt, zC c]) (Ev.now _)
  ·by_cases c1 : ((bs[i]).length : Int) > left
   ·rw [fits_neg (by omega), Bool.and_false, zD Bool.false_ne_true]
    exact Ev.step (f := fun _ => some 71) (fun k => by simp only [ir_Check.l0]; rw [zC (by omega), zC (by omega), zC (by omega), rdL_get hlt, zD c, zC c1]) (Ev.now _)
   ·rw [zF (by omega), Bool.true_and]
    refine Ev.step (fun k => ?_) (ih (i + 1) (by omega) (by omega) (left - (bs[i]).length) (by omega) (by omega))
    simp only [ir_Check.l0]
    rw [zC (by omega), zC (by omega), zC (by omega), rdL_get hlt, zD c, zD c1, wrap_nat (by omega), wrap_id (by omega) (by omega)]
theorem check_ev : Ev (fun k => ir_Check.f k pn pp rg bs) (checkE pn pp rg bs) := by
 unfold checkE
 cases hn : nameOk pn
 ·exact Ev.congr (f := fun _ => some 70) (fun k => by unfold ir_Check.f; rw [name_eq, zJ, hn, zD Bool.false_ne_true]) (Ev.now _)
 ·rw [zC rfl]
  refine Ev.congr (fun k => by unfold ir_Check.f; rw [name_eq, zJ, hn, zC rfl]) ?_
  have hyes : ¬ shapeP pp rg bs → Ev (fun k => ir_Check.j0 k true pn pp rg bs) (if shapeP pp rg bs then allE rg (bs.length : Int) bs else 71) := fun h => by
   rw [zD h]
   exact Ev.step (f := fun _ => some 71) (fun k => by simp only [ir_Check.j0]; rw [zC trivial]) (Ev.now _)
  by_cases c0 : pp < 0
  ·exact Ev.congr (fun k => by rw [zC c0]) (hyes (fun h => by have := h.1; omega))
  by_cases c1 : pp > 4
  ·exact Ev.congr (fun k => by rw [zD c0, zC c1]) (hyes (fun h => by have := h.2.1; omega))
  by_cases c2 : rg < pp
  ·exact Ev.congr (fun k => by rw [zD c0, zD c1, zC c2]) (hyes (fun h => by have := h.2.2.1; omega))
  by_cases c3 : rg > 64
  ·exact Ev.congr (fun k => by rw [zD c0, zD c1, zD c2, zC c3]) (hyes (fun h => by have := h.2.2.2.1; omega))
  by_cases c4 : (bs.length : Int) < 1
  ·exact Ev.congr (fun k => by rw [zD c0, zD c1, zD c2, zD c3, zC c4]) (hyes (fun h => by have := h.2.2.2.2.1; omega))
  refine Ev.congr (fun k => by rw [zD c0, zD c1, zD c2, zD c3, zD c4]) ?_
  by_cases c5 : (bs.length : Int) > 32
  ·rw [zF c5]
   exact hyes (fun h => by have := h.2.2.2.2.2.1; omega)
  ·rw [zG c5]
   have := check_fits pn pp rg bs hF bs.length 0 (by omega) (by omega) 200 (by omega) (by omega)
   rw [List.drop_zero] at this
   refine Ev.step (f := fun k => ir_Check.l0 k 200 bs (bs.length : Int) ((0 : Nat) : Int) pn pp rg bs) (fun k => by simp only [ir_Check.j0]; rw [zD Bool.false_ne_true]; rfl) ?_
   by_cases hf : fits 200 bs = true
   ·rw [zC hf] at this
    rw [zC ⟨by omega, by omega, by omega, by omega, by omega, by omega, hf⟩]
    exact this
   ·rw [zD hf] at this
    rw [zD (fun h => hf h.2.2.2.2.2.2)]
    exact this
end
end Go.Proofs.YthidcafbhjahdaaDoor.PlainCheck
namespace Go.Proofs.YthidcafbhjahdaaDoor.PlainCheck
open Go Go.RowKit Go.Proofs.YthidcafbhjahdaaDoorW.PrintWords Go.Proofs.YthidcafbhjahdaaDoorW.PrintMore Go.Proofs.YthidcafbhjahdaaDoor.Q Go.Proofs.YthidcafbhjahdaaDoor.Plain Go.Proofs.YthidcafbhjahdaaDoor.PlainIr Go.Proofs.YthidcafbhjahdaaDoor.PlainName Go.Proofs.YthidcafbhjahdaaDoor.PlainOne Go.Proofs.YthidcafbhjahdaaDoor.PlainHeavy
set_option linter.unusedVariables false
theorem allE_zero {rg nb : Int} : ∀ {bs : List (List SIns)}, allE rg nb bs = 0 → ∀ b ∈ bs, rowE rg nb b = 0
 | [], _ => by simp
 | c :: bs, h => by
  unfold allE at h
  split at h
  ·next h1 =>
   intro b hb
   rcases List.mem_cons.1 hb with rfl | hb
   ·exact h1
   ·exact allE_zero h b hb
  ·next h1 => exact absurd h h1
theorem rowE_zero {rg nb : Int} : ∀ {b : List SIns}, rowE rg nb b = 0 → ∀ (j : Nat) (h : j < b.length), insE rg nb b[j] (b.drop (j + 1)).isEmpty = 0
 | [], _ => by
  intro j h
  exact absurd h (by simp)
 | x :: xs, h => by
  unfold rowE at h
  split at h
  ·next h1 =>
   intro j hj
   cases j with
   | zero => exact h1
   | succ j => exact rowE_zero h j (by simpa using hj)
  ·next h1 => exact absurd h h1
structure InsOk (rg nb : Int) (x : SIns) (last : Bool) : Prop where
 op : 1 ≤ x.f0 ∧ x.f0 ≤ 14
 last : lastOp x.f0 = last
 bare : bareP x.f0 x.f1 x.f2 x.f3 x.f4 x.f5
 def_ : hasD x.f0 → 0 ≤ x.f1 ∧ x.f1 < rg
 use : ∀ n ∈ uses x.f0 x.f2 x.f3 x.f5, 0 ≤ n ∧ n < rg
 num : x.f0 = 1 → 0 ≤ x.f2 ∧ x.f2 < 65536
 goal : ∀ n ∈ targets7 x.f0 x.f1 x.f2 x.f3, 0 ≤ n ∧ n < nb
 name : x.f0 = 11 → nameOk x.f4 = true ∧ x.f5.length ≤ 4
theorem not_any {m : Int} {l : List Int} (h : ¬ l.any (oddReg m) = true) : ∀ n ∈ l, 0 ≤ n ∧ n < m := by
 intro n hn
 have : ¬ oddReg m n = true := fun hx => h (List.any_eq_true.2 ⟨n, hn, hx⟩)
 rw [odd_iff] at this
 omega
theorem insE_zero {rg nb : Int} {x : SIns} {last : Bool} (h : insE rg nb x last = 0) : InsOk rg nb x last := by
 unfold insE oneE at h
 split at h
 ·next h0 =>
  unfold e1 at h
  split at h
  ·exact absurd h (by decide)
  ·next h1 =>
   unfold e2 at h
   split at h
   ·exact absurd h (by decide)
   ·next h2 =>
    unfold e3 at h
    split at h
    ·exact absurd h (by decide)
    ·next h3 =>
     unfold e4 at h
     split at h
     ·exact absurd h (by decide)
     ·next h4 =>
      unfold e5 at h
      split at h
      ·exact absurd h (by decide)
      ·next h5 =>
       refine ⟨h0.1, h0.2.1, h0.2.2, ?_, not_any (fun y => h1 (.inr y)), ?_, not_any h3, ?_⟩
       ·intro hd
        have : ¬ oddReg rg x.f1 = true := fun y => h1 (.inl ⟨hd, y⟩)
        rw [odd_iff] at this
        omega
       ·intro h6
        omega
       ·intro h6
        refine ⟨?_, by omega⟩
        cases hn : nameOk x.f4
        ·exact absurd ⟨h6, hn⟩ h4
        ·rfl
 ·exact absurd h (by decide)
structure FuncOk (nm : ByteArray) (params regs : Int) (bs : List (List SIns)) : Prop where
 name : nameOk nm = true
 shape : shapeP params regs bs
 row : ∀ b ∈ bs, b.length ≠ 0
 tot : total bs ≤ 200
 ins : ∀ b ∈ bs, ∀ (j : Nat) (h : j < b.length), InsOk regs (bs.length : Int) b[j] (b.drop (j + 1)).isEmpty
theorem checkE_zero {nm : ByteArray} {params regs : Int} {bs : List (List SIns)} (h : checkE nm params regs bs = 0) : FuncOk nm params regs bs := by
 unfold checkE at h
 split at h
 ·next h0 =>
  split at h
  ·next h1 =>
   have hf := zB h1.2.2.2.2.2.2
   exact ⟨h0, h1, hf.1, by have := hf.2; omega, fun b hb j hj => insE_zero (rowE_zero (allE_zero h b hb) j hj)⟩
  ·exact absurd h (by decide)
 ·exact absurd h (by decide)
end Go.Proofs.YthidcafbhjahdaaDoor.PlainCheck
namespace Go.Proofs.YthidcafbhjahdaaDoor.PlainSpoilt
open Go Go.RowKit Go.Proofs.YthidcafbhjahdaaDoorW.PrintWords Go.Proofs.YthidcafbhjahdaaDoorW.PrintMore Go.Proofs.YthidcafbhjahdaaDoor.Q Go.Proofs.YthidcafbhjahdaaDoor.Plain Go.Proofs.YthidcafbhjahdaaDoor.PlainIr Go.Proofs.YthidcafbhjahdaaDoor.PlainName Go.Proofs.YthidcafbhjahdaaDoor.PlainOne Go.Proofs.YthidcafbhjahdaaDoor.PlainHeavy Go.Proofs.YthidcafbhjahdaaDoor.PlainCheck
set_option linter.unusedVariables false
set_option linter.unusedSimpArgs false
theorem ins_spoil {regs nb : Int} {x : SIns} {last : Bool} (h : insE regs nb x last = 0) : insE regs nb (spoil regs nb x) last = wantE x := by
 have hr : oddReg regs regs = true := (odd_iff _ _).2 (.inr (Int.le_refl _))
 have hn : oddReg nb nb = true := (odd_iff _ _).2 (.inr (Int.le_refl _))
 obtain ⟨op, d, a, b, nm, args⟩ := x
 simp only [insE, oneE] at h
 by_cases c : (1 ≤ op ∧ op ≤ 14) ∧ lastOp op = last ∧ bareP op d a b nm args
 case neg => rw [zD c] at h; exact absurd h (by decide)
 obtain ⟨c1, c2, c3, c4, c5, c6⟩ := c
 unfold insE spoil wantE
 by_cases e12 : op = 12
 ·simp only [zC e12]
  unfold oneE
  rw [zC ⟨c1, c2, c3, c4, fun e => absurd e (by omega), c6⟩]
  unfold e1
  rw [zD (by
   rintro (⟨hd, -⟩ | hu)
   ·unfold hasD at hd; omega
   ·unfold uses at hu
    rw [zD (by omega), zD (by omega), zD (by omega)] at hu
    simp at hu)]
  unfold e2
  rw [zD (by omega)]
  unfold e3
  rw [zC (by unfold targets7; rw [zC e12]; simp [hn])]
 ·simp only [zD e12]
  by_cases e11 : op = 11 ∨ op = 1
  ·simp only [zC e11]
   unfold oneE
   rw [zC ⟨c1, c2, c3, fun e => absurd e (by omega), c5, c6⟩]
   unfold e1
   rw [zC (.inl ⟨by unfold hasD; omega, hr⟩)]
  ·simp only [zD e11]
   unfold oneE
   rw [zC ⟨c1, c2, c3, c4, fun e => absurd e (by omega), c6⟩]
   unfold e1
   rw [zC (.inr (by
    unfold uses
    by_cases u1 : op = 2 ∨ op = 8 ∨ op = 10 ∨ op = 13 ∨ op = 14
    ·rw [zC u1]; simp [hr]
    ·rw [zD u1, zC (by omega)]; simp [hr]))]
theorem want_ne (x : SIns) : wantE x ≠ 0 := by
 unfold wantE
 split <;> decide
theorem row_spoil {regs nb : Int} {x' : SIns} {e : Int} (he : e ≠ 0) : ∀ (b : List SIns) (k : Nat) (hk : k < b.length), rowE regs nb b = 0 → insE regs nb x' (b.drop (k + 1)).isEmpty = e → rowE regs nb (b.set k x') = e
 | [], k, hk, _, _ => absurd hk (by simp)
 | y :: ys, 0, _, h, hx => by
  simp only [List.set_cons_zero, rowE]
  simp only [Nat.zero_add, List.drop_succ_cons, List.drop_zero] at hx
  rw [hx, zD he]
 | y :: ys, k + 1, hk, h, hx => by
  simp only [List.set_cons_succ, rowE]
  simp only [rowE] at h
  by_cases c : insE regs nb y ys.isEmpty = 0
  ·rw [zC c] at h
   have hl : (ys.set k x').isEmpty = ys.isEmpty := by cases ys with
    | nil => rfl
    | cons z zs => cases k <;> rfl
   rw [hl, zC c]
   exact row_spoil he ys k (by simpa using hk) h (by simpa using hx)
  ·rw [zD c] at h; exact absurd h c
theorem all_spoil {regs nb : Int} {b' : List SIns} {e : Int} (he : e ≠ 0) : ∀ (bs : List (List SIns)) (i : Nat) (hi : i < bs.length), allE regs nb bs = 0 → rowE regs nb b' = e → allE regs nb (bs.set i b') = e
 | [], i, hi, _, _ => absurd hi (by simp)
 | y :: ys, 0, _, h, hx => by
  simp only [List.set_cons_zero, allE]
  rw [hx, zD he]
 | y :: ys, i + 1, hi, h, hx => by
  simp only [List.set_cons_succ, allE]
  simp only [allE] at h
  by_cases c : rowE regs nb y = 0
  ·rw [zC c] at h
   rw [zC c]
   exact all_spoil he ys i (by simpa using hi) h hx
  ·rw [zD c] at h; exact absurd h c
theorem row_at {regs nb : Int} : ∀ (b : List SIns) (k : Nat) (hk : k < b.length), rowE regs nb b = 0 → insE regs nb b[k] (b.drop (k + 1)).isEmpty = 0
 | [], k, hk, _ => absurd hk (by simp)
 | y :: ys, 0, _, h => by
  simp only [rowE] at h
  by_cases c : insE regs nb y ys.isEmpty = 0
  ·simpa using c
  ·rw [zD c] at h; exact absurd h c
 | y :: ys, k + 1, hk, h => by
  simp only [rowE] at h
  by_cases c : insE regs nb y ys.isEmpty = 0
  ·rw [zC c] at h
   simpa using row_at ys k (by simpa using hk) h
  ·rw [zD c] at h; exact absurd h c
theorem all_at {regs nb : Int} : ∀ (bs : List (List SIns)) (i : Nat) (hi : i < bs.length), allE regs nb bs = 0 → rowE regs nb bs[i] = 0
 | [], i, hi, _ => absurd hi (by simp)
 | y :: ys, 0, _, h => by
  simp only [allE] at h
  by_cases c : rowE regs nb y = 0
  ·simpa using c
  ·rw [zD c] at h; exact absurd h c
 | y :: ys, i + 1, hi, h => by
  simp only [allE] at h
  by_cases c : rowE regs nb y = 0
  ·rw [zC c] at h
   simpa using all_at ys i (by simpa using hi) h
  ·rw [zD c] at h; exact absurd h c
theorem total_set : ∀ (bs : List (List SIns)) (i : Nat) (hi : i < bs.length) (b' : List SIns), b'.length = bs[i].length → total (bs.set i b') = total bs
 | [], i, hi, _, _ => absurd hi (by simp)
 | y :: ys, 0, _, b', h => by simp only [List.set_cons_zero, total]; rw [show b'.length = y.length from by simpa using h]
 | y :: ys, i + 1, hi, b', h => by simp only [List.set_cons_succ, total]; rw [total_set ys i (by simpa using hi) b' (by simpa using h)]
theorem shape_set {params regs : Int} {bs : List (List SIns)} (i : Nat) (hi : i < bs.length) (b' : List SIns) (hl : b'.length = bs[i].length) (h : shapeP params regs bs) : shapeP params regs (bs.set i b') := by
 obtain ⟨h1, h2, h3, h4, h5, h6, h7⟩ := h
 refine ⟨h1, h2, h3, h4, by simpa using h5, by simpa using h6, ?_⟩
 unfold fits at h7 ⊢
 have h7 := zB h7
 refine zF ⟨fun b hb => ?_, by rw [total_set bs i hi b' hl]; exact h7.2⟩
 rcases List.mem_or_eq_of_mem_set hb with hb | rfl
 ·exact h7.1 b hb
 ·rw [hl]; exact h7.1 _ (List.getElem_mem hi)
theorem check_spoil {nm : ByteArray} {params regs : Int} {bs : List (List SIns)} (h : checkE nm params regs bs = 0) (i : Nat) (hi : i < bs.length) (k : Nat) (hk : k < bs[i].length) :
 checkE nm params regs (bs.set i (bs[i].set k (spoil regs (bs.length : Int) bs[i][k]))) = wantE bs[i][k] := by
 unfold checkE at h ⊢
 by_cases c1 : nameOk nm = true
 case neg => rw [zD c1] at h; exact absurd h (by decide)
 rw [zC c1] at h ⊢
 by_cases c2 : shapeP params regs bs
 case neg => rw [zD c2] at h; exact absurd h (by decide)
 rw [zC c2] at h
 rw [zC (shape_set i hi _ (by simp) c2), List.length_set]
 have hr := all_at bs i hi h
 exact all_spoil (want_ne _) bs i hi h (row_spoil (want_ne _) _ k hk hr (ins_spoil (row_at _ k hk hr)))
end Go.Proofs.YthidcafbhjahdaaDoor.PlainSpoilt
namespace Go.Proofs.YthidcafbhjahdaaDoor.PlainHeavy
open Go Go.RowKit Go.Proofs.YthidcafbhjahdaaDoorW.PrintWords Go.Proofs.YthidcafbhjahdaaDoorW.PrintMore Go.Proofs.YthidcafbhjahdaaDoor.Q Go.Proofs.YthidcafbhjahdaaDoor.Plain
set_option linter.unusedVariables false
set_option linter.unusedSimpArgs false
def badI (x : SIns) : Bool := decide (100 < x.f5.length ∨ 1024 < x.f4.size)
theorem badI_iff (x : SIns) : badI x = true ↔ (100 < x.f5.length ∨ 1024 < x.f4.size) := by
 unfold badI
 exact decide_eq_true_iff
def hv : Int → List (List SIns) → Bool
 | n, [] => decide (n > 500)
 | n, b :: bs => if n ≤ 500 then (if (b.take 501).any badI = true then true else hv (n + mn (b.length : Int) 1048576) bs) else true
theorem mn_nat (j : Nat) : 0 ≤ mn (j : Int) 1048576 ∧ ((mn (j : Int) 1048576 = j ∧ j ≤ 1048576) ∨ (mn (j : Int) 1048576 = 1048576 ∧ 1048576 ≤ j)) := by
 unfold mn
 split <;> omega
theorem hv_le : ∀ (l : List (List SIns)) (n : Int), hv n l = false → n ≤ 500
 | [], n, h => by
  unfold hv at h
  have := of_decide_eq_false h
  omega
 | b :: bs, n, h => by
  unfold hv at h
  split at h
  ·assumption
  ·exact absurd h (by simp)
theorem hv_fair : ∀ (l : List (List SIns)) (n : Int), 0 ≤ n → hv n l = false → ∀ b ∈ l, b.length ≤ 500 ∧ ∀ y ∈ b, badI y = false
 | [], n, _, h => by simp
 | b :: bs, n, h0, h => by
  unfold hv at h
  split at h
  ·split at h
   ·exact absurd h (by simp)
   ·next hn hb =>
    have hm := mn_nat b.length
    have hle := hv_le bs _ h
    have hlen : b.length ≤ 500 := by omega
    intro c hc
    rcases List.mem_cons.1 hc with rfl | hc
    ·refine ⟨hlen, fun y hy => ?_⟩
     rw [List.take_of_length_le (by omega)] at hb
     cases hy1 : badI y with
     | false => rfl
     | true => exact absurd (List.any_eq_true.2 ⟨y, hy, hy1⟩) hb
    ·exact hv_fair bs _ (by omega) h c hc
  ·exact absurd h (by simp)
theorem hrow (x : List (List SIns)) (n : Int) (i : Nat) (hi : i < x.length) (R : Bool) (h : (x[i].take 501).any badI = false → Ev (fun k => cubbylaw07_heavy.l0 k x n ((i + 1 : Nat) : Int)) R) (hil : i ≤ 1000) : Ev (fun k => cubbylaw07_heavy.l1 k x n (i : Int) 0) (if (x[i].take 501).any badI = true then true else R) := by
 have hg := rdL_get hi
 have hout : ∀ j : Nat, (j = x[i].length ∨ 500 < j) → (x[i].take 501).any badI = false → Ev (fun k => cubbylaw07_heavy.l1 k x n (i : Int) (j : Int)) R := by
  intro j hj hb
  have h3 : Ev (fun k => cubbylaw07_heavy.j3 k x n (i : Int) (j : Int) false) R := Ev.step (fun k => by simp only [cubbylaw07_heavy.j3]; rw [zD Bool.false_ne_true, wrap_nat (by omega)]) (h hb)
  by_cases c : j < x[i].length
  ·refine Ev.step (fun k => by simp only [cubbylaw07_heavy.l1]; rw [zC (by omega), zC (by omega), hg, zC (by omega), zG (by omega)]) h3
  ·exact Ev.step (fun k => by simp only [cubbylaw07_heavy.l1]; rw [zC (by omega), zC (by omega), hg, zD (by omega)]) h3
 have hany : (x[i].take 501).any badI = true ↔ ∃ j : Nat, j < min x[i].length 501 ∧ badI (rd_TIns x[i] (j : Int)) = true := by
  rw [List.any_eq_true]
  constructor
  ·rintro ⟨y, hy, hb⟩
   obtain ⟨j, hj, rfl⟩ := List.mem_iff_getElem.1 hy
   rw [List.length_take] at hj
   refine ⟨j, by omega, ?_⟩
   rw [rdT_get (by omega)]
   rwa [List.getElem_take] at hb
  ·rintro ⟨j, hj, hb⟩
   rw [rdT_get (by omega)] at hb
   exact ⟨_, List.mem_iff_getElem.2 ⟨j, by rw [List.length_take]; omega, List.getElem_take⟩, hb⟩
 refine seek (fun k j => cubbylaw07_heavy.l1 k x n (i : Int) (j : Int)) (min x[i].length 501) (fun j => badI (rd_TIns x[i] (j : Int)) = true) true _ ?_ ?_ ?_ ?_
 ·intro j hj hb
  rw [badI_iff] at hb
  refine Ev.step (fun k => by simp only [cubbylaw07_heavy.l1]; rw [zC (by omega), zC (by omega), hg, zC (by omega), zF (by omega)]) ?_
  refine Ev.step (f := fun _ => some true) (fun k => ?_) (Ev.now _)
  simp only [cubbylaw07_heavy.j3]
  rw [zC trivial, zC (by omega), zC (by omega), hg, zC (by omega), zC (by omega)]
  split
  ·rfl
  ·rw [zC (by omega)]
 ·intro j hj hb r' hE
  rw [badI_iff] at hb
  refine Ev.step (fun k => by simp only [cubbylaw07_heavy.l1]; rw [zC (by omega), zC (by omega), hg, zC (by omega), zF (by omega)]) ?_
  refine Ev.step (fun k => ?_) hE
  simp only [cubbylaw07_heavy.j3]
  rw [zC trivial, zC (by omega), zC (by omega), hg, zC (by omega), zC (by omega), zD (by omega), zD (by omega), wrap_nat (by omega)]
 ·intro hb
  rw [zC (hany.2 hb)]
 ·intro hb
  have hn : (x[i].take 501).any badI = false := by
   rw [← Bool.not_eq_true, hany]
   rintro ⟨j, hj, h1⟩
   exact hb j hj h1
  rw [hn]
  exact hout _ (by omega) hn
theorem heavy_loop (x : List (List SIns)) (hx : x.length ≤ 100) : ∀ (d i : Nat), x.length - i = d → i ≤ x.length → ∀ n : Int, 0 ≤ n → Ev (fun k => cubbylaw07_heavy.l0 k x n (i : Int)) (hv n (x.drop i)) := by
 intro d
 induction d with
 | zero =>
  intro i hd hi n hn
  rw [List.drop_eq_nil_of_le (by omega)]
  refine Ev.step (fun k => by simp only [cubbylaw07_heavy.l0]; rw [zD (by omega)]) ?_
  exact Ev.step (f := fun _ => some (decide (n > 500))) (fun k => by simp only [cubbylaw07_heavy.j1]; rw [zD Bool.false_ne_true]) (Ev.now _)
 | succ d ih =>
  intro i hd hi n hn
  have hlt : i < x.length := by omega
  rw [drop_cons hlt]
  unfold hv
  have hm := mn_nat x[i].length
  by_cases c : n ≤ 500
  ·rw [zC c]
   refine Ev.step (fun k => by simp only [cubbylaw07_heavy.l0]; rw [zC (by omega), zF c]) ?_
   refine Ev.step (fun k => by simp only [cubbylaw07_heavy.j1]; rw [zC trivial, zC (by omega), zC (by omega), rdL_get hlt, wrap_id (by omega) (by omega)]) ?_
   exact hrow x _ i hlt _ (fun _ => ih (i + 1) (by omega) (by omega) _ (by omega)) (by omega)
  ·rw [zD c]
   refine Ev.step (fun k => by simp only [cubbylaw07_heavy.l0]; rw [zC (by omega), zG c]) ?_
   exact Ev.step (f := fun _ => some true) (fun k => by simp only [cubbylaw07_heavy.j1]; rw [zD Bool.false_ne_true, zF (by omega)]) (Ev.now _)
theorem heavy_ev (x : List (List SIns)) : ∃ h, Ev (fun k => cubbylaw07_heavy.f k x) h ∧ (h = false → FairB x) := by
 by_cases c : (x.length : Int) > 100
 ·exact ⟨true, Ev.congr (f := fun _ => some true) (fun k => by unfold cubbylaw07_heavy.f; rw [zC c]) (Ev.now _), by simp⟩
 ·refine ⟨hv 0 x, Ev.congr (fun k => by unfold cubbylaw07_heavy.f; rw [zD c]; rfl) (heavy_loop x (by omega) x.length 0 (by omega) (by omega) 0 (by omega)), fun h => ?_⟩
  have hf := hv_fair x 0 (by omega) h
  refine ⟨by omega, fun b hb => by have := (hf b hb).1; omega, fun b hb y hy => ?_⟩
  have := (hf b hb).2 y hy
  have h1 := badI_iff y
  rw [this] at h1
  have : ¬ (100 < y.f5.length ∨ 1024 < y.f4.size) := fun h => absurd (h1.2 h) (by simp)
  omega
end Go.Proofs.YthidcafbhjahdaaDoor.PlainHeavy
namespace Go.Proofs.YthidcafbhjahdaaDoor.RIrSpoilt.Pure
open Go Go.RowKit Go.Proofs.YthidcafbhjahdaaDoorW.PrintWords Go.Proofs.YthidcafbhjahdaaDoor.Q Go.Proofs.YthidcafbhjahdaaDoor.Plain Go.Proofs.YthidcafbhjahdaaDoor.PlainIr Go.Proofs.YthidcafbhjahdaaDoor.PlainOne Go.Proofs.YthidcafbhjahdaaDoor.PlainCheck Go.Proofs.YthidcafbhjahdaaDoor.PlainHeavy Go.Proofs.YthidcafbhjahdaaDoor.PlainSpoilt
theorem u8_nat {n : Int} (h : (Lit.int .u8 n).wf = true) : ∃ p : Nat, n = p ∧ p ≤ 255 := by
 have : 0 ≤ n ∧ n ≤ 255 := by
  have h2 : IntKind.u8.min ≤ n ∧ n ≤ IntKind.u8.max := by simpa [Lit.wf] using h
  exact h2
 exact ⟨n.toNat, by omega, by omega⟩
theorem tmod_nat (p q : Nat) : Int.tmod (p : Int) (q : Int) = ((p % q : Nat) : Int) := rfl
theorem le_total : ∀ {bs : List (List SIns)} {b : List SIns}, b ∈ bs → b.length ≤ total bs
 | y :: ys, b, h => by
  simp only [total]
  rcases List.mem_cons.1 h with rfl | h
  ·omega
  ·have := le_total h; omega
theorem fair_spoil {bs : List (List SIns)} (hF : FairB bs) (i : Nat) (hi : i < bs.length) (j : Nat) (hj : j < bs[i].length) (rg nb : Int) : FairB (bs.set i (bs[i].set j (spoil rg nb bs[i][j]))) := by
 refine ⟨by rw [List.length_set]; exact hF.len, fun b hb => ?_, fun b hb y hy => ?_⟩
 ·rcases List.mem_or_eq_of_mem_set hb with hb | rfl
  ·exact hF.row b hb
  ·rw [List.length_set]; exact hF.row _ (List.getElem_mem hi)
 ·rcases List.mem_or_eq_of_mem_set hb with hb | rfl
  ·exact hF.ins b hb y hy
  ·rcases List.mem_or_eq_of_mem_set hy with hy | rfl
   ·exact hF.ins _ (List.getElem_mem hi) y hy
   ·have h5 : (spoil rg nb bs[i][j]).f5 = bs[i][j].f5 := by unfold spoil; split <;> (try split) <;> rfl
    rw [h5]
    exact hF.ins _ (List.getElem_mem hi) _ (List.getElem_mem hj)
theorem IrSpoilt : IrSpoilt.Pure := by
 intro pn pp rg bs a1 a2 g1 g2 g3 g4 hw1 hw2
 obtain ⟨p, rfl, hp⟩ := u8_nat hw1
 obtain ⟨q, rfl, hq⟩ := u8_nat hw2
 clear g1 g2 g3 g4 hw1 hw2
 refine Ev.rounds (g := fun k => cubbylaw07_IrSpoilt.f k pn pp rg bs p q) ?_
 obtain ⟨h, he, hF⟩ := heavy_ev bs
 refine Ev.bind he ?_
 cases h
 ·have hF := hF rfl
  refine Ev.congr (fun k => by rw [zD Bool.false_ne_true]) ?_
  by_cases c : (pn.size : Int) > 1024
  ·exact Ev.congr (f := fun _ => some true) (fun k => by rw [zC c]) (Ev.now _)
  ·refine Ev.congr (fun k => by rw [zD c]) (Ev.bind (check_ev pn pp rg bs hF) (Ev.bind (refcheck_ev pn pp rg bs hF) ?_))
   refine Ev.congr (fun k => by rw [zC rfl]) ?_
   by_cases c0 : checkE pn pp rg bs = 0
   ·have hO := checkE_zero c0
    have hlen : 1 ≤ bs.length := hO.shape.2.2.2.2.1
    have hlen2 : bs.length ≤ 32 := hO.shape.2.2.2.2.2.1
    obtain ⟨i, ei⟩ : ∃ i, i = p % bs.length := ⟨_, rfl⟩
    have hi : i < bs.length := by rw [ei]; exact Nat.mod_lt _ (by omega)
    have hne := hO.row _ (List.getElem_mem hi)
    obtain ⟨j, ej⟩ : ∃ j, j = q % bs[i].length := ⟨_, rfl⟩
    have hj : j < bs[i].length := by rw [ej]; exact Nat.mod_lt _ (by omega)
    have e1 : Int.tmod (wrap64 (p : Int)) (bs.length : Int) = (i : Int) := by rw [wrap_id (by omega) (by omega), tmod_nat, ei]
    have s1 : spot1 bs p = (i : Int) := e1
    have s2 : spot2 bs p q = (j : Int) := by
     unfold spot2
     rw [e1, rdL_get hi, wrap_id (by omega) (by omega), tmod_nat, ej]
    have hk := check_spoil c0 i hi j hj
    have hlt := le_total (List.getElem_mem hi)
    have htot := hO.tot
    have hall : ∀ b ∈ bs, b.length ≤ 1000000 := fun b hb => Nat.le_trans (le_total hb) (Nat.le_trans htot (by decide))
    have hb32 : bs.length ≤ 1000000 := Nat.le_trans hlen2 (by decide)
    clear ei ej e1
    have ok : SpoilOk bs (i : Int) (j : Int) := by
     unfold SpoilOk
     rw [rdL_get hi]
     refine ⟨?_, ?_, ?_, ?_, ?_, ?_, hb32, hall⟩
     ·omega
     ·omega
     ·omega
     ·omega
     ·omega
     ·omega
    have hev := check_ev pn pp rg _ (fair_spoil hF i hi j hj rg (bs.length : Int))
    rw [hk] at hev
    refine Ev.congr (f := fun k => (ir_Check.f k pn pp rg (bs.set i (bs[i].set j (spoil rg (bs.length : Int) bs[i][j])))).bind fun t4 => some (t4 == wantE bs[i][j])) (fun k => by rw [s1, s2, zC c0, zC ok, Int.toNat_natCast, Int.toNat_natCast, rdL_get hi, rdT_get hj]) (Ev.bind hev ?_)
    exact Ev.congr (f := fun _ => some true) (fun k => by rw [beq_self_eq_true]) (Ev.now _)
   ·exact Ev.congr (f := fun _ => some true) (fun k => by rw [zD c0]) (Ev.now _)
 ·exact Ev.congr (f := fun _ => some true) (fun k => by rw [zC rfl]) (Ev.now _)
end Go.Proofs.YthidcafbhjahdaaDoor.RIrSpoilt.Pure
namespace Go.Proofs.YthidcafbhjahdaaDoor.RIrSpoilt
open Go.ChangeShapes Go.WideShapes Go.ChangeAt
open Go.ChangeMaps (open_string shut_string)
open Go Go.RowKit Go.Proofs.YthidcafbhjahdaaDoorW.PrintWords Go.Proofs.YthidcafbhjahdaaDoorW.PrintLast Go.Proofs.YthidcafbhjahdaaDoorW.PrintMore Go.Proofs.YthidcafbhjahdaaDoor.Q Go.Proofs.YthidcafbhjahdaaDoor.Open
set_option linter.unusedVariables false
theorem own : ownKnob Tryd.prog.godebug = none := by kernel_rfl
theorem laidOut : laidOutB Tryd.prog = true := by kernel_rfl
theorem opensIns : Opens Tryd.prog 31 kIns GIns :=
 (Opens.iso (fun x : SIns => (x.f0, x.f1, x.f2, x.f3, x.f4, x.f5)) (fun y => ⟨y.1, y.2.1, y.2.2.1, y.2.2.2.1, y.2.2.2.2.1, y.2.2.2.2.2⟩) (fun _ => rfl) (Opens.struct Tryd.underlying31 (by kernel_rfl) (OpensFs.cons rfl (Opens.int (Tryd.underlying3) (by kernel_rfl)) (OpensFs.cons rfl (Opens.int (Tryd.underlying3) (by kernel_rfl)) (OpensFs.cons rfl (Opens.int (Tryd.underlying3) (by kernel_rfl)) (OpensFs.cons rfl (Opens.int (Tryd.underlying3) (by kernel_rfl)) (OpensFs.cons rfl (Opens.string (Tryd.underlying9) (by kernel_rfl)) (OpensFs.one rfl (Opens.slice (B := 8) (Tryd.underlying29) (by kernel_rfl) (by kernel_rfl) (Opens.int (Tryd.underlying3) (by kernel_rfl))))))))))).imp (fun _ h => h)
set_option maxRecDepth 100000 in
theorem lifted (os : Os) (started : os.Started) (H : Type) (enc : TypeId × Value → H) :
 ReturnsInHanded {} Tryd.checked os 3 .any (fun w args => (Rows.irSpoiltSpec.pre enc Tryd.prog Tryd.f3 [] false w args ∧ laidMetH Tryd.prog Rows.irSpoiltRow.laid w) ∧ sizedMet enc Tryd.prog Tryd.f3 (OpenSpec.ofChange Rows.irSpoiltSpec) false w args) (Rows.irSpoiltSpec.post enc Tryd.prog Tryd.f3 false true false false) := by
 refine returnsInHanded_of_change_and (C := Tryd.checked) (X := fun w _ => laidMetH Tryd.prog Rows.irSpoiltRow.laid w) (fun _ _ _ hh h => h.of_heap hh) own started (by kernel_rfl) Tryd.func3
  (ChangeSpec.witness_shaped (enc := enc) (C := Tryd.checked) (os := os) (X := fun w _ => laidMetH Tryd.prog Rows.irSpoiltRow.laid w) false (World.laidAll Tryd.prog os Rows.irSpoiltRow.laid) #[.agg #[.string ByteArray.empty, .int .i64 0, .int .i64 0, .slice none 0 0], .int .u8 0, .int .u8 0] 8 (World.laidAll_os _ _ _)
    (World.shaped_of_ZipB (by kernel_rfl) (by kernel_rfl)) (by kernel_rfl) (by kernel_rfl) (by kernel_rfl)
    (by rw [MakeChecks.laidMetH_plain _ _ _ (by kernel_rfl)]; exact laidMet_laidAll _ (by kernel_rfl) (by kernel_rfl))) ?_
 intro W base args ds gs before hval0 hW hcnd hsz0 hL0 _
 rw [MakeChecks.laidMetH_plain _ _ _ (by kernel_rfl)] at hL0
 have LAIDF : LaidW W := LaidW.of_reads (show Lib.VarReads Tryd.prog W "cubby/ir.shapes" shapesD from Lib.laidMet.reads hL0 (n := "cubby/ir.shapes") (d := Rows.laid_cubby_ir_shapes) (by simp [Rows.irSpoiltRow]))
 have hsz : (DataW.weightsEach Tryd.prog (Tryd.f3.params.toList ++ Rows.irSpoiltSpec.plain.varTypes Tryd.prog) (ds ++ gs)).all (· ≤ reachBytes) = true := hsz0
 have hval : ∀ (j : Nat) t v, Tryd.f3.params[j]? = some t → args[j]? = some v → Value.okWide Tryd.prog W .any base t v := hval0
 have hW' := hW
 obtain ⟨p, q, hA0, hV, rfl, hfz, hnd⟩ := hW
 have hA : DataW.TrodAll enc Tryd.prog W 0 (fun _ => true) true Tryd.f3.params.toList args.toList ds p := hA0
 rw [Tryd.params3] at hA hval hsz
 obtain ⟨v0, vs0, d0, ds0, p0, q0, hargs, rfl, rfl, h0, r0⟩ := trodAll_cons hA
 obtain ⟨v1, vs1, d1, ds1, p1, q1, rfl, rfl, rfl, h1, r1⟩ := trodAll_cons r0
 obtain ⟨v2, vs2, d2, ds2, p2, q2, rfl, rfl, rfl, h2, r2⟩ := trodAll_cons r1
 obtain ⟨rfl, rfl, rfl⟩ := trodAll_nil r2
 obtain rfl : args = #[v0, v1, v2] := by cases args; simp_all
 obtain ⟨rfl, rfl⟩ := trodVars_none hV
 have lt0 : ∀ x ∈ p0, x.block < W.heap.size := by obtain ⟨m, hm⟩ := h0; exact DataW.trod_lt m _ _ _ hm
 obtain ⟨cs0, rfl, -⟩ := okWide_struct Tryd.underlying24 (hval 0 24 v0 rfl rfl)
 obtain ⟨⟨a0_0, a0_1, a0_2, l0_3⟩, hk0, gg0⟩ := (Opens.struct Tryd.underlying24 (by kernel_rfl) (OpensFs.cons rfl (Opens.string (Tryd.underlying9) (by kernel_rfl)) (OpensFs.cons rfl (Opens.int (Tryd.underlying3) (by kernel_rfl)) (OpensFs.cons rfl (Opens.int (Tryd.underlying3) (by kernel_rfl)) (OpensFs.one rfl (Opens.slice (B := 24) (Tryd.underlying22) (by kernel_rfl) (by kernel_rfl) (Opens.slice (B := 72) (Tryd.underlying28) (by kernel_rfl) (by kernel_rfl) opensIns)))))) : Opens Tryd.prog 24 (Kd.pair Kd.string (Kd.pair (Kd.int .i64) (Kd.pair (Kd.int .i64) (Kd.slice 28 (Kd.slice 31 kIns))))) (fun y => ((y.1).size ≤ 140737488351232 ∧ ((Lit.int .i64 (y.2.1)).wf = true ∧ ((Lit.int .i64 (y.2.2.1)).wf = true ∧ ((y.2.2.2).length * 24 ≤ 140737488351232 ∧ (y.2.2.2).length ≤ maxLen ∧ ∀ y1 ∈ (y.2.2.2), ((y1).length * 72 ≤ 140737488351232 ∧ (y1).length ≤ maxLen ∧ ∀ y2 ∈ (y1), GIns (y2)))))))).arg h0 hsz (j := 0) rfl rfl
 obtain ⟨g0_0, g0_1, g0_2, g0_3⟩ := gg0
 obtain ⟨_, _, h0_, rfl, ⟨_, _, rfl, rfl, ⟨_, _, rfl, rfl, ⟨A0_3, c0_3, rfl, hc0_3, hr0_3⟩⟩⟩⟩ := hk0
 obtain rfl : cs0 = #[.string a0_0, .int .i64 a0_1, .int .i64 a0_2, .slice A0_3 l0_3.length c0_3] := by
  cases cs0
  simp [Value.cells] at h0_
  simp [h0_]
 have lt1 : ∀ x ∈ p1, x.block < W.heap.size := by obtain ⟨m, hm⟩ := h1; exact DataW.trod_lt m _ _ _ hm
 obtain ⟨a1, rfl, rfl, rfl, w1⟩ := open_int Tryd.underlying5 (hval 1 5 v1 rfl rfl) h1
 have lt2 : ∀ x ∈ p2, x.block < W.heap.size := by obtain ⟨m, hm⟩ := h2; exact DataW.trod_lt m _ _ _ hm
 obtain ⟨a2, rfl, rfl, rfl, w2⟩ := open_int Tryd.underlying5 (hval 2 5 v2 rfl rfl) h2
 clear hA0 hval0 hsz0 hsz
 obtain ⟨k, hf⟩ := Pure.IrSpoilt a0_0 a0_1 a0_2 l0_3 a1 a2 g0_0 g0_1 g0_2 g0_3 w1 w2
 refine (Q.cubbylaw07_IrSpoilt.calls k a0_0 a0_1 a0_2 A0_3 c0_3 l0_3 a1 a2 true W LAIDF hr0_3 hc0_3 hf).mono ?_
 rintro e W' ⟨rfl, hd⟩
 have bel : Below W.heap.size W W' := hd
 exact ⟨_, rfl, _, _, _, [], _, [], hW', trodAll_mk1 (shut_bool Tryd.underlying4 _), (trodAll_cons_mk (Below.trod laidOut (by kernel_rfl) (zB (by kernel_rfl)) h0 bel lt0) (trodAll_cons_mk (Below.trod laidOut (by kernel_rfl) (zB (by kernel_rfl)) h1 bel lt1) (trodAll_cons_mk (Below.trod laidOut (by kernel_rfl) (zB (by kernel_rfl)) h2 bel lt2) trodAll_mk0))), rfl, bel.frame _, fun h => by cases h⟩
theorem over : Rows.irSpoiltRow.holds Tryd.pinned (OpenSpec.ofChange Rows.irSpoiltSpec) :=
 OpenClaim.holds_of_wide 3 Tryd.f3 rfl rfl rfl rfl rfl rfl rfl ⟨rfl, rfl, rfl, rfl, rfl⟩ rfl rfl rfl rfl rfl (by kernel_rfl) Tryd.func3 (by kernel_rfl)
  (zB (by kernel_rfl)) (by unfold Func.isWrapper; first | (rw [zC (by decide +kernel)]; kernel_rfl) | (rw [zD (by decide +kernel)]; exact ⟨rfl, rfl⟩))
  (fun os started H enc _ => lifted os started H enc)
end Go.Proofs.YthidcafbhjahdaaDoor.RIrSpoilt
namespace Go.Proofs.YthidcafbhjahdaaDoor
theorem irSpoilt_holds : Rows.IrSpoiltSaid := RIrSpoilt.over
theorem irSpoilt_card : Rows.IrSpoiltCardSaid :=
 Claim7.holds_tied_plain_at .later [] [.data, .data, .pinned] true (true, "560d754e30d9a737ddc439967d742667a30644c8454139c4a2c4252c2ccc7ccf") false irSpoilt_holds (fun _ h => by cases h) (by kernel_rfl) (fun _ h => by cases h) irSpoilt_row_tie rfl ⟨rfl, rfl⟩ (by kernel_rfl) rfl
  (fun f fn hf hfn => by
    obtain rfl : f = 3 := zI ((show Tryd.prog.funcNamed "cubby/cubbylaw07.IrSpoilt" = some 3 by kernel_rfl).symm.trans hf) |>.symm
    obtain rfl : fn = Tryd.f3 := (zI (Tryd.func3.symm.trans hfn)).symm
    exact ⟨by kernel_rfl, fun j t ht => by
     rw [Tryd.params3] at ht
     have hm : t ∈ [24, 5, 5] := by simpa using Array.mem_of_getElem? ht
     have hall : ([24, 5, 5].all fun u => !Tryd.prog.wantsStandIn u) = true := by kernel_rfl
     exact (show Tryd.prog.wantsStandIn t = false by simpa using List.all_eq_true.1 hall t hm)⟩)
  (by kernel_rfl)
#print axioms irSpoilt_card
end Go.Proofs.YthidcafbhjahdaaDoor
