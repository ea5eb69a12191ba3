/- TextBehind: parts of the proofs, put together. -/
import Derived.Lib.ItoaNum
import Derived.Lib.ItoaMem
import Derived.Lib.Builder
import Derived.Lib.OthersKept
import Derived.Deep.RegionWith
import Derived.Test.YtniknpjeknmpjaaDoorMTextBehind1
import Derived.Test.YtniknpjeknmpjaaDoorMTextBehind2
import Derived.Test.YtniknpjeknmpjaaDoorMTextBehind3
namespace Go.Proofs.YtniknpjeknmpjaaDoor.Q
open Go.RowKit Go.Proofs.YtniknpjeknmpjaaDoorW.PrintWords Go.Proofs.YtniknpjeknmpjaaDoorW.PrintLast Go.Proofs.YtniknpjeknmpjaaDoorW.PrintMore
attribute [local go_sem] max2_int min2_int max_two min_two max_three min_three max_four min_four
set_option linter.unusedVariables false
set_option linter.unusedSimpArgs false

mutual
def cubbyref08_ins.l0 : Nat → List ByteArray → Bool → Int → Int → Option (Int × Int × Int × Int × ByteArray × List Int × Int)
 | 0, _, _, _, _ => none
 | k + 1, x0, x1, x6, x7 => if x7 ≤ 22 then ((cubbyref08_word.f k x7 x1).bind fun t227 => (if 0 < (x0.length : Int) then (if t227.toList = (rdOf ByteArray.empty x0 0).toList then (if (rdOf ByteArray.empty x0 0).toList = ([] : List UInt8) then (cubbyref08_ins.l0 k x0 x1 x6 (wrap64 (x7 + 1))) else (cubbyref08_ins.l0 k x0 x1 x7 (wrap64 (x7 + 1)))) else (cubbyref08_ins.l0 k x0 x1 x6 (wrap64 (x7 + 1)))) else (none))) else (if x6 < 0 then (some (0, 0, 0, 0, (⟨#[]⟩ : ByteArray), ([] : List Int), 80)) else ((cubbyref08_numbers.f k x6 0 0 0 (⟨#[]⟩ : ByteArray) ([] : List Int) x1).bind fun t231 => (if x6 = 11 then (if x1 = true then (cubbyref08_ins.j1 k x0 x1 x6 (wrap64 ((t231.length : Int) + 1)) 1 x6 0 0 0 (⟨#[]⟩ : ByteArray)) else (cubbyref08_ins.j1 k x0 x1 x6 (mx 2 (wrap64 ((x0.length : Int) - 1))) 1 x6 0 0 0 (⟨#[]⟩ : ByteArray))) else (cubbyref08_ins.j1 k x0 x1 x6 (t231.length : Int) (-1) x6 0 0 0 (⟨#[]⟩ : ByteArray)))))
def cubbyref08_ins.j1 : Nat → List ByteArray → Bool → Int → Int → Int → Int → Int → Int → Int → ByteArray → Option (Int × Int × Int × Int × ByteArray × List Int × Int)
 | 0, _, _, _, _, _, _, _, _, _, _ => none
 | k + 1, x0, x1, x6, x9, x10, x231000, x231001, x231002, x231003, x231004 => (cubbyref08_read.f k x0 x9 x10).bind fun bt234 => (if bt234.2.2 = 0 then (if x6 = 3 then (cubbyref08_ins.j2 k x1 bt234.1 x6 (x6 == 3) x231000 x231001 x231002 x231003 bt234.2.1) else (if x6 = 4 then (cubbyref08_ins.j2 k x1 bt234.1 x6 (x6 == 4) x231000 x231001 x231002 x231003 bt234.2.1) else (if x6 = 5 then (cubbyref08_ins.j2 k x1 bt234.1 x6 (x6 == 5) x231000 x231001 x231002 x231003 bt234.2.1) else (if x6 = 6 then (cubbyref08_ins.j2 k x1 bt234.1 x6 (x6 == 6) x231000 x231001 x231002 x231003 bt234.2.1) else (cubbyref08_ins.j2 k x1 bt234.1 x6 (x6 == 7) x231000 x231001 x231002 x231003 bt234.2.1))))) else (some (0, 0, 0, 0, (⟨#[]⟩ : ByteArray), ([] : List Int), bt234.2.2)))
def cubbyref08_ins.j2 : Nat → Bool → List Int → Int → Bool → Int → Int → Int → Int → ByteArray → Option (Int × Int × Int × Int × ByteArray × List Int × Int)
 | 0, _, _, _, _, _, _, _, _, _ => none
 | k + 1, x1, x11, x65, x74, x231000, x231001, x231002, x231003, x231004 => if x74 = true then (if 0 < (x11.length : Int) then (if 1 < (x11.length : Int) then (if 2 < (x11.length : Int) then (some (x231000, rd x11 0, rd x11 1, rd x11 2, x231004, ([] : List Int), 0)) else (none)) else (none)) else (none)) else (if x65 = 9 then (if 0 < (x11.length : Int) then (if 1 < (x11.length : Int) then (some (x231000, x231001, rd x11 0, rd x11 1, x231004, ([] : List Int), 0)) else (none)) else (none)) else (if x65 = 10 then (cubbyref08_ins.j3 k x1 x11 x65 (x65 == 10) x231000 x231001 x231002 x231003 x231004) else (if x65 = 12 then (cubbyref08_ins.j3 k x1 x11 x65 (x65 == 12) x231000 x231001 x231002 x231003 x231004) else (cubbyref08_ins.j3 k x1 x11 x65 (x65 == 14) x231000 x231001 x231002 x231003 x231004))))
def cubbyref08_ins.j3 : Nat → Bool → List Int → Int → Bool → Int → Int → Int → Int → ByteArray → Option (Int × Int × Int × Int × ByteArray × List Int × Int)
 | 0, _, _, _, _, _, _, _, _, _ => none
 | k + 1, x1, x11, x65, x102, x231000, x231001, x231002, x231003, x231004 => if x102 = true then (if 0 < (x11.length : Int) then (some (x231000, x231001, rd x11 0, x231003, x231004, ([] : List Int), 0)) else (none)) else (if x65 = 13 then (if 0 < (x11.length : Int) then (if 1 < (x11.length : Int) then (if 2 < (x11.length : Int) then (some (x231000, rd x11 2, rd x11 0, rd x11 1, x231004, ([] : List Int), 0)) else (none)) else (none)) else (none)) else (if x65 = 11 then (if 0 < (x11.length : Int) then (if x1 = true then (if 1 < (x11.length : Int) then (some (x231000, rd x11 0, rd x11 1, x231003, x231004, ([] : List Int), 0)) else (none)) else (if (x11.length : Int) > 1 then (if 1 ≤ (x11.length : Int) then ((some (x11.drop 1 : List Int)).bind fun y250 => (if ([] : List Int).length + y250.length < 17592186044416 then (some (x231000, rd x11 0, x231002, x231003, x231004, (([] : List Int) ++ y250), 0)) else (none))) else (none)) else (some (x231000, rd x11 0, x231002, x231003, x231004, ([] : List Int), 0)))) else (none)) else (if 0 < (x11.length : Int) then (if 1 < (x11.length : Int) then (some (x231000, rd x11 0, rd x11 1, x231003, x231004, ([] : List Int), 0)) else (none)) else (none))))
end
def cubbyref08_ins.f (k : Nat) (l0 : List ByteArray) (a1 : Bool) : Option (Int × Int × Int × Int × ByteArray × List Int × Int) := cubbyref08_ins.l0 k l0 a1 (-1) 1
def cubbyref08_ins.T5 : Bool × List (List Nat × List Nat) := (true, [([], []), ([], []), ([0, 1], [0, 1]), ([], []), ([3], [3]), ([4], [4]), ([2, 5], [2, 5]), ([6, 2], [6]), ([7], [7]), ([8, 7], [7, 8]), ([9, 7], [7, 9]), ([10, 7], [7, 10]), ([7, 11], [7, 11])])
def cubbyref08_ins.B5 : List Nat := [0, 0, 3, 0, 8, 24, 63, 127, 255, 511, 1023, 2047, 4095]
theorem cubbyref08_ins.tab5 : rtab .any (opsOf Tryd.f45 5) = cubbyref08_ins.T5 := by kernel_rfl
theorem cubbyref08_ins.bits5 : waitsOk cubbyref08_ins.T5.2 cubbyref08_ins.B5 = true := by kernel_rfl
set_option maxHeartbeats 8000000 in
set_option maxRecDepth 100000 in
theorem cubbyref08_ins.calls (k : Nat) (A0 : Option Addr) (c0 : Nat) (l0 : List ByteArray) (a1 : Bool) (r1 : Int) (r2 : Int) (r3 : Int) (r4 : Int) (r5 : ByteArray) (r6 : List Int) (r7 : Int) (w : World) (hr0 : Kd.C Kd.string w A0 l0.length l0) (hc0 : l0.length ≤ c0) (h : cubbyref08_ins.f k l0 a1 = some (r1, r2, r3, r4, r5, r6, r7)) :
 Calls Tryd.prog 45 #[.slice A0 l0.length c0, .bool a1] w fun e w' => ∃ v5_ : Value, e = .returned (.tuple #[.agg #[.int .i64 r1, .int .i64 r2, .int .i64 r3, .int .i64 r4, .string r5, v5_], .int .i64 r7]) ∧ Kd.R (Kd.int .i64) 3 w' w.heap.size (fun _ => True) v5_ r6 ∧ Below w.heap.size w w' := by
 have hu43 := Tryd.underlying43
 have HR0 := zA hr0
 have HC0 := zA hc0
 clear hr0 hc0
 have HB := zA (Below.refl w.heap.size w)
 have H := h; clear h; unfold cubbyref08_ins.f at H
 have H' := zA H
 clear H
 go_enter Tryd.func45, Tryd.ntmps45
 go_wp2_with (first | ((with_reducible refine gate_dst (N := 4) rfl ?_); refine box_event (by rfl) (N := 4) (by rfl) (cs := #[.int .i64 0, .int .i64 0, .int .i64 0, .int .i64 0, .string (⟨#[]⟩ : ByteArray), .slice none 0 0]) (t := 43) ?hr ?_; (case hr => go_simp <;> rfl); intro gb226 hg w3 hbox hb; have BK226 := zA (hbox); have GW226 := qG hg; have GE226 := GW226; replace HB := qH hb; clear hb hbox hg))
 go_loopg [6, 7] k (fun kq v6 v7 w' => ∃ (x6_1 : Int) (x7_1 : Int), v6 = .int .i64 x6_1 ∧ v7 = .int .i64 x7_1 ∧ Aside0 (cubbyref08_ins.l0 kq l0 a1 x6_1 x7_1 = some (r1, r2, r3, r4, r5, r6, r7)) ∧ Aside0 (kq ≤ k) ∧ Aside0 (w'.heap[gb226]? = some (.cells #[.int .i64 0, .int .i64 0, .int .i64 0, .int .i64 0, .string (⟨#[]⟩ : ByteArray), (.slice none 0 0)] 43 (0, 0))) ∧ Aside0 (Below w.heap.size w w'))
 case atStart => exact ⟨((-1)), (1), qT, qT, H', ⟨Nat.le_refl _⟩, ⟨qK BK226.out⟩, ⟨qB⟩⟩
 case round =>
  clear H'
  try clear p2
  obtain ⟨x6_1, x7_1, rfl, rfl, HA, HK1, BK226, HB⟩ := hrel
  cases gk with
  | zero => exact absurd HA.out (by simp [cubbyref08_ins.l0])
  | succ k1 =>
   have H := HA.out
   clear HA
   simp only [cubbyref08_ins.l0] at H
   by_cases c4 : x7_1 ≤ 22
   ·rw [zC c4] at H
    have c4b0 := zF c4
    clear c4
    replace H := qb H; obtain ⟨t227, A5, H⟩ := H
    by_cases c6 : 0 < (l0.length : Int)
    ·rw [zC c6] at H
     have c6b0 := zF c6
     have c6b1 : decide (0 < l0.length) = true := zF (by omega)
     clear c6
     by_cases c7 : t227.toList = (rdOf ByteArray.empty l0 0).toList
     ·rw [zC c7] at H
      obtain ⟨c7b0, c7b1⟩ := qe c7; clear c7
      by_cases c8 : (rdOf ByteArray.empty l0 0).toList = ([] : List UInt8)
      ·rw [zC c8] at H
       obtain ⟨c8b0, c8b1⟩ := qe c8; clear c8
       have H' := zA H
       clear H
       try go_wp2
       have n0_ := zA (blk_drew BK226.out)
       have n1_ := zA (below_drew1 HB.out)
       clear BK226
       clear HB
       have BK226 := n0_
       have HB := n1_
       clear n0_ n1_
       have p228 : 0 ≤ (0 : Int) := (by omega)
       have q228 : 0 < (l0.length : Int) := zB qA
       obtain ⟨ad228, e228, hx228_0⟩ := Kd.at_string HR0.out 0 p228 q228
       have hw228_0 := hx228_0
       (try rw [show ((0 : Int)).toNat = 0 from rfl] at hw228_0)
       (try rw [show 0 * 1 = 0 from rfl] at hw228_0)
       (try rw [Addr.add_zero'] at hw228_0)
       cases e228
       have qi228 : (0 < l0.length) = True := eq_true (by omega)
       (try rw [show ((0 : Int)).toNat = 0 from rfl] at hx228_0)
       (try rw [Addr.add_zero'] at hx228_0)
       replace hx228_0 := (HB.out.cell (zE w _ hx228_0)).trans hx228_0
       replace p228 := eq_true p228
       replace q228 := eq_true q228
       have p229 : 0 ≤ (0 : Int) := (by omega)
       have q229 : 0 < (l0.length : Int) := zB qA
       obtain ⟨ad229, e229, hx229_0⟩ := Kd.at_string HR0.out 0 p229 q229
       have hw229_0 := hx229_0
       (try rw [show ((0 : Int)).toNat = 0 from rfl] at hw229_0)
       (try rw [show 0 * 1 = 0 from rfl] at hw229_0)
       (try rw [Addr.add_zero'] at hw229_0)
       obtain rfl : ad228 = ad229 := (by injection e229)
       have qi229 : (0 < l0.length) = True := eq_true (by omega)
       (try rw [show ((0 : Int)).toNat = 0 from rfl] at hx229_0)
       (try rw [Addr.add_zero'] at hx229_0)
       replace hx229_0 := (HB.out.cell (zE w _ hx229_0)).trans hx229_0
       replace p229 := eq_true p229
       replace q229 := eq_true q229
       refine start_ (n := 13) (S := fun w' => w'.cell? ad228 = some (.string (rdOf ByteArray.empty l0 0)) ∧ w'.cell? ad228 = some (.string (rdOf ByteArray.empty l0 0))) (ds := []) (bA 13 0) (by kernel_rfl) rfl rfl ⟨((HB.out.cell (zE w _ hw228_0)).trans hw228_0), ((HB.out.cell (zE w _ hw229_0)).trans hw229_0)⟩ (fun hHeld => ?_); refine with_tabW cubbyref08_ins.tab5 cubbyref08_ins.bits5 (fun HT_ HW_ => ?_)
       generalize wr.drew = w9 at BK226 HB hx228_0 hx229_0 hHeld ⊢
       refine pu_ (i := 0) (N := some 18) (bA 13 1) ?_
       refine pu_ (i := 1) (N := some 19) (bA 13 3) ?_
       refine pu_ (i := 3) (N := some 21) (bA 13 11) ?_
       refine pu_ (i := 4) (N := some 22) (bA 13 27) ?_
       refine tk_ (i := 5) (N := some 23) (bA 13 59) ?_
       refine one_ (i := 2) (N := some 20) (bA 13 63) rfl rfl (one_of HT_.out (by kernel_rfl)) (by decide) (fun K hK => ?_)
       refine goes_ Tryd.func36 (by kernel_rfl) rfl #[.int .i64 x7_1, .bool a1] (by rfl) rfl rfl qL ?_
       with_reducible refine (cubbyref08_word.calls k1 x7_1 a1 t227 _ A5.out).mono ?_
       rintro e w10 ⟨rfl, hb⟩
       refine ⟨_, rfl, ?_⟩
       have n0_ := qW BK226 hb
       have n1_ := qH hb
       clear BK226
       clear HB
       have BK226 := n0_
       have HB := n1_
       clear n0_ n1_
       (try clear hb)
       (try clear hb2)
       (try clear hk)
       (try clear hi)
       refine hK.out _ _ ⟨((HB.out.cell (zE w _ hw228_0)).trans hw228_0), ((HB.out.cell (zE w _ hw229_0)).trans hw229_0)⟩ (fun hHeld => ?_)
       clear hK K
       refine norm_ (a' := ?_) ?_ ?_
       rotate_left
       ·show Act.put _ (some 20) _ = _
        simp only [Act.put, List.setIfInBounds_toArray, List.set_cons_zero, List.set_cons_succ, i64_w, i32_w]
        rfl
       refine pu_ (i := 6) (N := some 24) (bA 13 127) ?_
       refine pu_ (i := 7) (N := some 25) (bA 13 255) ?_
       refine pu_ (i := 8) (N := some 26) (bA 13 511) ?_
       refine pu_ (i := 9) (N := some 27) (bA 13 1023) ?_
       refine tk_ (i := 10) (N := some 28) (bA 13 2047) ?_
       refine pu_ (i := 11) (N := some 29) (bA 13 4095) ?_
       refine pu_ (i := 12) (N := some 30) (bA 13 8191) ?_
       refine done_ (done_of HT_.out (by kernel_rfl)) ?_
       try go_wp2
       go_roundg k1
       case measure => have := HK1.out; omega
       case rel => exact ⟨(x6_1), (wrap64 (x7_1 + 1)), qT, qT, H', ⟨by have := HK1.out; omega⟩, ⟨qK BK226.out⟩, ⟨qB⟩⟩
      ·rw [zD c8] at H
       obtain ⟨c8b0, c8b1⟩ := qn c8
       have H' := zA H
       clear H
       try go_wp2
       have n0_ := zA (blk_drew BK226.out)
       have n1_ := zA (below_drew1 HB.out)
       clear BK226
       clear HB
       have BK226 := n0_
       have HB := n1_
       clear n0_ n1_
       have p228 : 0 ≤ (0 : Int) := (by omega)
       have q228 : 0 < (l0.length : Int) := zB qA
       obtain ⟨ad228, e228, hx228_0⟩ := Kd.at_string HR0.out 0 p228 q228
       have hw228_0 := hx228_0
       (try rw [show ((0 : Int)).toNat = 0 from rfl] at hw228_0)
       (try rw [show 0 * 1 = 0 from rfl] at hw228_0)
       (try rw [Addr.add_zero'] at hw228_0)
       cases e228
       have qi228 : (0 < l0.length) = True := eq_true (by omega)
       (try rw [show ((0 : Int)).toNat = 0 from rfl] at hx228_0)
       (try rw [Addr.add_zero'] at hx228_0)
       replace hx228_0 := (HB.out.cell (zE w _ hx228_0)).trans hx228_0
       replace p228 := eq_true p228
       replace q228 := eq_true q228
       have p229 : 0 ≤ (0 : Int) := (by omega)
       have q229 : 0 < (l0.length : Int) := zB qA
       obtain ⟨ad229, e229, hx229_0⟩ := Kd.at_string HR0.out 0 p229 q229
       have hw229_0 := hx229_0
       (try rw [show ((0 : Int)).toNat = 0 from rfl] at hw229_0)
       (try rw [show 0 * 1 = 0 from rfl] at hw229_0)
       (try rw [Addr.add_zero'] at hw229_0)
       obtain rfl : ad228 = ad229 := (by injection e229)
       have qi229 : (0 < l0.length) = True := eq_true (by omega)
       (try rw [show ((0 : Int)).toNat = 0 from rfl] at hx229_0)
       (try rw [Addr.add_zero'] at hx229_0)
       replace hx229_0 := (HB.out.cell (zE w _ hx229_0)).trans hx229_0
       replace p229 := eq_true p229
       replace q229 := eq_true q229
       refine start_ (n := 13) (S := fun w' => w'.cell? ad228 = some (.string (rdOf ByteArray.empty l0 0)) ∧ w'.cell? ad228 = some (.string (rdOf ByteArray.empty l0 0))) (ds := []) (bA 13 0) (by kernel_rfl) rfl rfl ⟨((HB.out.cell (zE w _ hw228_0)).trans hw228_0), ((HB.out.cell (zE w _ hw229_0)).trans hw229_0)⟩ (fun hHeld => ?_); refine with_tabW cubbyref08_ins.tab5 cubbyref08_ins.bits5 (fun HT_ HW_ => ?_)
       generalize wr.drew = w11 at BK226 HB hx228_0 hx229_0 hHeld ⊢
       refine pu_ (i := 0) (N := some 18) (bA 13 1) ?_
       refine pu_ (i := 1) (N := some 19) (bA 13 3) ?_
       refine pu_ (i := 3) (N := some 21) (bA 13 11) ?_
       refine pu_ (i := 4) (N := some 22) (bA 13 27) ?_
       refine tk_ (i := 5) (N := some 23) (bA 13 59) ?_
       refine one_ (i := 2) (N := some 20) (bA 13 63) rfl rfl (one_of HT_.out (by kernel_rfl)) (by decide) (fun K hK => ?_)
       refine goes_ Tryd.func36 (by kernel_rfl) rfl #[.int .i64 x7_1, .bool a1] (by rfl) rfl rfl qL ?_
       with_reducible refine (cubbyref08_word.calls k1 x7_1 a1 t227 _ A5.out).mono ?_
       rintro e w12 ⟨rfl, hb⟩
       refine ⟨_, rfl, ?_⟩
       have n0_ := qW BK226 hb
       have n1_ := qH hb
       clear BK226
       clear HB
       have BK226 := n0_
       have HB := n1_
       clear n0_ n1_
       (try clear hb)
       (try clear hb2)
       (try clear hk)
       (try clear hi)
       refine hK.out _ _ ⟨((HB.out.cell (zE w _ hw228_0)).trans hw228_0), ((HB.out.cell (zE w _ hw229_0)).trans hw229_0)⟩ (fun hHeld => ?_)
       clear hK K
       refine norm_ (a' := ?_) ?_ ?_
       rotate_left
       ·show Act.put _ (some 20) _ = _
        simp only [Act.put, List.setIfInBounds_toArray, List.set_cons_zero, List.set_cons_succ, i64_w, i32_w]
        rfl
       refine pu_ (i := 6) (N := some 24) (bA 13 127) ?_
       refine pu_ (i := 7) (N := some 25) (bA 13 255) ?_
       refine pu_ (i := 8) (N := some 26) (bA 13 511) ?_
       refine pu_ (i := 9) (N := some 27) (bA 13 1023) ?_
       refine tk_ (i := 10) (N := some 28) (bA 13 2047) ?_
       refine pu_ (i := 11) (N := some 29) (bA 13 4095) ?_
       refine pu_ (i := 12) (N := some 30) (bA 13 8191) ?_
       refine done_ (done_of HT_.out (by kernel_rfl)) ?_
       try go_wp2
       go_roundg k1
       case measure => have := HK1.out; omega
       case rel => exact ⟨(x7_1), (wrap64 (x7_1 + 1)), qT, qT, H', ⟨by have := HK1.out; omega⟩, ⟨qK BK226.out⟩, ⟨qB⟩⟩
     ·rw [zD c7] at H
      obtain ⟨c7b0, c7b1⟩ := qn c7
      have H' := zA H
      clear H
      try go_wp2
      have n0_ := zA (blk_drew BK226.out)
      have n1_ := zA (below_drew1 HB.out)
      clear BK226
      clear HB
      have BK226 := n0_
      have HB := n1_
      clear n0_ n1_
      have p228 : 0 ≤ (0 : Int) := (by omega)
      have q228 : 0 < (l0.length : Int) := zB qA
      obtain ⟨ad228, e228, hx228_0⟩ := Kd.at_string HR0.out 0 p228 q228
      have hw228_0 := hx228_0
      (try rw [show ((0 : Int)).toNat = 0 from rfl] at hw228_0)
      (try rw [show 0 * 1 = 0 from rfl] at hw228_0)
      (try rw [Addr.add_zero'] at hw228_0)
      cases e228
      have qi228 : (0 < l0.length) = True := eq_true (by omega)
      (try rw [show ((0 : Int)).toNat = 0 from rfl] at hx228_0)
      (try rw [Addr.add_zero'] at hx228_0)
      replace hx228_0 := (HB.out.cell (zE w _ hx228_0)).trans hx228_0
      replace p228 := eq_true p228
      replace q228 := eq_true q228
      refine start_ (n := 13) (S := fun w' => w'.cell? ad228 = some (.string (rdOf ByteArray.empty l0 0))) (ds := []) (bA 13 0) (by kernel_rfl) rfl rfl (((HB.out.cell (zE w _ hw228_0)).trans hw228_0)) (fun hHeld => ?_); refine with_tabW cubbyref08_ins.tab5 cubbyref08_ins.bits5 (fun HT_ HW_ => ?_)
      generalize wr.drew = w13 at BK226 HB hx228_0 hHeld ⊢
      refine pu_ (i := 0) (N := some 18) (bA 13 1) ?_
      refine pu_ (i := 1) (N := some 19) (bA 13 3) ?_
      refine pu_ (i := 3) (N := some 21) (bA 13 11) ?_
      refine pu_ (i := 4) (N := some 22) (bA 13 27) ?_
      refine take_ (i := 5) (N := some 23) (v := ?_) (a' := ?_) (bA 13 59) rfl rfl (take_ofW HT_.out HW_.out (by kernel_rfl)) (fun _ _ _ h => h) (Or.inl ⟨by rfl, ?_⟩) hHeld ?_ ?_
      rotate_left
      ·intro w' s0
       go_simp
       with_reducible rfl
      rotate_left
      ·simp only [Act.put, List.setIfInBounds_toArray, List.set_cons_zero, List.set_cons_succ, i64_w, i32_w]
       rfl
      refine one_ (i := 2) (N := some 20) (bA 13 63) rfl rfl (one_of HT_.out (by kernel_rfl)) (by decide) (fun K hK => ?_)
      refine goes_ Tryd.func36 (by kernel_rfl) rfl #[.int .i64 x7_1, .bool a1] (by rfl) rfl rfl qL ?_
      with_reducible refine (cubbyref08_word.calls k1 x7_1 a1 t227 _ A5.out).mono ?_
      rintro e w14 ⟨rfl, hb⟩
      refine ⟨_, rfl, ?_⟩
      have n0_ := qW BK226 hb
      have n1_ := qH hb
      clear BK226
      clear HB
      have BK226 := n0_
      have HB := n1_
      clear n0_ n1_
      (try clear hb)
      (try clear hb2)
      (try clear hk)
      (try clear hi)
      refine hK.out _ _ (((HB.out.cell (zE w _ hw228_0)).trans hw228_0)) (fun hHeld => ?_)
      clear hK K
      refine norm_ (a' := ?_) ?_ ?_
      rotate_left
      ·show Act.put _ (some 20) _ = _
       simp only [Act.put, List.setIfInBounds_toArray, List.set_cons_zero, List.set_cons_succ, i64_w, i32_w]
       rfl
      refine pu_ (i := 6) (N := some 24) (bA 13 127) ?_
      refine pu_ (i := 7) (N := some 25) (bA 13 255) ?_
      refine pure_ (i := 8) (N := some 26) (v := undef) (a' := ?_) (bA 13 511) rfl rfl (any_of HT_.out (by kernel_rfl)) (fun _ _ _ h => h) (Or.inr ⟨by rfl, rfl⟩) ?_ ?_
      rotate_left
      ·simp only [Act.put, List.setIfInBounds_toArray, List.set_cons_zero, List.set_cons_succ, i64_w, i32_w]
       rfl
      refine pure_ (i := 9) (N := some 27) (v := undef) (a' := ?_) (bA 13 1023) rfl rfl (any_of HT_.out (by kernel_rfl)) (fun _ _ _ h => h) (Or.inr ⟨by rfl, rfl⟩) ?_ ?_
      rotate_left
      ·simp only [Act.put, List.setIfInBounds_toArray, List.set_cons_zero, List.set_cons_succ, i64_w, i32_w]
       rfl
      refine pure_ (i := 10) (N := some 28) (v := undef) (a' := ?_) (bA 13 2047) rfl rfl (any_of HT_.out (by kernel_rfl)) (fun _ _ _ h => h) (Or.inr ⟨by rfl, rfl⟩) ?_ ?_
      rotate_left
      ·simp only [Act.put, List.setIfInBounds_toArray, List.set_cons_zero, List.set_cons_succ, i64_w, i32_w]
       rfl
      refine pure_ (i := 11) (N := some 29) (v := undef) (a' := ?_) (bA 13 4095) rfl rfl (any_of HT_.out (by kernel_rfl)) (fun _ _ _ h => h) (Or.inr ⟨by rfl, rfl⟩) ?_ ?_
      rotate_left
      ·simp only [Act.put, List.setIfInBounds_toArray, List.set_cons_zero, List.set_cons_succ, i64_w, i32_w]
       rfl
      refine pu_ (i := 12) (N := some 30) (bA 13 8191) ?_
      refine done_ (done_of HT_.out (by kernel_rfl)) ?_
      try go_wp2
      go_roundg k1
      case measure => have := HK1.out; omega
      case rel => exact ⟨(x6_1), (wrap64 (x7_1 + 1)), qT, qT, H', ⟨by have := HK1.out; omega⟩, ⟨qK BK226.out⟩, ⟨qB⟩⟩
    ·rw [zD c6] at H
     exact absurd H (by simp)
   ·rw [zD c4] at H
    have c4b0 := zG c4
    clear c4
    by_cases c15 : x6_1 < 0
    ·rw [zC c15] at H
     have c15b0 := zF c15
     clear c15
     simp only [Option.some.injEq, Prod.mk.injEq] at H
     obtain ⟨rfl, rfl, rfl, rfl, rfl, rfl, rfl⟩ := H
     have z16_0 := bk6 BK226.out
     go_wp2
     refine bodyPost_ret (results_ct rfl _ _ gb226 43 #[.int .i64 0, .int .i64 0, .int .i64 0, .int .i64 0, .string (⟨#[]⟩ : ByteArray), .slice none 0 0] (0, 0) _ rfl (by (with_reducible repeat (first | refine blk_drewN ?_ _ | refine blk_drew ?_ | refine blk_alloc ?_ _)); refine blk_put (cs := #[.int .i64 0, .int .i64 0, .int .i64 0, .int .i64 0, .string (⟨#[]⟩ : ByteArray), .slice none 0 0]) ?_ 5 _ rfl; (with_reducible repeat (first | refine blk_drewN ?_ _ | refine blk_drew ?_ | refine blk_alloc ?_ _)); refine blk_put (cs := #[.int .i64 0, .int .i64 0, .int .i64 0, .int .i64 0, .string (⟨#[]⟩ : ByteArray), .slice none 0 0]) ?_ 4 _ rfl; (with_reducible repeat (first | refine blk_drewN ?_ _ | refine blk_drew ?_ | refine blk_alloc ?_ _)); refine blk_put (cs := #[.int .i64 0, .int .i64 0, .int .i64 0, .int .i64 0, .string (⟨#[]⟩ : ByteArray), .slice none 0 0]) ?_ 3 _ rfl; (with_reducible repeat (first | refine blk_drewN ?_ _ | refine blk_drew ?_ | refine blk_alloc ?_ _)); refine blk_put (cs := #[.int .i64 0, .int .i64 0, .int .i64 0, .int .i64 0, .string (⟨#[]⟩ : ByteArray), .slice none 0 0]) ?_ 2 _ rfl; (with_reducible repeat (first | refine blk_drewN ?_ _ | refine blk_drew ?_ | refine blk_alloc ?_ _)); refine blk_put (cs := #[.int .i64 0, .int .i64 0, .int .i64 0, .int .i64 0, .string (⟨#[]⟩ : ByteArray), .slice none 0 0]) ?_ 1 _ rfl; (with_reducible repeat (first | refine blk_drewN ?_ _ | refine blk_drew ?_ | refine blk_alloc ?_ _)); refine blk_put (cs := #[.int .i64 0, .int .i64 0, .int .i64 0, .int .i64 0, .string (⟨#[]⟩ : ByteArray), .slice none 0 0]) ?_ 0 _ rfl; (with_reducible repeat (first | refine blk_drewN ?_ _ | refine blk_drew ?_ | refine blk_alloc ?_ _)); exact BK226.out) Tryd.underlying43 rfl (by kernel_rfl)) rfl ?_
     exact ⟨_, qE, by first | exact Kd.R_nil _ _ _ _ _ | exact Kd.N_nil _ _ _ _ _ | exact Kd.V_nil _ _ _ _ _ | exact Kd.Q_nil _ _ _ _ _ | exact Kd.S_nil _ _ _ _ _, qB⟩
    ·rw [zD c15] at H
     have c15b0 := zG c15
     clear c15
     replace H := qb H; obtain ⟨t231, A17, H⟩ := H
     have HC18 := zA H
     clear H
     go_upto_if 42 with (first | ((with_reducible refine gate_dst (N := 8) rfl ?_); refine box_event (by rfl) (N := 8) (by rfl) (cs := #[.int .i64 0, .int .i64 0, .int .i64 0, .int .i64 0, .string (⟨#[]⟩ : ByteArray), .slice none 0 0]) (t := 43) ?hr ?_; (case hr => go_simp <;> rfl); intro gb230 hg w19 hbox hb; have BK230 := zA (hbox); have GW230 := qG hg; have GE230 := GW230; replace HB := qH hb; have NB226_230 := zA ((by rw [hg]; exact Nat.ne_of_lt (blk_lt (g := gb226) (o := .cells #[.int .i64 0, .int .i64 0, .int .i64 0, .int .i64 0, .string (⟨#[]⟩ : ByteArray), .slice none 0 0] 43 (0, 0)) (qK BK226.out)) : gb226 ≠ gb230)); have NB230_226 := zA ((by rw [hg]; exact Nat.ne_of_gt (blk_lt (g := gb226) (o := .cells #[.int .i64 0, .int .i64 0, .int .i64 0, .int .i64 0, .string (⟨#[]⟩ : ByteArray), .slice none 0 0] 43 (0, 0)) (qK BK226.out)) : gb230 ≠ gb226)); replace BK226 := qW BK226 hb; clear hb hbox hg; have hnb20 := NB230_226.out; have hnc20 := NB226_230.out; have z21_0 := bk6 BK230.out) | ((with_reducible refine gate_callee (f := 37) rfl ?_); refine goesL_ (some 39) rfl rfl Tryd.func37 (by kernel_rfl) rfl #[.agg #[.int .i64 x6_1, .int .i64 0, .int .i64 0, .int .i64 0, .string (⟨#[]⟩ : ByteArray), .slice none 0 0], .bool a1] rfl qL ?_; (refine (cubbyref08_numbers.calls k1 x6_1 0 0 0 (⟨#[]⟩ : ByteArray) _ _ ([] : List Int) a1 t231 _ ?side1 ?side2 A17.out).mono ?_); (case side1 => exact Kd.C_nil _ _); (case side2 => exact Nat.le_refl _); rintro e w22 ⟨v232, rfl, ho0, hb⟩; refine ⟨_, rfl, ?_⟩; have HO233 := zA (Kd.R_lower ho0 (below_size qB)); replace BK226 := zA (blk_below (g := gb226) (o := .cells #[.int .i64 0, .int .i64 0, .int .i64 0, .int .i64 0, .string (⟨#[]⟩ : ByteArray), .slice none 0 0] 43 (0, 0)) (by (with_reducible repeat (first | refine blk_drewN ?_ _ | refine blk_drew ?_ | refine blk_alloc ?_ _)); refine blk_far ?_ NB226_230.out _; (with_reducible repeat (first | refine blk_drewN ?_ _ | refine blk_drew ?_ | refine blk_alloc ?_ _)); refine blk_far ?_ NB226_230.out _; (with_reducible repeat (first | refine blk_drewN ?_ _ | refine blk_drew ?_ | refine blk_alloc ?_ _)); refine blk_far ?_ NB226_230.out _; (with_reducible repeat (first | refine blk_drewN ?_ _ | refine blk_drew ?_ | refine blk_alloc ?_ _)); refine blk_far ?_ NB226_230.out _; (with_reducible repeat (first | refine blk_drewN ?_ _ | refine blk_drew ?_ | refine blk_alloc ?_ _)); refine blk_far ?_ NB226_230.out _; (with_reducible repeat (first | refine blk_drewN ?_ _ | refine blk_drew ?_ | refine blk_alloc ?_ _)); refine blk_far ?_ NB226_230.out _; (with_reducible repeat (first | refine blk_drewN ?_ _ | refine blk_drew ?_ | refine blk_alloc ?_ _)); exact BK226.out) hb); replace BK230 := zA (blk_below (g := gb230) (o := .cells #[.int .i64 x6_1, .int .i64 0, .int .i64 0, .int .i64 0, .string (⟨#[]⟩ : ByteArray), .slice none 0 0] 43 (0, 0)) (by (with_reducible repeat (first | refine blk_drewN ?_ _ | refine blk_drew ?_ | refine blk_alloc ?_ _)); refine blk_put (cs := #[.int .i64 x6_1, .int .i64 0, .int .i64 0, .int .i64 0, .string (⟨#[]⟩ : ByteArray), .slice none 0 0]) ?_ 5 _ rfl; (with_reducible repeat (first | refine blk_drewN ?_ _ | refine blk_drew ?_ | refine blk_alloc ?_ _)); refine blk_put (cs := #[.int .i64 x6_1, .int .i64 0, .int .i64 0, .int .i64 0, .string (⟨#[]⟩ : ByteArray), .slice none 0 0]) ?_ 4 _ rfl; (with_reducible repeat (first | refine blk_drewN ?_ _ | refine blk_drew ?_ | refine blk_alloc ?_ _)); refine blk_put (cs := #[.int .i64 x6_1, .int .i64 0, .int .i64 0, .int .i64 0, .string (⟨#[]⟩ : ByteArray), .slice none 0 0]) ?_ 3 _ rfl; (with_reducible repeat (first | refine blk_drewN ?_ _ | refine blk_drew ?_ | refine blk_alloc ?_ _)); refine blk_put (cs := #[.int .i64 x6_1, .int .i64 0, .int .i64 0, .int .i64 0, .string (⟨#[]⟩ : ByteArray), .slice none 0 0]) ?_ 2 _ rfl; (with_reducible repeat (first | refine blk_drewN ?_ _ | refine blk_drew ?_ | refine blk_alloc ?_ _)); refine blk_put (cs := #[.int .i64 x6_1, .int .i64 0, .int .i64 0, .int .i64 0, .string (⟨#[]⟩ : ByteArray), .slice none 0 0]) ?_ 1 _ rfl; (with_reducible repeat (first | refine blk_drewN ?_ _ | refine blk_drew ?_ | refine blk_alloc ?_ _)); refine blk_put (cs := #[.int .i64 0, .int .i64 0, .int .i64 0, .int .i64 0, .string (⟨#[]⟩ : ByteArray), .slice none 0 0]) ?_ 0 _ rfl; (with_reducible repeat (first | refine blk_drewN ?_ _ | refine blk_drew ?_ | refine blk_alloc ?_ _)); exact BK230.out) hb); replace HB := qH hb; obtain ⟨Ao23, co23, eo23⟩ := Kd.R_slice HO233.out; subst eo23))
     (try simp only [Act.put, List.setIfInBounds_toArray, List.set_cons_zero, List.set_cons_succ])
     go_cut [9, 10] (fun v9 v10 wc => ∃ (kq : Nat) (x9_17 : Int) (x10_17 : Int), v9 = .int .i64 x9_17 ∧ v10 = .int .i64 x10_17 ∧ Aside0 (cubbyref08_ins.j1 kq l0 a1 x6_1 x9_17 x10_17 x6_1 0 0 0 (⟨#[]⟩ : ByteArray) = some (r1, r2, r3, r4, r5, r6, r7)) ∧ Aside0 (kq ≤ k1) ∧ Aside0 (wc.heap[gb226]? = some (.cells #[.int .i64 0, .int .i64 0, .int .i64 0, .int .i64 0, .string (⟨#[]⟩ : ByteArray), (.slice none 0 0)] 43 (0, 0))) ∧ Aside0 (wc.heap[gb230]? = some (.cells #[.int .i64 x6_1, .int .i64 0, .int .i64 0, .int .i64 0, .string (⟨#[]⟩ : ByteArray), (.slice none 0 0)] 43 (0, 0))) ∧ Aside0 (Below w.heap.size w wc))
     case first =>
      have H := HC18.out
      clear HC18
      by_cases c24 : x6_1 = 11
      ·rw [zC c24] at H
       obtain ⟨c24b0, c24b1⟩ := qe c24; clear c24
       (first | rw [c24b0] | (simp only [i64_w, i32_w]; rw [c24b0]) | skip)
       by_cases c25 : a1 = true
       ·subst c25
        have H1 : (cubbyref08_ins.j1 k1 l0 true x6_1 (wrap64 ((t231.length : Int) + 1)) 1 x6_1 0 0 0 (⟨#[]⟩ : ByteArray)) = some (r1, r2, r3, r4, r5, r6, r7) := by rw [zC rfl] at H; exact H
        clear H
        have H := H1
        clear H1
        have H' := zA H
        clear H
        go_wp2
        go_meet
        case rel => exact ⟨_, (wrap64 ((t231.length : Int) + 1)), (1), qT, qT, H', ⟨by have := HK1.out; first | omega | exact Nat.le_refl _⟩, ⟨qK BK226.out⟩, ⟨qK BK230.out⟩, ⟨qB⟩⟩
       ·replace c25 := Bool.eq_false_iff.mpr c25
        subst c25
        have H1 : (cubbyref08_ins.j1 k1 l0 false x6_1 (mx 2 (wrap64 ((l0.length : Int) - 1))) 1 x6_1 0 0 0 (⟨#[]⟩ : ByteArray)) = some (r1, r2, r3, r4, r5, r6, r7) := by rw [zD (show ¬ (false = true) by decide)] at H; exact H
        clear H
        have H := H1
        clear H1
        obtain ⟨ji26, hji26⟩ : ∃ j_ : Int, (mx 2 (wrap64 ((l0.length : Int) - 1))) = j_ := ⟨_, rfl⟩
        replace H : (cubbyref08_ins.j1 k1 l0 false x6_1 ji26 1 x6_1 0 0 0 (⟨#[]⟩ : ByteArray)) = some (r1, r2, r3, r4, r5, r6, r7) := by first | (rw [hji26] at H; exact H) | (simp only [hji26] at H ⊢; exact H)
        have hji26_ : (if 2 < (wrap64 ((l0.length : Int) - 1)) then (wrap64 ((l0.length : Int) - 1)) else 2) = ji26 := hji26
        have H' := zA H
        clear H
        go_wp2
        go_meet
        case rel => exact ⟨_, (ji26), (1), (by first | rfl | (simp; done) | (simp only [← hji26] <;> (first | rfl | simp)) | (simp [*]; done)), qT, H', ⟨by have := HK1.out; first | omega | exact Nat.le_refl _⟩, ⟨qK BK226.out⟩, ⟨qK BK230.out⟩, ⟨qB⟩⟩
      ·rw [zD c24] at H
       obtain ⟨c24b0, c24b1⟩ := qn c24
       (first | rw [c24b0] | (simp only [i64_w, i32_w]; rw [c24b0]) | skip)
       have H' := zA H
       clear H
       go_wp2
       go_meet
       case rel => exact ⟨_, ((t231.length : Int)), ((-1)), qT, qT, H', ⟨by have := HK1.out; first | omega | exact Nat.le_refl _⟩, ⟨qK BK226.out⟩, ⟨qK BK230.out⟩, ⟨qB⟩⟩
     case rest =>
      clear HC18
      try clear c1; try clear c2; try clear p2; try clear q2; try clear hx2; try clear qi2; try clear c3; try clear c4b0; try clear c6; try clear c6b0 c6b1; try clear p6; try clear c7; try clear c7b0 c7b1; try clear c8; try clear c8b0 c8b1; try clear c15b0; try clear c20; try clear p22; try clear q22; try clear hx22; try clear qi22; try clear c24; try clear c24b0 c24b1; try clear c25; try clear z16_0; try clear z21_0; try clear hx228_0; try clear hx229_0; try clear p228; try clear p229; try clear q228; try clear q229
      obtain ⟨kq, x9_17, x10_17, rfl, rfl, HA, HJ17, BK226, BK230, HB⟩ := hcut
      cases kq with
      | zero => exact absurd HA.out (by simp [cubbyref08_ins.j1])
      | succ kj17 =>
       have H := HA.out
       clear HA
       simp only [cubbyref08_ins.j1] at H
       replace H := Option.bind_eq_some_iff.mp H
       obtain ⟨⟨t234, t235, t236⟩, A270, H⟩ := H
       replace H : (if t236 = 0 then (if x6_1 = 3 then (cubbyref08_ins.j2 kj17 a1 t234 x6_1 (x6_1 == 3) x6_1 0 0 0 t235) else (if x6_1 = 4 then (cubbyref08_ins.j2 kj17 a1 t234 x6_1 (x6_1 == 4) x6_1 0 0 0 t235) else (if x6_1 = 5 then (cubbyref08_ins.j2 kj17 a1 t234 x6_1 (x6_1 == 5) x6_1 0 0 0 t235) else (if x6_1 = 6 then (cubbyref08_ins.j2 kj17 a1 t234 x6_1 (x6_1 == 6) x6_1 0 0 0 t235) else (cubbyref08_ins.j2 kj17 a1 t234 x6_1 (x6_1 == 7) x6_1 0 0 0 t235))))) else (some (0, 0, 0, 0, (⟨#[]⟩ : ByteArray), ([] : List Int), t236))) = some (r1, r2, r3, r4, r5, r6, r7) := H
       have A27 := zA A270
       clear A270
       by_cases c28 : t236 = 0
       ·rw [zC c28] at H
        obtain ⟨c28b0, c28b1⟩ := qe c28; clear c28
        have HC29 := zA H
        clear H
        go_upto_if 74 with (first | ((with_reducible refine gate_callee (f := 44) rfl ?_); refine goesL_ (some 55) rfl rfl Tryd.func44 (by kernel_rfl) rfl #[.slice A0 l0.length c0, .int .i64 x9_17, .int .i64 x10_17] rfl qL ?_; (with_reducible refine (cubbyref08_read.calls kj17 _ _ l0 x9_17 x10_17 t234 t235 t236 _ ?side1 ?side2 A27.out).mono ?_); (case side1 => exact qCB HR0.out); (case side2 => exact HC0.out); rintro e w30 ⟨v237, rfl, ho0, hb⟩; refine ⟨_, rfl, ?_⟩; have HO238 := zA (Kd.R_lower ho0 (below_size qB)); replace BK226 := qW BK226 hb; replace BK230 := qW BK230 hb; replace HB := qH hb; (try clear hb); (try clear ho0); have hnb31 := NB230_226.out; have hnc31 := NB226_230.out; have z32_0 := bk6 BK230.out))
        (try simp only [Act.put, List.setIfInBounds_toArray, List.set_cons_zero, List.set_cons_succ])
        go_cut [74] (fun v74 wc => ∃ (kq : Nat) (x74_28 : Bool), v74 = .bool x74_28 ∧ Aside0 (cubbyref08_ins.j2 kq a1 t234 x6_1 x74_28 x6_1 0 0 0 t235 = some (r1, r2, r3, r4, r5, r6, r7)) ∧ Aside0 (kq ≤ kj17) ∧ Aside0 (Kd.R (Kd.int .i64) 3 wc w.heap.size (fun _ => True) v237 t234) ∧ Aside0 (wc.heap[gb226]? = some (.cells #[.int .i64 0, .int .i64 0, .int .i64 0, .int .i64 0, .string (⟨#[]⟩ : ByteArray), (.slice none 0 0)] 43 (0, 0))) ∧ Aside0 (wc.heap[gb230]? = some (.cells #[.int .i64 x6_1, .int .i64 0, .int .i64 0, .int .i64 0, .string t235, (.slice none 0 0)] 43 (0, 0))) ∧ Aside0 (Below w.heap.size w wc))
        case first =>
         have H := HC29.out
         clear HC29
         by_cases c33 : x6_1 = 3
         ·rw [zC c33] at H
          obtain ⟨c33b0, c33b1⟩ := qe c33; clear c33
          (first | rw [c33b0] | (simp only [i64_w, i32_w]; rw [c33b0]) | skip)
          have H' := zA H
          clear H
          go_wp2
          go_meet
          case rel => exact ⟨_, ((x6_1 == 3)), qT, H', ⟨by have := HK1.out; have := HJ17.out; first | omega | exact Nat.le_refl _⟩, ⟨by (with_reducible repeat (first | apply Kd.R_alloc | apply Kd.R_drewN | apply Kd.R_drew)); exact Kd.R_mono (Kd.R_far (p := ⟨gb230, 4, none⟩) (Kd.R_types HO238.out BK230.out (by decide)) (fun _ hk => hk.2) (.string t235)) (fun _ hk => trivial)⟩, ⟨by (with_reducible repeat (first | refine blk_drewN ?_ _ | refine blk_drew ?_ | refine blk_alloc ?_ _)); refine blk_far ?_ NB226_230.out _; (with_reducible repeat (first | refine blk_drewN ?_ _ | refine blk_drew ?_ | refine blk_alloc ?_ _)); exact BK226.out⟩, ⟨by (with_reducible repeat (first | refine blk_drewN ?_ _ | refine blk_drew ?_ | refine blk_alloc ?_ _)); refine blk_put (cs := #[.int .i64 x6_1, .int .i64 0, .int .i64 0, .int .i64 0, .string (⟨#[]⟩ : ByteArray), .slice none 0 0]) ?_ 4 _ rfl; (with_reducible repeat (first | refine blk_drewN ?_ _ | refine blk_drew ?_ | refine blk_alloc ?_ _)); exact BK230.out⟩, ⟨qB⟩⟩
         ·rw [zD c33] at H
          obtain ⟨c33b0, c33b1⟩ := qn c33
          (first | rw [c33b0] | (simp only [i64_w, i32_w]; rw [c33b0]) | skip)
          by_cases c34 : x6_1 = 4
          ·rw [zC c34] at H
           obtain ⟨c34b0, c34b1⟩ := qe c34; clear c34
           have H' := zA H
           clear H
           go_wp2
           go_meet
           case rel => exact ⟨_, ((x6_1 == 4)), qT, H', ⟨by have := HK1.out; have := HJ17.out; first | omega | exact Nat.le_refl _⟩, ⟨by (with_reducible repeat (first | apply Kd.R_alloc | apply Kd.R_drewN | apply Kd.R_drew)); exact Kd.R_mono (Kd.R_far (p := ⟨gb230, 4, none⟩) (Kd.R_types HO238.out BK230.out (by decide)) (fun _ hk => hk.2) (.string t235)) (fun _ hk => trivial)⟩, ⟨by (with_reducible repeat (first | refine blk_drewN ?_ _ | refine blk_drew ?_ | refine blk_alloc ?_ _)); refine blk_far ?_ NB226_230.out _; (with_reducible repeat (first | refine blk_drewN ?_ _ | refine blk_drew ?_ | refine blk_alloc ?_ _)); exact BK226.out⟩, ⟨by (with_reducible repeat (first | refine blk_drewN ?_ _ | refine blk_drew ?_ | refine blk_alloc ?_ _)); refine blk_put (cs := #[.int .i64 x6_1, .int .i64 0, .int .i64 0, .int .i64 0, .string (⟨#[]⟩ : ByteArray), .slice none 0 0]) ?_ 4 _ rfl; (with_reducible repeat (first | refine blk_drewN ?_ _ | refine blk_drew ?_ | refine blk_alloc ?_ _)); exact BK230.out⟩, ⟨qB⟩⟩
          ·rw [zD c34] at H
           obtain ⟨c34b0, c34b1⟩ := qn c34
           by_cases c35 : x6_1 = 5
           ·rw [zC c35] at H
            obtain ⟨c35b0, c35b1⟩ := qe c35; clear c35
            have H' := zA H
            clear H
            go_wp2
            go_meet
            case rel => exact ⟨_, ((x6_1 == 5)), qT, H', ⟨by have := HK1.out; have := HJ17.out; first | omega | exact Nat.le_refl _⟩, ⟨by (with_reducible repeat (first | apply Kd.R_alloc | apply Kd.R_drewN | apply Kd.R_drew)); exact Kd.R_mono (Kd.R_far (p := ⟨gb230, 4, none⟩) (Kd.R_types HO238.out BK230.out (by decide)) (fun _ hk => hk.2) (.string t235)) (fun _ hk => trivial)⟩, ⟨by (with_reducible repeat (first | refine blk_drewN ?_ _ | refine blk_drew ?_ | refine blk_alloc ?_ _)); refine blk_far ?_ NB226_230.out _; (with_reducible repeat (first | refine blk_drewN ?_ _ | refine blk_drew ?_ | refine blk_alloc ?_ _)); exact BK226.out⟩, ⟨by (with_reducible repeat (first | refine blk_drewN ?_ _ | refine blk_drew ?_ | refine blk_alloc ?_ _)); refine blk_put (cs := #[.int .i64 x6_1, .int .i64 0, .int .i64 0, .int .i64 0, .string (⟨#[]⟩ : ByteArray), .slice none 0 0]) ?_ 4 _ rfl; (with_reducible repeat (first | refine blk_drewN ?_ _ | refine blk_drew ?_ | refine blk_alloc ?_ _)); exact BK230.out⟩, ⟨qB⟩⟩
           ·rw [zD c35] at H
            obtain ⟨c35b0, c35b1⟩ := qn c35
            by_cases c36 : x6_1 = 6
            ·rw [zC c36] at H
             obtain ⟨c36b0, c36b1⟩ := qe c36; clear c36
             have H' := zA H
             clear H
             go_wp2
             go_meet
             case rel => exact ⟨_, ((x6_1 == 6)), qT, H', ⟨by have := HK1.out; have := HJ17.out; first | omega | exact Nat.le_refl _⟩, ⟨by (with_reducible repeat (first | apply Kd.R_alloc | apply Kd.R_drewN | apply Kd.R_drew)); exact Kd.R_mono (Kd.R_far (p := ⟨gb230, 4, none⟩) (Kd.R_types HO238.out BK230.out (by decide)) (fun _ hk => hk.2) (.string t235)) (fun _ hk => trivial)⟩, ⟨by (with_reducible repeat (first | refine blk_drewN ?_ _ | refine blk_drew ?_ | refine blk_alloc ?_ _)); refine blk_far ?_ NB226_230.out _; (with_reducible repeat (first | refine blk_drewN ?_ _ | refine blk_drew ?_ | refine blk_alloc ?_ _)); exact BK226.out⟩, ⟨by (with_reducible repeat (first | refine blk_drewN ?_ _ | refine blk_drew ?_ | refine blk_alloc ?_ _)); refine blk_put (cs := #[.int .i64 x6_1, .int .i64 0, .int .i64 0, .int .i64 0, .string (⟨#[]⟩ : ByteArray), .slice none 0 0]) ?_ 4 _ rfl; (with_reducible repeat (first | refine blk_drewN ?_ _ | refine blk_drew ?_ | refine blk_alloc ?_ _)); exact BK230.out⟩, ⟨qB⟩⟩
            ·rw [zD c36] at H
             obtain ⟨c36b0, c36b1⟩ := qn c36
             have H' := zA H
             clear H
             go_wp2
             go_meet
             case rel => exact ⟨_, ((x6_1 == 7)), qT, H', ⟨by have := HK1.out; have := HJ17.out; first | omega | exact Nat.le_refl _⟩, ⟨by (with_reducible repeat (first | apply Kd.R_alloc | apply Kd.R_drewN | apply Kd.R_drew)); exact Kd.R_mono (Kd.R_far (p := ⟨gb230, 4, none⟩) (Kd.R_types HO238.out BK230.out (by decide)) (fun _ hk => hk.2) (.string t235)) (fun _ hk => trivial)⟩, ⟨by (with_reducible repeat (first | refine blk_drewN ?_ _ | refine blk_drew ?_ | refine blk_alloc ?_ _)); refine blk_far ?_ NB226_230.out _; (with_reducible repeat (first | refine blk_drewN ?_ _ | refine blk_drew ?_ | refine blk_alloc ?_ _)); exact BK226.out⟩, ⟨by (with_reducible repeat (first | refine blk_drewN ?_ _ | refine blk_drew ?_ | refine blk_alloc ?_ _)); refine blk_put (cs := #[.int .i64 x6_1, .int .i64 0, .int .i64 0, .int .i64 0, .string (⟨#[]⟩ : ByteArray), .slice none 0 0]) ?_ 4 _ rfl; (with_reducible repeat (first | refine blk_drewN ?_ _ | refine blk_drew ?_ | refine blk_alloc ?_ _)); exact BK230.out⟩, ⟨qB⟩⟩
        case rest =>
         clear HC29
         try clear c1; try clear c2; try clear p2; try clear q2; try clear hx2; try clear qi2; try clear c3; try clear c4b0; try clear c6; try clear c6b0 c6b1; try clear p6; try clear c7; try clear c7b0 c7b1; try clear c8; try clear c8b0 c8b1; try clear c15b0; try clear c20; try clear p22; try clear q22; try clear hx22; try clear qi22; try clear c24; try clear c24b0 c24b1; try clear c25; try clear c28b0 c28b1; try clear c31; try clear c33; try clear c33b0 c33b1; try clear c34; try clear c34b0 c34b1; try clear c35; try clear c35b0 c35b1; try clear c36; try clear c36b0 c36b1; try clear z16_0; try clear z21_0; try clear z32_0; try clear hx228_0; try clear hx229_0; try clear p228; try clear p229; try clear q228; try clear q229
         obtain ⟨kq, x74_28, rfl, HA, HJ28, HO_11, BK226, BK230, HB⟩ := hcut
         cases kq with
         | zero => exact absurd HA.out (by simp [cubbyref08_ins.j2])
         | succ kj28 =>
          have H := HA.out
          clear HA
          simp only [cubbyref08_ins.j2] at H
          by_cases c37 : x74_28 = true
          ·subst c37
           have H1 : (if 0 < (t234.length : Int) then (if 1 < (t234.length : Int) then (if 2 < (t234.length : Int) then (some (x6_1, rd t234 0, rd t234 1, rd t234 2, t235, ([] : List Int), 0)) else (none)) else (none)) else (none)) = some (r1, r2, r3, r4, r5, r6, r7) := by rw [zC rfl] at H; exact H
           clear H
           have H := H1
           clear H1
           by_cases c38 : 0 < (t234.length : Int)
           ·rw [zC c38] at H
            have c38b0 := zF c38
            have c38b1 : decide (0 < t234.length) = true := zF (by omega)
            clear c38
            by_cases c39 : 1 < (t234.length : Int)
            ·rw [zC c39] at H
             have c39b0 := zF c39
             have c39b1 : decide (1 < t234.length) = true := zF (by omega)
             clear c39
             by_cases c40 : 2 < (t234.length : Int)
             ·rw [zC c40] at H
              have c40b0 := zF c40
              have c40b1 : decide (2 < t234.length) = true := zF (by omega)
              clear c40
              simp only [Option.some.injEq, Prod.mk.injEq] at H
              obtain ⟨rfl, rfl, rfl, rfl, rfl, rfl, rfl⟩ := H
              obtain ⟨Ao41, co41, eo41⟩ := Kd.R_slice HO_11.out
              subst eo41
              have p239 : 0 ≤ (0 : Int) := (by omega)
              have q239 : 0 < (t234.length : Int) := zB qA
              obtain ⟨ad239, e239, hx239_0⟩ := Kd.at_int (Kd.R_reads' HO_11.out).2.2 0 p239 q239
              cases e239
              have qi239 : (0 < t234.length) = True := eq_true (by omega)
              (try rw [show ((0 : Int)).toNat = 0 from rfl] at hx239_0)
              (try rw [Addr.add_zero'] at hx239_0)
              replace p239 := eq_true p239
              replace q239 := eq_true q239
              have hnb42 := NB230_226.out
              have hnc42 := NB226_230.out
              have z43_0 := bk6 BK230.out
              have p240 : 0 ≤ (1 : Int) := (by omega)
              have q240 : 1 < (t234.length : Int) := zB qA
              obtain ⟨ad240, e240, hx240_0⟩ := Kd.at_int (Kd.R_reads' HO_11.out).2.2 1 p240 q240
              obtain rfl : ad239 = ad240 := (by injection e240)
              (try simp only [show (1 : Int).toNat = 1 from rfl, Nat.reduceMul, Nat.reduceEqDiff, Go.Addr.add, ↓reduceIte] at hx240_0)
              have qi240 : (1 < t234.length) = True := eq_true (by omega)
              (try rw [show ((1 : Int)).toNat = 1 from rfl] at hx240_0)
              have hn240_0 : ad239.block ≠ gb230 := Kd.own_blk (Kd.R_ne HO_11.out BK230.out (by decide))
              replace hx240_0 := (cell_far (p := ⟨gb230, 1, none⟩) (by first | (rw [add_block]; exact hn240_0) | (show (Addr.add _ _).block ≠ _; rw [add_block]; exact hn240_0) | exact hn240_0) (.int .i64 (rd t234 0))).trans hx240_0
              clear hn240_0
              replace p240 := eq_true p240
              replace q240 := eq_true q240
              have p241 : 0 ≤ (2 : Int) := (by omega)
              have q241 : 2 < (t234.length : Int) := zB qA
              obtain ⟨ad241, e241, hx241_0⟩ := Kd.at_int (Kd.R_reads' HO_11.out).2.2 2 p241 q241
              obtain rfl : ad239 = ad241 := (by injection e241)
              (try simp only [show (2 : Int).toNat = 2 from rfl, Nat.reduceMul, Nat.reduceEqDiff, Go.Addr.add, ↓reduceIte] at hx241_0)
              have qi241 : (2 < t234.length) = True := eq_true (by omega)
              (try rw [show ((2 : Int)).toNat = 2 from rfl] at hx241_0)
              have hn241_0 : ad239.block ≠ gb230 := Kd.own_blk (Kd.R_ne HO_11.out BK230.out (by decide))
              have hn241_1 : ad239.block ≠ gb230 := Kd.own_blk (Kd.R_ne HO_11.out BK230.out (by decide))
              replace hx241_0 := (cell_far (p := ⟨gb230, 1, none⟩) (by first | (rw [add_block]; exact hn241_0) | (show (Addr.add _ _).block ≠ _; rw [add_block]; exact hn241_0) | exact hn241_0) (.int .i64 (rd t234 0))).trans hx241_0
              replace hx241_0 := (cell_far (p := ⟨gb230, 2, none⟩) (by first | (rw [add_block]; exact hn241_1) | (show (Addr.add _ _).block ≠ _; rw [add_block]; exact hn241_1) | exact hn241_1) (.int .i64 (rd t234 1))).trans hx241_0
              clear hn241_0
              clear hn241_1
              replace p241 := eq_true p241
              replace q241 := eq_true q241
              have z44_0 := bk6 BK226.out
              go_wp2
              refine bodyPost_ret (results_ct rfl _ _ gb226 43 #[.int .i64 x6_1, .int .i64 (rd t234 0), .int .i64 (rd t234 1), .int .i64 (rd t234 2), .string t235, .slice none 0 0] (0, 0) _ rfl (by (with_reducible repeat (first | refine blk_drewN ?_ _ | refine blk_drew ?_ | refine blk_alloc ?_ _)); refine blk_put (cs := #[.int .i64 x6_1, .int .i64 (rd t234 0), .int .i64 (rd t234 1), .int .i64 (rd t234 2), .string t235, .slice none 0 0]) ?_ 5 _ rfl; (with_reducible repeat (first | refine blk_drewN ?_ _ | refine blk_drew ?_ | refine blk_alloc ?_ _)); refine blk_put (cs := #[.int .i64 x6_1, .int .i64 (rd t234 0), .int .i64 (rd t234 1), .int .i64 (rd t234 2), .string (⟨#[]⟩ : ByteArray), .slice none 0 0]) ?_ 4 _ rfl; (with_reducible repeat (first | refine blk_drewN ?_ _ | refine blk_drew ?_ | refine blk_alloc ?_ _)); refine blk_put (cs := #[.int .i64 x6_1, .int .i64 (rd t234 0), .int .i64 (rd t234 1), .int .i64 0, .string (⟨#[]⟩ : ByteArray), .slice none 0 0]) ?_ 3 _ rfl; (with_reducible repeat (first | refine blk_drewN ?_ _ | refine blk_drew ?_ | refine blk_alloc ?_ _)); refine blk_put (cs := #[.int .i64 x6_1, .int .i64 (rd t234 0), .int .i64 0, .int .i64 0, .string (⟨#[]⟩ : ByteArray), .slice none 0 0]) ?_ 2 _ rfl; (with_reducible repeat (first | refine blk_drewN ?_ _ | refine blk_drew ?_ | refine blk_alloc ?_ _)); refine blk_put (cs := #[.int .i64 x6_1, .int .i64 0, .int .i64 0, .int .i64 0, .string (⟨#[]⟩ : ByteArray), .slice none 0 0]) ?_ 1 _ rfl; (with_reducible repeat (first | refine blk_drewN ?_ _ | refine blk_drew ?_ | refine blk_alloc ?_ _)); refine blk_put (cs := #[.int .i64 0, .int .i64 0, .int .i64 0, .int .i64 0, .string (⟨#[]⟩ : ByteArray), .slice none 0 0]) ?_ 0 _ rfl; (with_reducible repeat (first | refine blk_drewN ?_ _ | refine blk_drew ?_ | refine blk_alloc ?_ _)); refine blk_far ?_ NB226_230.out _; (with_reducible repeat (first | refine blk_drewN ?_ _ | refine blk_drew ?_ | refine blk_alloc ?_ _)); refine blk_far ?_ NB226_230.out _; (with_reducible repeat (first | refine blk_drewN ?_ _ | refine blk_drew ?_ | refine blk_alloc ?_ _)); refine blk_far ?_ NB226_230.out _; (with_reducible repeat (first | refine blk_drewN ?_ _ | refine blk_drew ?_ | refine blk_alloc ?_ _)); exact BK226.out) Tryd.underlying43 rfl (by kernel_rfl)) rfl ?_
              exact ⟨_, qE, by first | exact Kd.R_nil _ _ _ _ _ | exact Kd.N_nil _ _ _ _ _ | exact Kd.V_nil _ _ _ _ _ | exact Kd.Q_nil _ _ _ _ _ | exact Kd.S_nil _ _ _ _ _, qB⟩
             ·rw [zD c40] at H
              exact absurd H (by simp)
            ·rw [zD c39] at H
             exact absurd H (by simp)
           ·rw [zD c38] at H
            exact absurd H (by simp)
          ·replace c37 := Bool.eq_false_iff.mpr c37
           subst c37
           have H1 : (if x6_1 = 9 then (if 0 < (t234.length : Int) then (if 1 < (t234.length : Int) then (some (x6_1, 0, rd t234 0, rd t234 1, t235, ([] : List Int), 0)) else (none)) else (none)) else (if x6_1 = 10 then (cubbyref08_ins.j3 kj28 a1 t234 x6_1 (x6_1 == 10) x6_1 0 0 0 t235) else (if x6_1 = 12 then (cubbyref08_ins.j3 kj28 a1 t234 x6_1 (x6_1 == 12) x6_1 0 0 0 t235) else (cubbyref08_ins.j3 kj28 a1 t234 x6_1 (x6_1 == 14) x6_1 0 0 0 t235)))) = some (r1, r2, r3, r4, r5, r6, r7) := by rw [zD (show ¬ (false = true) by decide)] at H; exact H
           clear H
           have H := H1
           clear H1
           by_cases c45 : x6_1 = 9
           ·rw [zC c45] at H
            obtain ⟨c45b0, c45b1⟩ := qe c45; clear c45
            by_cases c46 : 0 < (t234.length : Int)
            ·rw [zC c46] at H
             have c46b0 := zF c46
             have c46b1 : decide (0 < t234.length) = true := zF (by omega)
             clear c46
             by_cases c47 : 1 < (t234.length : Int)
             ·rw [zC c47] at H
              have c47b0 := zF c47
              have c47b1 : decide (1 < t234.length) = true := zF (by omega)
              clear c47
              simp only [Option.some.injEq, Prod.mk.injEq] at H
              obtain ⟨rfl, rfl, rfl, rfl, rfl, rfl, rfl⟩ := H
              obtain ⟨Ao48, co48, eo48⟩ := Kd.R_slice HO_11.out
              subst eo48
              have p242 : 0 ≤ (0 : Int) := (by omega)
              have q242 : 0 < (t234.length : Int) := zB qA
              obtain ⟨ad242, e242, hx242_0⟩ := Kd.at_int (Kd.R_reads' HO_11.out).2.2 0 p242 q242
              cases e242
              have qi242 : (0 < t234.length) = True := eq_true (by omega)
              (try rw [show ((0 : Int)).toNat = 0 from rfl] at hx242_0)
              (try rw [Addr.add_zero'] at hx242_0)
              replace p242 := eq_true p242
              replace q242 := eq_true q242
              have hnb49 := NB230_226.out
              have hnc49 := NB226_230.out
              have z50_0 := bk6 BK230.out
              have p243 : 0 ≤ (1 : Int) := (by omega)
              have q243 : 1 < (t234.length : Int) := zB qA
              obtain ⟨ad243, e243, hx243_0⟩ := Kd.at_int (Kd.R_reads' HO_11.out).2.2 1 p243 q243
              obtain rfl : ad242 = ad243 := (by injection e243)
              (try simp only [show (1 : Int).toNat = 1 from rfl, Nat.reduceMul, Nat.reduceEqDiff, Go.Addr.add, ↓reduceIte] at hx243_0)
              have qi243 : (1 < t234.length) = True := eq_true (by omega)
              (try rw [show ((1 : Int)).toNat = 1 from rfl] at hx243_0)
              have hn243_0 : ad242.block ≠ gb230 := Kd.own_blk (Kd.R_ne HO_11.out BK230.out (by decide))
              replace hx243_0 := (cell_far (p := ⟨gb230, 2, none⟩) (by first | (rw [add_block]; exact hn243_0) | (show (Addr.add _ _).block ≠ _; rw [add_block]; exact hn243_0) | exact hn243_0) (.int .i64 (rd t234 0))).trans hx243_0
              clear hn243_0
              replace p243 := eq_true p243
              replace q243 := eq_true q243
              have z51_0 := bk6 BK226.out
              go_wp2
              refine bodyPost_ret (results_ct rfl _ _ gb226 43 #[.int .i64 x6_1, .int .i64 0, .int .i64 (rd t234 0), .int .i64 (rd t234 1), .string t235, .slice none 0 0] (0, 0) _ rfl (by (with_reducible repeat (first | refine blk_drewN ?_ _ | refine blk_drew ?_ | refine blk_alloc ?_ _)); refine blk_put (cs := #[.int .i64 x6_1, .int .i64 0, .int .i64 (rd t234 0), .int .i64 (rd t234 1), .string t235, .slice none 0 0]) ?_ 5 _ rfl; (with_reducible repeat (first | refine blk_drewN ?_ _ | refine blk_drew ?_ | refine blk_alloc ?_ _)); refine blk_put (cs := #[.int .i64 x6_1, .int .i64 0, .int .i64 (rd t234 0), .int .i64 (rd t234 1), .string (⟨#[]⟩ : ByteArray), .slice none 0 0]) ?_ 4 _ rfl; (with_reducible repeat (first | refine blk_drewN ?_ _ | refine blk_drew ?_ | refine blk_alloc ?_ _)); refine blk_put (cs := #[.int .i64 x6_1, .int .i64 0, .int .i64 (rd t234 0), .int .i64 0, .string (⟨#[]⟩ : ByteArray), .slice none 0 0]) ?_ 3 _ rfl; (with_reducible repeat (first | refine blk_drewN ?_ _ | refine blk_drew ?_ | refine blk_alloc ?_ _)); refine blk_put (cs := #[.int .i64 x6_1, .int .i64 0, .int .i64 0, .int .i64 0, .string (⟨#[]⟩ : ByteArray), .slice none 0 0]) ?_ 2 _ rfl; (with_reducible repeat (first | refine blk_drewN ?_ _ | refine blk_drew ?_ | refine blk_alloc ?_ _)); refine blk_put (cs := #[.int .i64 x6_1, .int .i64 0, .int .i64 0, .int .i64 0, .string (⟨#[]⟩ : ByteArray), .slice none 0 0]) ?_ 1 _ rfl; (with_reducible repeat (first | refine blk_drewN ?_ _ | refine blk_drew ?_ | refine blk_alloc ?_ _)); refine blk_put (cs := #[.int .i64 0, .int .i64 0, .int .i64 0, .int .i64 0, .string (⟨#[]⟩ : ByteArray), .slice none 0 0]) ?_ 0 _ rfl; (with_reducible repeat (first | refine blk_drewN ?_ _ | refine blk_drew ?_ | refine blk_alloc ?_ _)); refine blk_far ?_ NB226_230.out _; (with_reducible repeat (first | refine blk_drewN ?_ _ | refine blk_drew ?_ | refine blk_alloc ?_ _)); refine blk_far ?_ NB226_230.out _; (with_reducible repeat (first | refine blk_drewN ?_ _ | refine blk_drew ?_ | refine blk_alloc ?_ _)); exact BK226.out) Tryd.underlying43 rfl (by kernel_rfl)) rfl ?_
              exact ⟨_, qE, by first | exact Kd.R_nil _ _ _ _ _ | exact Kd.N_nil _ _ _ _ _ | exact Kd.V_nil _ _ _ _ _ | exact Kd.Q_nil _ _ _ _ _ | exact Kd.S_nil _ _ _ _ _, qB⟩
             ·rw [zD c47] at H
              exact absurd H (by simp)
            ·rw [zD c46] at H
             exact absurd H (by simp)
           ·rw [zD c45] at H
            obtain ⟨c45b0, c45b1⟩ := qn c45
            have HC52 := zA H
            clear H
            go_upto_if 102 with (fail)
            go_cut [102] (fun v102 wc => ∃ (kq : Nat) (x102_51 : Bool), v102 = .bool x102_51 ∧ Aside0 (cubbyref08_ins.j3 kq a1 t234 x6_1 x102_51 x6_1 0 0 0 t235 = some (r1, r2, r3, r4, r5, r6, r7)) ∧ Aside0 (kq ≤ kj28) ∧ Aside0 (Kd.R (Kd.int .i64) 3 wc w.heap.size (fun _ => True) v237 t234) ∧ Aside0 (wc.heap[gb226]? = some (.cells #[.int .i64 0, .int .i64 0, .int .i64 0, .int .i64 0, .string (⟨#[]⟩ : ByteArray), (.slice none 0 0)] 43 (0, 0))) ∧ Aside0 (wc.heap[gb230]? = some (.cells #[.int .i64 x6_1, .int .i64 0, .int .i64 0, .int .i64 0, .string t235, (.slice none 0 0)] 43 (0, 0))) ∧ Aside0 (Below w.heap.size w wc))
            case first =>
             have H := HC52.out
             clear HC52
             by_cases c53 : x6_1 = 10
             ·rw [zC c53] at H
              obtain ⟨c53b0, c53b1⟩ := qe c53; clear c53
              (first | rw [c53b0] | (simp only [i64_w, i32_w]; rw [c53b0]) | skip)
              have H' := zA H
              clear H
              go_wp2
              go_meet
              case rel => exact ⟨_, ((x6_1 == 10)), qT, H', ⟨by have := HK1.out; have := HJ17.out; have := HJ28.out; first | omega | exact Nat.le_refl _⟩, ⟨qR HO_11.out⟩, ⟨qK BK226.out⟩, ⟨qK BK230.out⟩, ⟨qB⟩⟩
             ·rw [zD c53] at H
              obtain ⟨c53b0, c53b1⟩ := qn c53
              (first | rw [c53b0] | (simp only [i64_w, i32_w]; rw [c53b0]) | skip)
              by_cases c54 : x6_1 = 12
              ·rw [zC c54] at H
               obtain ⟨c54b0, c54b1⟩ := qe c54; clear c54
               have H' := zA H
               clear H
               go_wp2
               go_meet
               case rel => exact ⟨_, ((x6_1 == 12)), qT, H', ⟨by have := HK1.out; have := HJ17.out; have := HJ28.out; first | omega | exact Nat.le_refl _⟩, ⟨qR HO_11.out⟩, ⟨qK BK226.out⟩, ⟨qK BK230.out⟩, ⟨qB⟩⟩
              ·rw [zD c54] at H
               obtain ⟨c54b0, c54b1⟩ := qn c54
               have H' := zA H
               clear H
               go_wp2
               go_meet
               case rel => exact ⟨_, ((x6_1 == 14)), qT, H', ⟨by have := HK1.out; have := HJ17.out; have := HJ28.out; first | omega | exact Nat.le_refl _⟩, ⟨qR HO_11.out⟩, ⟨qK BK226.out⟩, ⟨qK BK230.out⟩, ⟨qB⟩⟩
            case rest =>
             clear HC52
             try clear c1; try clear c2; try clear p2; try clear q2; try clear hx2; try clear qi2; try clear c3; try clear c4b0; try clear c5; try clear c6; try clear c6b0 c6b1; try clear p6; try clear c7; try clear c7b0 c7b1; try clear c8; try clear c8b0 c8b1; try clear c15b0; try clear c20; try clear p22; try clear q22; try clear hx22; try clear qi22; try clear p23; try clear q23; try clear hx23; try clear qi23; try clear c24; try clear c24b0 c24b1; try clear p24; try clear q24; try clear hx24; try clear qi24; try clear c25; try clear c28b0 c28b1; try clear c31; try clear c33; try clear c33b0 c33b1; try clear c34; try clear c34b0 c34b1; try clear c35; try clear c35b0 c35b1; try clear c36; try clear c36b0 c36b1; try clear c37; try clear c38; try clear c38b0 c38b1; try clear c39; try clear c39b0 c39b1; try clear c40; try clear c40b0 c40b1; try clear c42; try clear c44; try clear c45; try clear c45b0 c45b1; try clear c46; try clear c46b0 c46b1; try clear c47; try clear c47b0 c47b1; try clear c49; try clear c53; try clear c53b0 c53b1; try clear c54; try clear c54b0 c54b1; try clear z16_0; try clear z21_0; try clear z32_0; try clear z43_0; try clear z44_0; try clear z50_0; try clear z51_0; try clear hx228_0; try clear hx229_0; try clear hx239_0; try clear hx240_0; try clear hx241_0; try clear hx242_0; try clear hx243_0; try clear p228; try clear p229; try clear p239; try clear p240; try clear p241; try clear p242; try clear p243; try clear q228; try clear q229; try clear q239; try clear q240; try clear q241; try clear q242; try clear q243
             obtain ⟨kq, x102_51, rfl, HA, HJ51, HO_11, BK226, BK230, HB⟩ := hcut
             cases kq with
             | zero => exact absurd HA.out (by simp [cubbyref08_ins.j3])
             | succ kj51 =>
              have H := HA.out
              clear HA
              simp only [cubbyref08_ins.j3] at H
              by_cases c55 : x102_51 = true
              ·subst c55
               have H1 : (if 0 < (t234.length : Int) then (some (x6_1, 0, rd t234 0, 0, t235, ([] : List Int), 0)) else (none)) = some (r1, r2, r3, r4, r5, r6, r7) := by rw [zC rfl] at H; exact H
               clear H
               have H := H1
               clear H1
               by_cases c56 : 0 < (t234.length : Int)
               ·rw [zC c56] at H
                have c56b0 := zF c56
                have c56b1 : decide (0 < t234.length) = true := zF (by omega)
                clear c56
                simp only [Option.some.injEq, Prod.mk.injEq] at H
                obtain ⟨rfl, rfl, rfl, rfl, rfl, rfl, rfl⟩ := H
                obtain ⟨Ao57, co57, eo57⟩ := Kd.R_slice HO_11.out
                subst eo57
                have p244 : 0 ≤ (0 : Int) := (by omega)
                have q244 : 0 < (t234.length : Int) := zB qA
                obtain ⟨ad244, e244, hx244_0⟩ := Kd.at_int (Kd.R_reads' HO_11.out).2.2 0 p244 q244
                cases e244
                have qi244 : (0 < t234.length) = True := eq_true (by omega)
                (try rw [show ((0 : Int)).toNat = 0 from rfl] at hx244_0)
                (try rw [Addr.add_zero'] at hx244_0)
                replace p244 := eq_true p244
                replace q244 := eq_true q244
                have hnb58 := NB230_226.out
                have hnc58 := NB226_230.out
                have z59_0 := bk6 BK230.out
                have z60_0 := bk6 BK226.out
                go_wp2
                refine bodyPost_ret (results_ct rfl _ _ gb226 43 #[.int .i64 x6_1, .int .i64 0, .int .i64 (rd t234 0), .int .i64 0, .string t235, .slice none 0 0] (0, 0) _ rfl (by (with_reducible repeat (first | refine blk_drewN ?_ _ | refine blk_drew ?_ | refine blk_alloc ?_ _)); refine blk_put (cs := #[.int .i64 x6_1, .int .i64 0, .int .i64 (rd t234 0), .int .i64 0, .string t235, .slice none 0 0]) ?_ 5 _ rfl; (with_reducible repeat (first | refine blk_drewN ?_ _ | refine blk_drew ?_ | refine blk_alloc ?_ _)); refine blk_put (cs := #[.int .i64 x6_1, .int .i64 0, .int .i64 (rd t234 0), .int .i64 0, .string (⟨#[]⟩ : ByteArray), .slice none 0 0]) ?_ 4 _ rfl; (with_reducible repeat (first | refine blk_drewN ?_ _ | refine blk_drew ?_ | refine blk_alloc ?_ _)); refine blk_put (cs := #[.int .i64 x6_1, .int .i64 0, .int .i64 (rd t234 0), .int .i64 0, .string (⟨#[]⟩ : ByteArray), .slice none 0 0]) ?_ 3 _ rfl; (with_reducible repeat (first | refine blk_drewN ?_ _ | refine blk_drew ?_ | refine blk_alloc ?_ _)); refine blk_put (cs := #[.int .i64 x6_1, .int .i64 0, .int .i64 0, .int .i64 0, .string (⟨#[]⟩ : ByteArray), .slice none 0 0]) ?_ 2 _ rfl; (with_reducible repeat (first | refine blk_drewN ?_ _ | refine blk_drew ?_ | refine blk_alloc ?_ _)); refine blk_put (cs := #[.int .i64 x6_1, .int .i64 0, .int .i64 0, .int .i64 0, .string (⟨#[]⟩ : ByteArray), .slice none 0 0]) ?_ 1 _ rfl; (with_reducible repeat (first | refine blk_drewN ?_ _ | refine blk_drew ?_ | refine blk_alloc ?_ _)); refine blk_put (cs := #[.int .i64 0, .int .i64 0, .int .i64 0, .int .i64 0, .string (⟨#[]⟩ : ByteArray), .slice none 0 0]) ?_ 0 _ rfl; (with_reducible repeat (first | refine blk_drewN ?_ _ | refine blk_drew ?_ | refine blk_alloc ?_ _)); refine blk_far ?_ NB226_230.out _; (with_reducible repeat (first | refine blk_drewN ?_ _ | refine blk_drew ?_ | refine blk_alloc ?_ _)); exact BK226.out) Tryd.underlying43 rfl (by kernel_rfl)) rfl ?_
                exact ⟨_, qE, by first | exact Kd.R_nil _ _ _ _ _ | exact Kd.N_nil _ _ _ _ _ | exact Kd.V_nil _ _ _ _ _ | exact Kd.Q_nil _ _ _ _ _ | exact Kd.S_nil _ _ _ _ _, qB⟩
               ·rw [zD c56] at H
                exact absurd H (by simp)
              ·replace c55 := Bool.eq_false_iff.mpr c55
               subst c55
               have H1 : (if x6_1 = 13 then (if 0 < (t234.length : Int) then (if 1 < (t234.length : Int) then (if 2 < (t234.length : Int) then (some (x6_1, rd t234 2, rd t234 0, rd t234 1, t235, ([] : List Int), 0)) else (none)) else (none)) else (none)) else (if x6_1 = 11 then (if 0 < (t234.length : Int) then (if a1 = true then (if 1 < (t234.length : Int) then (some (x6_1, rd t234 0, rd t234 1, 0, t235, ([] : List Int), 0)) else (none)) else (if (t234.length : Int) > 1 then (if 1 ≤ (t234.length : Int) then ((some (t234.drop 1 : List Int)).bind fun y250 => (if ([] : List Int).length + y250.length < 17592186044416 then (some (x6_1, rd t234 0, 0, 0, t235, (([] : List Int) ++ y250), 0)) else (none))) else (none)) else (some (x6_1, rd t234 0, 0, 0, t235, ([] : List Int), 0)))) else (none)) else (if 0 < (t234.length : Int) then (if 1 < (t234.length : Int) then (some (x6_1, rd t234 0, rd t234 1, 0, t235, ([] : List Int), 0)) else (none)) else (none)))) = some (r1, r2, r3, r4, r5, r6, r7) := by rw [zD (show ¬ (false = true) by decide)] at H; exact H
               clear H
               have H := H1
               clear H1
               by_cases c61 : x6_1 = 13
               ·rw [zC c61] at H
                obtain ⟨c61b0, c61b1⟩ := qe c61; clear c61
                by_cases c62 : 0 < (t234.length : Int)
                ·rw [zC c62] at H
                 have c62b0 := zF c62
                 have c62b1 : decide (0 < t234.length) = true := zF (by omega)
                 clear c62
                 by_cases c63 : 1 < (t234.length : Int)
                 ·rw [zC c63] at H
                  have c63b0 := zF c63
                  have c63b1 : decide (1 < t234.length) = true := zF (by omega)
                  clear c63
                  by_cases c64 : 2 < (t234.length : Int)
                  ·rw [zC c64] at H
                   have c64b0 := zF c64
                   have c64b1 : decide (2 < t234.length) = true := zF (by omega)
                   clear c64
                   simp only [Option.some.injEq, Prod.mk.injEq] at H
                   obtain ⟨rfl, rfl, rfl, rfl, rfl, rfl, rfl⟩ := H
                   obtain ⟨Ao65, co65, eo65⟩ := Kd.R_slice HO_11.out
                   subst eo65
                   have p245 : 0 ≤ (0 : Int) := (by omega)
                   have q245 : 0 < (t234.length : Int) := zB qA
                   obtain ⟨ad245, e245, hx245_0⟩ := Kd.at_int (Kd.R_reads' HO_11.out).2.2 0 p245 q245
                   cases e245
                   have qi245 : (0 < t234.length) = True := eq_true (by omega)
                   (try rw [show ((0 : Int)).toNat = 0 from rfl] at hx245_0)
                   (try rw [Addr.add_zero'] at hx245_0)
                   replace p245 := eq_true p245
                   replace q245 := eq_true q245
                   have hnb66 := NB230_226.out
                   have hnc66 := NB226_230.out
                   have z67_0 := bk6 BK230.out
                   have p246 : 0 ≤ (1 : Int) := (by omega)
                   have q246 : 1 < (t234.length : Int) := zB qA
                   obtain ⟨ad246, e246, hx246_0⟩ := Kd.at_int (Kd.R_reads' HO_11.out).2.2 1 p246 q246
                   obtain rfl : ad245 = ad246 := (by injection e246)
                   (try simp only [show (1 : Int).toNat = 1 from rfl, Nat.reduceMul, Nat.reduceEqDiff, Go.Addr.add, ↓reduceIte] at hx246_0)
                   have qi246 : (1 < t234.length) = True := eq_true (by omega)
                   (try rw [show ((1 : Int)).toNat = 1 from rfl] at hx246_0)
                   have hn246_0 : ad245.block ≠ gb230 := Kd.own_blk (Kd.R_ne HO_11.out BK230.out (by decide))
                   replace hx246_0 := (cell_far (p := ⟨gb230, 2, none⟩) (by first | (rw [add_block]; exact hn246_0) | (show (Addr.add _ _).block ≠ _; rw [add_block]; exact hn246_0) | exact hn246_0) (.int .i64 (rd t234 0))).trans hx246_0
                   clear hn246_0
                   replace p246 := eq_true p246
                   replace q246 := eq_true q246
                   have p247 : 0 ≤ (2 : Int) := (by omega)
                   have q247 : 2 < (t234.length : Int) := zB qA
                   obtain ⟨ad247, e247, hx247_0⟩ := Kd.at_int (Kd.R_reads' HO_11.out).2.2 2 p247 q247
                   obtain rfl : ad245 = ad247 := (by injection e247)
                   (try simp only [show (2 : Int).toNat = 2 from rfl, Nat.reduceMul, Nat.reduceEqDiff, Go.Addr.add, ↓reduceIte] at hx247_0)
                   have qi247 : (2 < t234.length) = True := eq_true (by omega)
                   (try rw [show ((2 : Int)).toNat = 2 from rfl] at hx247_0)
                   have hn247_0 : ad245.block ≠ gb230 := Kd.own_blk (Kd.R_ne HO_11.out BK230.out (by decide))
                   have hn247_1 : ad245.block ≠ gb230 := Kd.own_blk (Kd.R_ne HO_11.out BK230.out (by decide))
                   replace hx247_0 := (cell_far (p := ⟨gb230, 2, none⟩) (by first | (rw [add_block]; exact hn247_0) | (show (Addr.add _ _).block ≠ _; rw [add_block]; exact hn247_0) | exact hn247_0) (.int .i64 (rd t234 0))).trans hx247_0
                   replace hx247_0 := (cell_far (p := ⟨gb230, 3, none⟩) (by first | (rw [add_block]; exact hn247_1) | (show (Addr.add _ _).block ≠ _; rw [add_block]; exact hn247_1) | exact hn247_1) (.int .i64 (rd t234 1))).trans hx247_0
                   clear hn247_0
                   clear hn247_1
                   replace p247 := eq_true p247
                   replace q247 := eq_true q247
                   have z68_0 := bk6 BK226.out
                   go_wp2
                   refine bodyPost_ret (results_ct rfl _ _ gb226 43 #[.int .i64 x6_1, .int .i64 (rd t234 2), .int .i64 (rd t234 0), .int .i64 (rd t234 1), .string t235, .slice none 0 0] (0, 0) _ rfl (by (with_reducible repeat (first | refine blk_drewN ?_ _ | refine blk_drew ?_ | refine blk_alloc ?_ _)); refine blk_put (cs := #[.int .i64 x6_1, .int .i64 (rd t234 2), .int .i64 (rd t234 0), .int .i64 (rd t234 1), .string t235, .slice none 0 0]) ?_ 5 _ rfl; (with_reducible repeat (first | refine blk_drewN ?_ _ | refine blk_drew ?_ | refine blk_alloc ?_ _)); refine blk_put (cs := #[.int .i64 x6_1, .int .i64 (rd t234 2), .int .i64 (rd t234 0), .int .i64 (rd t234 1), .string (⟨#[]⟩ : ByteArray), .slice none 0 0]) ?_ 4 _ rfl; (with_reducible repeat (first | refine blk_drewN ?_ _ | refine blk_drew ?_ | refine blk_alloc ?_ _)); refine blk_put (cs := #[.int .i64 x6_1, .int .i64 (rd t234 2), .int .i64 (rd t234 0), .int .i64 0, .string (⟨#[]⟩ : ByteArray), .slice none 0 0]) ?_ 3 _ rfl; (with_reducible repeat (first | refine blk_drewN ?_ _ | refine blk_drew ?_ | refine blk_alloc ?_ _)); refine blk_put (cs := #[.int .i64 x6_1, .int .i64 (rd t234 2), .int .i64 0, .int .i64 0, .string (⟨#[]⟩ : ByteArray), .slice none 0 0]) ?_ 2 _ rfl; (with_reducible repeat (first | refine blk_drewN ?_ _ | refine blk_drew ?_ | refine blk_alloc ?_ _)); refine blk_put (cs := #[.int .i64 x6_1, .int .i64 0, .int .i64 0, .int .i64 0, .string (⟨#[]⟩ : ByteArray), .slice none 0 0]) ?_ 1 _ rfl; (with_reducible repeat (first | refine blk_drewN ?_ _ | refine blk_drew ?_ | refine blk_alloc ?_ _)); refine blk_put (cs := #[.int .i64 0, .int .i64 0, .int .i64 0, .int .i64 0, .string (⟨#[]⟩ : ByteArray), .slice none 0 0]) ?_ 0 _ rfl; (with_reducible repeat (first | refine blk_drewN ?_ _ | refine blk_drew ?_ | refine blk_alloc ?_ _)); refine blk_far ?_ NB226_230.out _; (with_reducible repeat (first | refine blk_drewN ?_ _ | refine blk_drew ?_ | refine blk_alloc ?_ _)); refine blk_far ?_ NB226_230.out _; (with_reducible repeat (first | refine blk_drewN ?_ _ | refine blk_drew ?_ | refine blk_alloc ?_ _)); refine blk_far ?_ NB226_230.out _; (with_reducible repeat (first | refine blk_drewN ?_ _ | refine blk_drew ?_ | refine blk_alloc ?_ _)); exact BK226.out) Tryd.underlying43 rfl (by kernel_rfl)) rfl ?_
                   exact ⟨_, qE, by first | exact Kd.R_nil _ _ _ _ _ | exact Kd.N_nil _ _ _ _ _ | exact Kd.V_nil _ _ _ _ _ | exact Kd.Q_nil _ _ _ _ _ | exact Kd.S_nil _ _ _ _ _, qB⟩
                  ·rw [zD c64] at H
                   exact absurd H (by simp)
                 ·rw [zD c63] at H
                  exact absurd H (by simp)
                ·rw [zD c62] at H
                 exact absurd H (by simp)
               ·rw [zD c61] at H
                obtain ⟨c61b0, c61b1⟩ := qn c61
                by_cases c69 : x6_1 = 11
                ·rw [zC c69] at H
                 obtain ⟨c69b0, c69b1⟩ := qe c69; clear c69
                 by_cases c70 : 0 < (t234.length : Int)
                 ·rw [zC c70] at H
                  have c70b0 := zF c70
                  have c70b1 : decide (0 < t234.length) = true := zF (by omega)
                  clear c70
                  by_cases c71 : a1 = true
                  ·subst c71
                   have H1 : (if 1 < (t234.length : Int) then (some (x6_1, rd t234 0, rd t234 1, 0, t235, ([] : List Int), 0)) else (none)) = some (r1, r2, r3, r4, r5, r6, r7) := by rw [zC rfl] at H; exact H
                   clear H
                   have H := H1
                   clear H1
                   by_cases c72 : 1 < (t234.length : Int)
                   ·rw [zC c72] at H
                    have c72b0 := zF c72
                    have c72b1 : decide (1 < t234.length) = true := zF (by omega)
                    clear c72
                    simp only [Option.some.injEq, Prod.mk.injEq] at H
                    obtain ⟨rfl, rfl, rfl, rfl, rfl, rfl, rfl⟩ := H
                    obtain ⟨Ao73, co73, eo73⟩ := Kd.R_slice HO_11.out
                    subst eo73
                    have p248 : 0 ≤ (0 : Int) := (by omega)
                    have q248 : 0 < (t234.length : Int) := zB qA
                    obtain ⟨ad248, e248, hx248_0⟩ := Kd.at_int (Kd.R_reads' HO_11.out).2.2 0 p248 q248
                    cases e248
                    have qi248 : (0 < t234.length) = True := eq_true (by omega)
                    (try rw [show ((0 : Int)).toNat = 0 from rfl] at hx248_0)
                    (try rw [Addr.add_zero'] at hx248_0)
                    replace p248 := eq_true p248
                    replace q248 := eq_true q248
                    have hnb74 := NB230_226.out
                    have hnc74 := NB226_230.out
                    have z75_0 := bk6 BK230.out
                    have p249 : 0 ≤ (1 : Int) := (by omega)
                    have q249 : 1 < (t234.length : Int) := zB qA
                    obtain ⟨ad249, e249, hx249_0⟩ := Kd.at_int (Kd.R_reads' HO_11.out).2.2 1 p249 q249
                    obtain rfl : ad248 = ad249 := (by injection e249)
                    (try simp only [show (1 : Int).toNat = 1 from rfl, Nat.reduceMul, Nat.reduceEqDiff, Go.Addr.add, ↓reduceIte] at hx249_0)
                    have qi249 : (1 < t234.length) = True := eq_true (by omega)
                    (try rw [show ((1 : Int)).toNat = 1 from rfl] at hx249_0)
                    have hn249_0 : ad248.block ≠ gb230 := Kd.own_blk (Kd.R_ne HO_11.out BK230.out (by decide))
                    replace hx249_0 := (cell_far (p := ⟨gb230, 1, none⟩) (by first | (rw [add_block]; exact hn249_0) | (show (Addr.add _ _).block ≠ _; rw [add_block]; exact hn249_0) | exact hn249_0) (.int .i64 (rd t234 0))).trans hx249_0
                    clear hn249_0
                    replace p249 := eq_true p249
                    replace q249 := eq_true q249
                    have z76_0 := bk6 BK226.out
                    go_wp2
                    refine bodyPost_ret (results_ct rfl _ _ gb226 43 #[.int .i64 x6_1, .int .i64 (rd t234 0), .int .i64 (rd t234 1), .int .i64 0, .string t235, .slice none 0 0] (0, 0) _ rfl (by (with_reducible repeat (first | refine blk_drewN ?_ _ | refine blk_drew ?_ | refine blk_alloc ?_ _)); refine blk_put (cs := #[.int .i64 x6_1, .int .i64 (rd t234 0), .int .i64 (rd t234 1), .int .i64 0, .string t235, .slice none 0 0]) ?_ 5 _ rfl; (with_reducible repeat (first | refine blk_drewN ?_ _ | refine blk_drew ?_ | refine blk_alloc ?_ _)); refine blk_put (cs := #[.int .i64 x6_1, .int .i64 (rd t234 0), .int .i64 (rd t234 1), .int .i64 0, .string (⟨#[]⟩ : ByteArray), .slice none 0 0]) ?_ 4 _ rfl; (with_reducible repeat (first | refine blk_drewN ?_ _ | refine blk_drew ?_ | refine blk_alloc ?_ _)); refine blk_put (cs := #[.int .i64 x6_1, .int .i64 (rd t234 0), .int .i64 (rd t234 1), .int .i64 0, .string (⟨#[]⟩ : ByteArray), .slice none 0 0]) ?_ 3 _ rfl; (with_reducible repeat (first | refine blk_drewN ?_ _ | refine blk_drew ?_ | refine blk_alloc ?_ _)); refine blk_put (cs := #[.int .i64 x6_1, .int .i64 (rd t234 0), .int .i64 0, .int .i64 0, .string (⟨#[]⟩ : ByteArray), .slice none 0 0]) ?_ 2 _ rfl; (with_reducible repeat (first | refine blk_drewN ?_ _ | refine blk_drew ?_ | refine blk_alloc ?_ _)); refine blk_put (cs := #[.int .i64 x6_1, .int .i64 0, .int .i64 0, .int .i64 0, .string (⟨#[]⟩ : ByteArray), .slice none 0 0]) ?_ 1 _ rfl; (with_reducible repeat (first | refine blk_drewN ?_ _ | refine blk_drew ?_ | refine blk_alloc ?_ _)); refine blk_put (cs := #[.int .i64 0, .int .i64 0, .int .i64 0, .int .i64 0, .string (⟨#[]⟩ : ByteArray), .slice none 0 0]) ?_ 0 _ rfl; (with_reducible repeat (first | refine blk_drewN ?_ _ | refine blk_drew ?_ | refine blk_alloc ?_ _)); refine blk_far ?_ NB226_230.out _; (with_reducible repeat (first | refine blk_drewN ?_ _ | refine blk_drew ?_ | refine blk_alloc ?_ _)); refine blk_far ?_ NB226_230.out _; (with_reducible repeat (first | refine blk_drewN ?_ _ | refine blk_drew ?_ | refine blk_alloc ?_ _)); exact BK226.out) Tryd.underlying43 rfl (by kernel_rfl)) rfl ?_
                    exact ⟨_, qE, by first | exact Kd.R_nil _ _ _ _ _ | exact Kd.N_nil _ _ _ _ _ | exact Kd.V_nil _ _ _ _ _ | exact Kd.Q_nil _ _ _ _ _ | exact Kd.S_nil _ _ _ _ _, qB⟩
                   ·rw [zD c72] at H
                    exact absurd H (by simp)
                  ·replace c71 := Bool.eq_false_iff.mpr c71
                   subst c71
                   have H1 : (if (t234.length : Int) > 1 then (if 1 ≤ (t234.length : Int) then ((some (t234.drop 1 : List Int)).bind fun y250 => (if ([] : List Int).length + y250.length < 17592186044416 then (some (x6_1, rd t234 0, 0, 0, t235, (([] : List Int) ++ y250), 0)) else (none))) else (none)) else (some (x6_1, rd t234 0, 0, 0, t235, ([] : List Int), 0))) = some (r1, r2, r3, r4, r5, r6, r7) := by rw [zD (show ¬ (false = true) by decide)] at H; exact H
                   clear H
                   have H := H1
                   clear H1
                   by_cases c77 : (t234.length : Int) > 1
                   ·rw [zC c77] at H
                    have c77b0 : decide (1 < (t234.length : Int)) = true := zF c77
                    have c77b1 : decide (1 < t234.length) = true := zF (by omega)
                    clear c77
                    by_cases c78 : 1 ≤ (t234.length : Int)
                    ·rw [zC c78] at H
                     have c78b0 := eq_true c78
                     have c78b1 := zF c78
                     clear c78
                     obtain ⟨y250, hy250⟩ : ∃ y_ : List Int, y_ = (t234.drop 1) := ⟨_, rfl⟩
                     replace H : (if ([] : List Int).length + y250.length < 17592186044416 then (some (x6_1, rd t234 0, 0, 0, t235, (([] : List Int) ++ y250), 0)) else (none)) = some (r1, r2, r3, r4, r5, r6, r7) := by (try rw [hy250]); first | with_reducible exact H | exact (zJ _ _).symm.trans H | exact H
                     have Ny250 := zA hy250
                     clear hy250
                     by_cases c79 : ([] : List Int).length + y250.length < 17592186044416
                     ·rw [zC c79] at H
                      have LMc79 := zA c79
                      clear c79
                      obtain ⟨y254, hy254⟩ : ∃ y_ : List Int, y_ = (([] : List Int) ++ y250) := ⟨_, rfl⟩
                      replace H : (some (x6_1, rd t234 0, 0, 0, t235, y254, 0)) = some (r1, r2, r3, r4, r5, r6, r7) := by (try rw [hy254]); first | with_reducible exact H | exact (zJ _ _).symm.trans H | exact H
                      have Ny254 := zA hy254
                      clear hy254
                      simp only [Option.some.injEq, Prod.mk.injEq] at H
                      obtain ⟨rfl, rfl, rfl, rfl, rfl, rfl, rfl⟩ := H
                      obtain ⟨Ao80, co80, eo80⟩ := Kd.R_slice HO_11.out
                      subst eo80
                      have p248 : 0 ≤ (0 : Int) := (by omega)
                      have q248 : 0 < (t234.length : Int) := zB qA
                      obtain ⟨ad248, e248, hx248_0⟩ := Kd.at_int (Kd.R_reads' HO_11.out).2.2 0 p248 q248
                      cases e248
                      have qi248 : (0 < t234.length) = True := eq_true (by omega)
                      (try rw [show ((0 : Int)).toNat = 0 from rfl] at hx248_0)
                      (try rw [Addr.add_zero'] at hx248_0)
                      replace p248 := eq_true p248
                      replace q248 := eq_true q248
                      have hnb81 := NB230_226.out
                      have hnc81 := NB226_230.out
                      have z82_0 := bk6 BK230.out
                      try go_wp2
                      have n0_ : Aside0 (Kd.R (Kd.int .i64) 3 (wc.setCell ⟨gb230, 1, none⟩ (.int .i64 (rd t234 0))) w.heap.size (fun _ => True) (.slice (some ad248) t234.length co80) t234) := ⟨by (with_reducible repeat (first | apply Kd.R_alloc | apply Kd.R_drewN | apply Kd.R_drew)); exact Kd.R_mono (Kd.R_far (p := ⟨gb230, 1, none⟩) (Kd.R_types HO_11.out BK230.out (by decide)) (fun _ hk => hk.2) (.int .i64 (rd t234 0))) (fun _ hk => trivial)⟩
                      have n1_ : Aside0 ((wc.setCell ⟨gb230, 1, none⟩ (.int .i64 (rd t234 0))).heap[gb226]? = some (.cells #[.int .i64 0, .int .i64 0, .int .i64 0, .int .i64 0, .string (⟨#[]⟩ : ByteArray), .slice none 0 0] 43 (0, 0))) := ⟨by (with_reducible repeat (first | refine blk_drewN ?_ _ | refine blk_drew ?_ | refine blk_alloc ?_ _)); refine blk_far ?_ NB226_230.out _; (with_reducible repeat (first | refine blk_drewN ?_ _ | refine blk_drew ?_ | refine blk_alloc ?_ _)); exact BK226.out⟩
                      have n2_ : Aside0 ((wc.setCell ⟨gb230, 1, none⟩ (.int .i64 (rd t234 0))).heap[gb230]? = some (.cells #[.int .i64 x6_1, .int .i64 (rd t234 0), .int .i64 0, .int .i64 0, .string t235, .slice none 0 0] 43 (0, 0))) := ⟨by (with_reducible repeat (first | refine blk_drewN ?_ _ | refine blk_drew ?_ | refine blk_alloc ?_ _)); refine blk_put (cs := #[.int .i64 x6_1, .int .i64 0, .int .i64 0, .int .i64 0, .string t235, .slice none 0 0]) ?_ 1 _ rfl; (with_reducible repeat (first | refine blk_drewN ?_ _ | refine blk_drew ?_ | refine blk_alloc ?_ _)); exact BK230.out⟩
                      have n3_ : Aside0 (Below w.heap.size w (wc.setCell ⟨gb230, 1, none⟩ (.int .i64 (rd t234 0)))) := ⟨qB⟩
                      (try clear HO_11)
                      (try clear BK226)
                      (try clear BK230)
                      (try clear HB)
                      generalize (wc.setCell ⟨gb230, 1, none⟩ (.int .i64 (rd t234 0))) = w83 at n0_ n1_ n2_ n3_ ⊢
                      have HO_11 := n0_
                      have BK226 := n1_
                      have BK230 := n2_
                      have HB := n3_
                      clear n0_ n1_ n2_ n3_
                      have n0_ := zA (Kd.R_drew HO_11.out)
                      have n1_ := zA (blk_drew BK226.out)
                      have n2_ := zA (blk_drew BK230.out)
                      have n3_ := zA (below_drew1 HB.out)
                      clear HO_11
                      clear BK226
                      clear BK230
                      clear HB
                      have HO_11 := n0_
                      have BK226 := n1_
                      have BK230 := n2_
                      have HB := n3_
                      clear n0_ n1_ n2_ n3_
                      have q85 : (1 : Int) ≤ ((t234.length : Int) : Int) := zB qA
                      obtain ⟨i085, hi085, _, hsz85, _⟩ := info_parts info3
                      have hroom85 : t234.length ≤ co80 := (Kd.R_reads' HO_11.out).2.1
                      have hC85 : Kd.C (Kd.int .i64) _ (some ad248) t234.length t234 := (Kd.R_reads' HO_11.out).2.2
                      have hcut85 := cut_from (P := Tryd.prog) 41 3 .i64 Tryd.underlying41 hi085 1 hsz85 (some ad248) t234.length co80 1 (by omega) q85
                      have hr85 := Kd.C_drop (m := (1 : Int).toNat) (c := co80) hC85 (by omega) hroom85
                      obtain ⟨A85, hA85⟩ : ∃ A1, A1 = (if co80 = (1 : Int).toNat then (some ad248) else ((some ad248) : Option Addr).map (·.add ((1 : Int).toNat * 1))) := ⟨_, rfl⟩
                      obtain ⟨c85, hc85⟩ : ∃ c1, c1 = co80 - (1 : Int).toNat := ⟨_, rfl⟩
                      have hy85 : y250.length = t234.length - (1 : Int).toNat := (by rw [Ny250.out, List.length_drop] <;> omega)
                      rw [show (t234).drop (1 : Int).toNat = y250 from Ny250.out.symm] at hr85
                      replace hr85 : Kd.C (Kd.int .i64) _ A85 y250.length y250 := (by rw [hA85]; exact hr85)
                      rw [← hy85, ← hA85, ← hc85] at hcut85
                      have HR253 := zA hr85
                      have HC253 := zA (show y250.length ≤ c85 from by rw [hy85, hc85]; exact Nat.sub_le_sub_right hroom85 _)
                      clear hr85 hC85 hroom85 hi085 hsz85 hc85
                      have KY85 := zA hy85
                      have KA85 := zA hA85
                      clear hy85 hA85
                      have KL85 := zA (show 1 ≤ t234.length from by omega)
                      replace q85 := eq_true q85
                      refine start_ (n := 7) (S := fun w' => w'.cell? ⟨gb230, 0, none⟩ = some (.int .i64 x6_1) ∧ w'.cell? ⟨gb230, 1, none⟩ = some (.int .i64 (rd t234 0)) ∧ w'.cell? ⟨gb230, 2, none⟩ = some (.int .i64 0) ∧ w'.cell? ⟨gb230, 3, none⟩ = some (.int .i64 0) ∧ w'.cell? ⟨gb230, 4, none⟩ = some (.string t235) ∧ w'.cell? ⟨gb230, 5, none⟩ = some (.slice none 0 0)) (ds := [6]) (bA 7 0) (by kernel_rfl) rfl rfl ⟨(blk_cell BK230.out 0).trans rfl, (blk_cell BK230.out 1).trans rfl, (blk_cell BK230.out 2).trans rfl, (blk_cell BK230.out 3).trans rfl, (blk_cell BK230.out 4).trans rfl, (blk_cell BK230.out 5).trans rfl⟩ (fun hHeld => ?_)
                      generalize w83.drew = w84 at HO_11 BK226 BK230 HB HR253 hHeld ⊢
                      refine pure_ (i := 0) (N := some 138) (v := ?_) (a' := ?_) (bA 7 1) rfl rfl (by kernel_rfl) (fun _ _ _ h => h) (Or.inl ⟨by rfl, ?_⟩) ?_ ?_
                      rotate_left
                      ·intro w'
                       go_simp
                       with_reducible rfl
                      rotate_left
                      ·simp only [Act.put, List.setIfInBounds_toArray, List.set_cons_zero, List.set_cons_succ, i64_w, i32_w]
                       rfl
                      refine pure_ (i := 2) (N := some 140) (v := ?_) (a' := ?_) (bA 7 5) rfl rfl (by kernel_rfl) (fun _ _ _ h => h) (Or.inl ⟨by rfl, ?_⟩) ?_ ?_
                      rotate_left
                      ·intro w'
                       go_simp
                       with_reducible rfl
                      rotate_left
                      ·simp only [Act.put, List.setIfInBounds_toArray, List.set_cons_zero, List.set_cons_succ, i64_w, i32_w]
                       rfl
                      refine pure_ (i := 3) (N := some 141) (v := ?_) (a' := ?_) (bA 7 13) rfl rfl (by kernel_rfl) (fun _ _ _ h => h) (Or.inl ⟨by rfl, ?_⟩) ?_ ?_
                      rotate_left
                      ·intro w'
                       go_simp
                       with_reducible rfl
                      rotate_left
                      ·simp only [Act.put, List.setIfInBounds_toArray, List.set_cons_zero, List.set_cons_succ, i64_w, i32_w]
                       rfl
                      refine take_ (i := 1) (N := some 139) (v := ?_) (a' := ?_) (bA 7 15) rfl rfl (by kernel_rfl) (fun _ _ _ h => h) (Or.inl ⟨by rfl, ?_⟩) hHeld ?_ ?_
                      rotate_left
                      ·rintro w' ⟨s0, s1, s2, s3, s4, s5⟩
                       go_simp
                       with_reducible rfl
                      rotate_left
                      ·simp only [Act.put, List.setIfInBounds_toArray, List.set_cons_zero, List.set_cons_succ, i64_w, i32_w]
                       rfl
                      refine one_ (i := 4) (N := some 142) (bA 7 31) rfl rfl (by kernel_rfl) (by decide) (fun K hK => ?_)
                      refine Kd.R_append_rows_step (Kd.int .i64) (w0 := w) w.heap.size (by rfl) (.tmp 139) (.tmp 141) 41 3 (.int .i64 0) 8 rfl Tryd.underlying41 info3 rfl (by decide) (by omega) (.slice none 0 0) ([] : List Int) y250 _ _ _ (fun k_ => some k_ ≠ (.slice (some ad248) t234.length co80 : Value).ownBlock) (fun _ => False) rfl rfl ?aO ?aR (fun _ _ h => h) (fun _ h => h.elim) ?aF ?aB ?aS ?aL ?_
                      (case aR => repeat (first | exact (by repeat (first | (with_reducible exact HR253.out) | (with_reducible refine Kd.C_alloc ?_ _) | (with_reducible refine Kd.C_drewN ?_ _) | (with_reducible refine Kd.C_drew ?_) | exact HR253.out)) | (with_reducible refine Kd.C_alloc ?_ _) | (with_reducible refine Kd.C_drewN ?_ _) | (with_reducible refine Kd.C_drew ?_)))
                      (case aB => exact qB)
                      (case aF => exact (fun k_ hk => Kd.fresh' (Kd.R_lt (qR HO_11.out)) k_ hk))
                      (case aO => exact ((Kd.R_nil _ _ _ _ (fun k_ => some k_ ≠ (.slice (some ad248) t234.length co80 : Value).ownBlock))))
                      (case aS => exact (below_size qB))
                      (case aL => have := LMc79.out; omega)
                      intro v255 w86 ho hb hg hat
                      rw [← Ny254.out] at ho
                      have n0_ := zA (Kd.R_after (Kd.R_apart_nil (qR HO_11.out)) hg hat)
                      have n1_ := zA (blk_grown (qK BK226.out) hg (by simp [Value.ownBlock]))
                      have n2_ := zA (blk_grown (qK BK230.out) hg (by simp [Value.ownBlock]))
                      have n3_ := zA (hb)
                      have n4_ := zA ((show Kd.C (Kd.int .i64) w86 A85 y250.length y250 from by rw [Ny250.out, KA85.out]; exact Kd.C_drop (m := 1) (c := co80) ((Kd.R_reads' (Kd.R_after (Kd.R_apart_nil (qR HO_11.out)) hg hat)).2.2) KL85.out ((Kd.R_reads' (Kd.R_after (Kd.R_apart_nil (qR HO_11.out)) hg hat)).2.1)))
                      have n5_ := zA (ho)
                      clear HO_11
                      clear BK226
                      clear BK230
                      clear HB
                      clear HR253
                      have HO_11 := n0_
                      have BK226 := n1_
                      have BK230 := n2_
                      have HB := n3_
                      have HR253 := n4_
                      have HO256 := n5_
                      clear n0_ n1_ n2_ n3_ n4_ n5_
                      clear ho hb hg hat
                      obtain ⟨Ao87, co87, eo87⟩ := Kd.R_slice HO256.out
                      (first | subst eo87 | (injection eo87 with f1_ f2_ f3_; have f4_ := f1_.symm; have f5_ := f3_.symm; clear f1_ f2_ f3_; subst f4_; subst f5_))
                      refine hK.out _ _ ⟨(blk_cell BK230.out 0).trans rfl, (blk_cell BK230.out 1).trans rfl, (blk_cell BK230.out 2).trans rfl, (blk_cell BK230.out 3).trans rfl, (blk_cell BK230.out 4).trans rfl, (blk_cell BK230.out 5).trans rfl⟩ (fun hHeld => ?_)
                      clear hK K
                      refine norm_ (a' := ?_) ?_ ?_
                      rotate_left
                      ·show Act.put _ (some 142) _ = _
                       simp only [Act.put, List.setIfInBounds_toArray, List.set_cons_zero, List.set_cons_succ, i64_w, i32_w]
                       rfl
                      refine pure_ (i := 5) (N := some 143) (v := ?_) (a' := ?_) (bA 7 63) rfl rfl (by kernel_rfl) (fun _ _ _ h => h) (Or.inl ⟨by rfl, ?_⟩) ?_ ?_
                      rotate_left
                      ·intro w'
                       go_simp
                       with_reducible rfl
                      rotate_left
                      ·simp only [Act.put, List.setIfInBounds_toArray, List.set_cons_zero, List.set_cons_succ, i64_w, i32_w]
                       rfl
                      refine last_ (i := 6) (N := none) (bA 7 127) rfl rfl (by kernel_rfl) (by decide) (fun K hK => ?_)
                      have hs88 : w86.cell? ⟨gb230, 5, none⟩ = some (.slice none 0 0) := (blk_cell BK230.out 5).trans rfl
                      have hfs88 := blk_frozen BK230.out 5
                      have hns88_0 := NB226_230.out
                      have hms88_0 := NB230_226.out
                      refine skip_ (w1 := ?_) (by rfl) rfl ?_ ?_
                      rotate_left
                      ·go_simp
                       rfl
                      refine hK.out _ _ ?_
                      clear hK K
                      refine done_ (by kernel_rfl) ?_
                      have z89_0 := bk6 BK230.out
                      have z90_0 := bk6 BK226.out
                      try go_wp2
                      refine bodyPost_ret (results_ct rfl _ _ gb226 43 #[.int .i64 x6_1, .int .i64 (rd t234 0), .int .i64 0, .int .i64 0, .string t235, .slice Ao87 y254.length co87] (0, 0) _ rfl (by (with_reducible repeat (first | refine blk_drewN ?_ _ | refine blk_drew ?_ | refine blk_alloc ?_ _)); refine blk_put (cs := #[.int .i64 x6_1, .int .i64 (rd t234 0), .int .i64 0, .int .i64 0, .string t235, .slice none 0 0]) ?_ 5 _ rfl; (with_reducible repeat (first | refine blk_drewN ?_ _ | refine blk_drew ?_ | refine blk_alloc ?_ _)); refine blk_put (cs := #[.int .i64 x6_1, .int .i64 (rd t234 0), .int .i64 0, .int .i64 0, .string (⟨#[]⟩ : ByteArray), .slice none 0 0]) ?_ 4 _ rfl; (with_reducible repeat (first | refine blk_drewN ?_ _ | refine blk_drew ?_ | refine blk_alloc ?_ _)); refine blk_put (cs := #[.int .i64 x6_1, .int .i64 (rd t234 0), .int .i64 0, .int .i64 0, .string (⟨#[]⟩ : ByteArray), .slice none 0 0]) ?_ 3 _ rfl; (with_reducible repeat (first | refine blk_drewN ?_ _ | refine blk_drew ?_ | refine blk_alloc ?_ _)); refine blk_put (cs := #[.int .i64 x6_1, .int .i64 (rd t234 0), .int .i64 0, .int .i64 0, .string (⟨#[]⟩ : ByteArray), .slice none 0 0]) ?_ 2 _ rfl; (with_reducible repeat (first | refine blk_drewN ?_ _ | refine blk_drew ?_ | refine blk_alloc ?_ _)); refine blk_put (cs := #[.int .i64 x6_1, .int .i64 0, .int .i64 0, .int .i64 0, .string (⟨#[]⟩ : ByteArray), .slice none 0 0]) ?_ 1 _ rfl; (with_reducible repeat (first | refine blk_drewN ?_ _ | refine blk_drew ?_ | refine blk_alloc ?_ _)); refine blk_put (cs := #[.int .i64 0, .int .i64 0, .int .i64 0, .int .i64 0, .string (⟨#[]⟩ : ByteArray), .slice none 0 0]) ?_ 0 _ rfl; (with_reducible repeat (first | refine blk_drewN ?_ _ | refine blk_drew ?_ | refine blk_alloc ?_ _)); refine blk_far ?_ NB226_230.out _; (with_reducible repeat (first | refine blk_drewN ?_ _ | refine blk_drew ?_ | refine blk_alloc ?_ _)); exact BK226.out) Tryd.underlying43 rfl (by kernel_rfl)) rfl ?_
                      exact ⟨_, qE, by (with_reducible repeat (first | apply Kd.R_alloc | apply Kd.R_drewN | apply Kd.R_drew)); exact Kd.R_mono (Kd.R_far (p := ⟨gb226, 5, none⟩) (Kd.R_far (p := ⟨gb226, 4, none⟩) (Kd.R_far (p := ⟨gb226, 3, none⟩) (Kd.R_far (p := ⟨gb226, 2, none⟩) (Kd.R_far (p := ⟨gb226, 1, none⟩) (Kd.R_far (p := ⟨gb226, 0, none⟩) (Kd.R_far (p := ⟨gb230, 5, none⟩) (Kd.R_types (Kd.R_types HO256.out BK230.out (by decide)) BK226.out (by decide)) (fun _ hk => hk.1.2) (.slice Ao87 y254.length co87)) (fun _ hk => hk.2) (.int .i64 x6_1)) (fun _ hk => hk.2) (.int .i64 (rd t234 0))) (fun _ hk => hk.2) (.int .i64 0)) (fun _ hk => hk.2) (.int .i64 0)) (fun _ hk => hk.2) (.string t235)) (fun _ hk => hk.2) (.slice Ao87 y254.length co87)) (fun _ hk => trivial), qB⟩
                     ·rw [zD c79] at H
                      exact absurd H (by simp)
                    ·rw [zD c78] at H
                     exact absurd H (by simp)
                   ·rw [zD c77] at H
                    have c77b0 : decide (1 < (t234.length : Int)) = false := zG c77
                    have c77b1 : decide (1 < t234.length) = false := zG (by omega)
                    clear c77
                    simp only [Option.some.injEq, Prod.mk.injEq] at H
                    obtain ⟨rfl, rfl, rfl, rfl, rfl, rfl, rfl⟩ := H
                    obtain ⟨Ao91, co91, eo91⟩ := Kd.R_slice HO_11.out
                    subst eo91
                    have p248 : 0 ≤ (0 : Int) := (by omega)
                    have q248 : 0 < (t234.length : Int) := zB qA
                    obtain ⟨ad248, e248, hx248_0⟩ := Kd.at_int (Kd.R_reads' HO_11.out).2.2 0 p248 q248
                    cases e248
                    have qi248 : (0 < t234.length) = True := eq_true (by omega)
                    (try rw [show ((0 : Int)).toNat = 0 from rfl] at hx248_0)
                    (try rw [Addr.add_zero'] at hx248_0)
                    replace p248 := eq_true p248
                    replace q248 := eq_true q248
                    have hnb92 := NB230_226.out
                    have hnc92 := NB226_230.out
                    have z93_0 := bk6 BK230.out
                    have z94_0 := bk6 BK226.out
                    go_wp2
                    refine bodyPost_ret (results_ct rfl _ _ gb226 43 #[.int .i64 x6_1, .int .i64 (rd t234 0), .int .i64 0, .int .i64 0, .string t235, .slice none 0 0] (0, 0) _ rfl (by (with_reducible repeat (first | refine blk_drewN ?_ _ | refine blk_drew ?_ | refine blk_alloc ?_ _)); refine blk_put (cs := #[.int .i64 x6_1, .int .i64 (rd t234 0), .int .i64 0, .int .i64 0, .string t235, .slice none 0 0]) ?_ 5 _ rfl; (with_reducible repeat (first | refine blk_drewN ?_ _ | refine blk_drew ?_ | refine blk_alloc ?_ _)); refine blk_put (cs := #[.int .i64 x6_1, .int .i64 (rd t234 0), .int .i64 0, .int .i64 0, .string (⟨#[]⟩ : ByteArray), .slice none 0 0]) ?_ 4 _ rfl; (with_reducible repeat (first | refine blk_drewN ?_ _ | refine blk_drew ?_ | refine blk_alloc ?_ _)); refine blk_put (cs := #[.int .i64 x6_1, .int .i64 (rd t234 0), .int .i64 0, .int .i64 0, .string (⟨#[]⟩ : ByteArray), .slice none 0 0]) ?_ 3 _ rfl; (with_reducible repeat (first | refine blk_drewN ?_ _ | refine blk_drew ?_ | refine blk_alloc ?_ _)); refine blk_put (cs := #[.int .i64 x6_1, .int .i64 (rd t234 0), .int .i64 0, .int .i64 0, .string (⟨#[]⟩ : ByteArray), .slice none 0 0]) ?_ 2 _ rfl; (with_reducible repeat (first | refine blk_drewN ?_ _ | refine blk_drew ?_ | refine blk_alloc ?_ _)); refine blk_put (cs := #[.int .i64 x6_1, .int .i64 0, .int .i64 0, .int .i64 0, .string (⟨#[]⟩ : ByteArray), .slice none 0 0]) ?_ 1 _ rfl; (with_reducible repeat (first | refine blk_drewN ?_ _ | refine blk_drew ?_ | refine blk_alloc ?_ _)); refine blk_put (cs := #[.int .i64 0, .int .i64 0, .int .i64 0, .int .i64 0, .string (⟨#[]⟩ : ByteArray), .slice none 0 0]) ?_ 0 _ rfl; (with_reducible repeat (first | refine blk_drewN ?_ _ | refine blk_drew ?_ | refine blk_alloc ?_ _)); refine blk_far ?_ NB226_230.out _; (with_reducible repeat (first | refine blk_drewN ?_ _ | refine blk_drew ?_ | refine blk_alloc ?_ _)); exact BK226.out) Tryd.underlying43 rfl (by kernel_rfl)) rfl ?_
                    exact ⟨_, qE, by first | exact Kd.R_nil _ _ _ _ _ | exact Kd.N_nil _ _ _ _ _ | exact Kd.V_nil _ _ _ _ _ | exact Kd.Q_nil _ _ _ _ _ | exact Kd.S_nil _ _ _ _ _, qB⟩
                 ·rw [zD c70] at H
                  exact absurd H (by simp)
                ·rw [zD c69] at H
                 obtain ⟨c69b0, c69b1⟩ := qn c69
                 by_cases c95 : 0 < (t234.length : Int)
                 ·rw [zC c95] at H
                  have c95b0 := zF c95
                  have c95b1 : decide (0 < t234.length) = true := zF (by omega)
                  clear c95
                  by_cases c96 : 1 < (t234.length : Int)
                  ·rw [zC c96] at H
                   have c96b0 := zF c96
                   have c96b1 : decide (1 < t234.length) = true := zF (by omega)
                   clear c96
                   simp only [Option.some.injEq, Prod.mk.injEq] at H
                   obtain ⟨rfl, rfl, rfl, rfl, rfl, rfl, rfl⟩ := H
                   obtain ⟨Ao97, co97, eo97⟩ := Kd.R_slice HO_11.out
                   subst eo97
                   have p257 : 0 ≤ (0 : Int) := (by omega)
                   have q257 : 0 < (t234.length : Int) := zB qA
                   obtain ⟨ad257, e257, hx257_0⟩ := Kd.at_int (Kd.R_reads' HO_11.out).2.2 0 p257 q257
                   cases e257
                   have qi257 : (0 < t234.length) = True := eq_true (by omega)
                   (try rw [show ((0 : Int)).toNat = 0 from rfl] at hx257_0)
                   (try rw [Addr.add_zero'] at hx257_0)
                   replace p257 := eq_true p257
                   replace q257 := eq_true q257
                   have hnb98 := NB230_226.out
                   have hnc98 := NB226_230.out
                   have z99_0 := bk6 BK230.out
                   have p258 : 0 ≤ (1 : Int) := (by omega)
                   have q258 : 1 < (t234.length : Int) := zB qA
                   obtain ⟨ad258, e258, hx258_0⟩ := Kd.at_int (Kd.R_reads' HO_11.out).2.2 1 p258 q258
                   obtain rfl : ad257 = ad258 := (by injection e258)
                   (try simp only [show (1 : Int).toNat = 1 from rfl, Nat.reduceMul, Nat.reduceEqDiff, Go.Addr.add, ↓reduceIte] at hx258_0)
                   have qi258 : (1 < t234.length) = True := eq_true (by omega)
                   (try rw [show ((1 : Int)).toNat = 1 from rfl] at hx258_0)
                   have hn258_0 : ad257.block ≠ gb230 := Kd.own_blk (Kd.R_ne HO_11.out BK230.out (by decide))
                   replace hx258_0 := (cell_far (p := ⟨gb230, 1, none⟩) (by first | (rw [add_block]; exact hn258_0) | (show (Addr.add _ _).block ≠ _; rw [add_block]; exact hn258_0) | exact hn258_0) (.int .i64 (rd t234 0))).trans hx258_0
                   clear hn258_0
                   replace p258 := eq_true p258
                   replace q258 := eq_true q258
                   have z100_0 := bk6 BK226.out
                   go_wp2
                   refine bodyPost_ret (results_ct rfl _ _ gb226 43 #[.int .i64 x6_1, .int .i64 (rd t234 0), .int .i64 (rd t234 1), .int .i64 0, .string t235, .slice none 0 0] (0, 0) _ rfl (by (with_reducible repeat (first | refine blk_drewN ?_ _ | refine blk_drew ?_ | refine blk_alloc ?_ _)); refine blk_put (cs := #[.int .i64 x6_1, .int .i64 (rd t234 0), .int .i64 (rd t234 1), .int .i64 0, .string t235, .slice none 0 0]) ?_ 5 _ rfl; (with_reducible repeat (first | refine blk_drewN ?_ _ | refine blk_drew ?_ | refine blk_alloc ?_ _)); refine blk_put (cs := #[.int .i64 x6_1, .int .i64 (rd t234 0), .int .i64 (rd t234 1), .int .i64 0, .string (⟨#[]⟩ : ByteArray), .slice none 0 0]) ?_ 4 _ rfl; (with_reducible repeat (first | refine blk_drewN ?_ _ | refine blk_drew ?_ | refine blk_alloc ?_ _)); refine blk_put (cs := #[.int .i64 x6_1, .int .i64 (rd t234 0), .int .i64 (rd t234 1), .int .i64 0, .string (⟨#[]⟩ : ByteArray), .slice none 0 0]) ?_ 3 _ rfl; (with_reducible repeat (first | refine blk_drewN ?_ _ | refine blk_drew ?_ | refine blk_alloc ?_ _)); refine blk_put (cs := #[.int .i64 x6_1, .int .i64 (rd t234 0), .int .i64 0, .int .i64 0, .string (⟨#[]⟩ : ByteArray), .slice none 0 0]) ?_ 2 _ rfl; (with_reducible repeat (first | refine blk_drewN ?_ _ | refine blk_drew ?_ | refine blk_alloc ?_ _)); refine blk_put (cs := #[.int .i64 x6_1, .int .i64 0, .int .i64 0, .int .i64 0, .string (⟨#[]⟩ : ByteArray), .slice none 0 0]) ?_ 1 _ rfl; (with_reducible repeat (first | refine blk_drewN ?_ _ | refine blk_drew ?_ | refine blk_alloc ?_ _)); refine blk_put (cs := #[.int .i64 0, .int .i64 0, .int .i64 0, .int .i64 0, .string (⟨#[]⟩ : ByteArray), .slice none 0 0]) ?_ 0 _ rfl; (with_reducible repeat (first | refine blk_drewN ?_ _ | refine blk_drew ?_ | refine blk_alloc ?_ _)); refine blk_far ?_ NB226_230.out _; (with_reducible repeat (first | refine blk_drewN ?_ _ | refine blk_drew ?_ | refine blk_alloc ?_ _)); refine blk_far ?_ NB226_230.out _; (with_reducible repeat (first | refine blk_drewN ?_ _ | refine blk_drew ?_ | refine blk_alloc ?_ _)); exact BK226.out) Tryd.underlying43 rfl (by kernel_rfl)) rfl ?_
                   exact ⟨_, qE, by first | exact Kd.R_nil _ _ _ _ _ | exact Kd.N_nil _ _ _ _ _ | exact Kd.V_nil _ _ _ _ _ | exact Kd.Q_nil _ _ _ _ _ | exact Kd.S_nil _ _ _ _ _, qB⟩
                  ·rw [zD c96] at H
                   exact absurd H (by simp)
                 ·rw [zD c95] at H
                  exact absurd H (by simp)
       ·rw [zD c28] at H
        obtain ⟨c28b0, c28b1⟩ := qn c28
        simp only [Option.some.injEq, Prod.mk.injEq] at H
        obtain ⟨rfl, rfl, rfl, rfl, rfl, rfl, rfl⟩ := H
        go_wp2_with (first | ((with_reducible refine gate_callee (f := 44) rfl ?_); refine goesL_ (some 55) rfl rfl Tryd.func44 (by kernel_rfl) rfl #[.slice A0 l0.length c0, .int .i64 x9_17, .int .i64 x10_17] rfl qL ?_; (with_reducible refine (cubbyref08_read.calls kj17 _ _ l0 x9_17 x10_17 t234 t235 t236 _ ?side1 ?side2 A27.out).mono ?_); (case side1 => exact qCB HR0.out); (case side2 => exact HC0.out); rintro e w101 ⟨v237, rfl, ho0, hb⟩; refine ⟨_, rfl, ?_⟩; have HO238 := zA (Kd.R_lower ho0 (below_size qB)); replace BK226 := qW BK226 hb; replace BK230 := qW BK230 hb; replace HB := qH hb; (try clear hb); (try clear ho0); have hnb102 := NB226_230.out; have hnc102 := NB230_226.out; have z103_0 := bk6 BK226.out))
        refine bodyPost_ret (results_ct rfl _ _ gb226 43 #[.int .i64 0, .int .i64 0, .int .i64 0, .int .i64 0, .string (⟨#[]⟩ : ByteArray), .slice none 0 0] (0, 0) _ rfl (by (with_reducible repeat (first | refine blk_drewN ?_ _ | refine blk_drew ?_ | refine blk_alloc ?_ _)); refine blk_put (cs := #[.int .i64 0, .int .i64 0, .int .i64 0, .int .i64 0, .string (⟨#[]⟩ : ByteArray), .slice none 0 0]) ?_ 5 _ rfl; (with_reducible repeat (first | refine blk_drewN ?_ _ | refine blk_drew ?_ | refine blk_alloc ?_ _)); refine blk_put (cs := #[.int .i64 0, .int .i64 0, .int .i64 0, .int .i64 0, .string (⟨#[]⟩ : ByteArray), .slice none 0 0]) ?_ 4 _ rfl; (with_reducible repeat (first | refine blk_drewN ?_ _ | refine blk_drew ?_ | refine blk_alloc ?_ _)); refine blk_put (cs := #[.int .i64 0, .int .i64 0, .int .i64 0, .int .i64 0, .string (⟨#[]⟩ : ByteArray), .slice none 0 0]) ?_ 3 _ rfl; (with_reducible repeat (first | refine blk_drewN ?_ _ | refine blk_drew ?_ | refine blk_alloc ?_ _)); refine blk_put (cs := #[.int .i64 0, .int .i64 0, .int .i64 0, .int .i64 0, .string (⟨#[]⟩ : ByteArray), .slice none 0 0]) ?_ 2 _ rfl; (with_reducible repeat (first | refine blk_drewN ?_ _ | refine blk_drew ?_ | refine blk_alloc ?_ _)); refine blk_put (cs := #[.int .i64 0, .int .i64 0, .int .i64 0, .int .i64 0, .string (⟨#[]⟩ : ByteArray), .slice none 0 0]) ?_ 1 _ rfl; (with_reducible repeat (first | refine blk_drewN ?_ _ | refine blk_drew ?_ | refine blk_alloc ?_ _)); refine blk_put (cs := #[.int .i64 0, .int .i64 0, .int .i64 0, .int .i64 0, .string (⟨#[]⟩ : ByteArray), .slice none 0 0]) ?_ 0 _ rfl; (with_reducible repeat (first | refine blk_drewN ?_ _ | refine blk_drew ?_ | refine blk_alloc ?_ _)); exact BK226.out) Tryd.underlying43 rfl (by kernel_rfl)) rfl ?_
        exact ⟨_, qE, by first | exact Kd.R_nil _ _ _ _ _ | exact Kd.N_nil _ _ _ _ _ | exact Kd.V_nil _ _ _ _ _ | exact Kd.Q_nil _ _ _ _ _ | exact Kd.S_nil _ _ _ _ _, qB⟩
end Go.Proofs.YtniknpjeknmpjaaDoor.Q
namespace Go.Proofs.YtniknpjeknmpjaaDoor.PlainText
open Go Go.RowKit Go.Proofs.YtniknpjeknmpjaaDoorW.PrintWords Go.Proofs.YtniknpjeknmpjaaDoorW.PrintMore Go.Proofs.YtniknpjeknmpjaaDoor.Q Go.Proofs.YtniknpjeknmpjaaDoor.Plain Go.Proofs.YtniknpjeknmpjaaDoor.PlainNum Go.Proofs.YtniknpjeknmpjaaDoor.PlainName
set_option linter.unusedVariables false
set_option linter.unusedSimpArgs false
def zIns : SIns := ⟨0, 0, 0, 0, ⟨#[]⟩, []⟩
def insF (rest : List ByteArray) (op : Int) (fs : ByteArray) : Int × SIns :=
 if openF fs = false ∧ rest.length ≠ fs.size ∨ openF fs = true ∧ rest.length + 1 < fs.size then (80, zIns)
 else if (fillR rest fs.data.toList 0 (insOp op)).1 = 0 then (0, (fillR rest fs.data.toList 0 (insOp op)).2) else ((fillR rest fs.data.toList 0 (insOp op)).1, zIns)
def insR (ws : List ByteArray) (code : Bool) : Int × SIns :=
 match ws with
 | [] => (80, zIns)
 | w0 :: rest => match byOf w0 code with
  | none => (80, zIns)
  | some (op, wd, fs) => insF rest op fs
def insFlat (r : Int × SIns) : Int × Int × Int × Int × ByteArray × List Int × Int := (r.2.f0, r.2.f1, r.2.f2, r.2.f3, r.2.f4, r.2.f5, r.1)
theorem lineP_ins (s : PS) (w0 : ByteArray) (rest : List ByteArray) (h1 : ¬ (w0.toList = [98, 108, 111, 99, 107] ∧ rest = [])) (h2 : s.blocks ≠ []) :
 lineP s (w0 :: rest) = if (insR (w0 :: rest) s.code).1 = 0 then (0, { s with blocks := s.blocks.set (s.blocks.length - 1) (s.blocks.getD (s.blocks.length - 1) [] ++ [(insR (w0 :: rest) s.code).2]) }) else ((insR (w0 :: rest) s.code).1, s) := by
 unfold lineP insR insF
 simp only [zD h1, zD h2]
 cases byOf w0 s.code with
 | none => rfl
 | some r =>
  obtain ⟨op, wd, fs⟩ := r
  dsimp only
  split
  ·rfl
  ·by_cases h : (fillR rest fs.data.toList 0 (insOp op)).1 = 0
   ·simp only [zC h, if_true]
   ·simp only [zD h]
theorem readL_nums (name : Int) : ∀ (r : List ByteArray) (i : Nat) (out : List Int) (s : ByteArray), name < i → readL name i r out s = match r.mapM numOf with | some l => (out ++ l, s, 0) | none => ([], ⟨#[]⟩, 81)
 | [], i, out, s, h => by simp [readL]
 | t :: r, i, out, s, h => by
  unfold readL
  rw [zD (by omega), List.mapM_cons]
  cases numOf t with
  | none => rfl
  | some v =>
   dsimp only
   rw [readL_nums name r (i + 1) (out ++ [v]) s (by omega)]
   cases r.mapM numOf with
   | none => rfl
   | some l => simp
def insK (code : Bool) (op : Int) (k : Nat) (bt234 : List Int × ByteArray × Int) : Option (Int × Int × Int × Int × ByteArray × List Int × Int) :=
 if bt234.2.2 = 0 then (if op = 3 then (cubbyref08_ins.j2 k code bt234.1 op (op == 3) op 0 0 0 bt234.2.1) else (if op = 4 then (cubbyref08_ins.j2 k code bt234.1 op (op == 4) op 0 0 0 bt234.2.1) else (if op = 5 then (cubbyref08_ins.j2 k code bt234.1 op (op == 5) op 0 0 0 bt234.2.1) else (if op = 6 then (cubbyref08_ins.j2 k code bt234.1 op (op == 6) op 0 0 0 bt234.2.1) else (cubbyref08_ins.j2 k code bt234.1 op (op == 7) op 0 0 0 bt234.2.1))))) else (some (0, 0, 0, 0, (⟨#[]⟩ : ByteArray), ([] : List Int), bt234.2.2))
theorem insK_fin (w0 : ByteArray) (rest : List ByteArray) (code : Bool) (op : Int) (many : Nat) (name : Int) {r : Int × Int × Int × Int × ByteArray × List Int × Int} (hm : many ≤ 100000) (hev : Ev (fun k => insK code op k (readW (w0 :: rest) many name)) r) : Ev (fun k => cubbyref08_ins.j1 k (w0 :: rest) code op (many : Int) name op 0 0 0 (⟨#[]⟩ : ByteArray)) r := by
 refine Ev.step (fun k => ?_) (Ev.bind (f := insK code op) (read_ev (w0 :: rest) many name hm) hev)
 simp only [cubbyref08_ins.j1]
 rfl
theorem insK_count (w0 : ByteArray) (rest : List ByteArray) (code : Bool) (op : Int) (fs : ByteArray) (many : Nat) (name : Int) (h1 : openF fs = false) (h2 : fs.size = many) (h : rest.length ≠ many) : Ev (fun k => insK code op k (readW (w0 :: rest) many name)) (insFlat (insF rest op fs)) := by
 have e1 : readW (w0 :: rest) many name = ([], ⟨#[]⟩, 80) := by unfold readW; rw [zD (by simp; omega)]
 have e2 : insF rest op fs = (80, zIns) := by unfold insF; rw [zC (.inl ⟨h1, by omega⟩)]
 rw [e1, e2]
 exact ⟨0, fun k _ => rfl⟩
theorem fillR_num {ws : List ByteArray} {c : UInt8} {r : List UInt8} {at_ : Nat} {x : SIns} {t : ByteArray} (h1 : ¬ c = 78) (h2 : ¬ c = 76) (h : ws[at_]? = some t) : fillR ws (c :: r) at_ x = match numOf t with | some n => fillR ws r (at_ + 1) (setF c n x) | none => (81, x) := by
 conv => lhs; unfold fillR
 rw [zD h1, zD h2, h]
 rfl
theorem fillR_name {ws : List ByteArray} {r : List UInt8} {at_ : Nat} {x : SIns} {t : ByteArray} (h : ws[at_]? = some t) : fillR ws (78 :: r) at_ x = if nameOk t = true then fillR ws r (at_ + 1) { x with f4 := t } else (80, x) := by
 conv => lhs; unfold fillR
 rw [zC rfl, h]
 try rfl
theorem fillR_list {ws : List ByteArray} {at_ : Nat} {x : SIns} : fillR ws [76] at_ x = match (ws.drop at_).mapM numOf with | some l => (0, { x with f5 := x.f5 ++ l }) | none => (81, x) := by
 conv => lhs; unfold fillR
 rw [zD (by decide), zC rfl]
 try rfl
theorem insF_right {rest : List ByteArray} {op : Int} {fs : ByteArray} (h1 : openF fs = false) (h : rest.length = fs.size) {e : Int} {y : SIns} (hf : fillR rest fs.data.toList 0 (insOp op) = (e, y)) : insF rest op fs = if e = 0 then (0, y) else (e, zIns) := by
 unfold insF
 rw [zD (by rintro (⟨_, h2⟩ | ⟨h2, _⟩); exact h2 h; rw [h1] at h2; cases h2), hf]
theorem form_DA (w0 : ByteArray) (rest : List ByteArray) (code : Bool) (op : Int) (hop : op = 1 ∨ op = 2 ∨ op = 8 ∨ op = 21 ∨ op = 22) : Ev (fun k => insK code op k (readW (w0 :: rest) 2 (-1))) (insFlat (insF rest op ⟨#[68, 65]⟩)) := by
 by_cases hl : rest.length = 2
 ·match rest, hl with
  | [a, b], _ =>
   have e0 : readW [w0, a, b] 2 (-1) = (match [a, b].mapM numOf with | some l => (l, ⟨#[]⟩, 0) | none => ([], ⟨#[]⟩, 81)) := by
    simp only [readW, List.drop_one, List.tail_cons, List.length_cons, List.length_nil, if_true]
    rw [readL_nums _ _ _ _ _ (by decide)]
    rfl
   rw [e0]
   cases ha : numOf a with
   | none =>
    have hm : [a, b].mapM numOf = none := by simp [ha]
    rw [hm, insF_right (e := 81) rfl rfl (by show fillR [a, b] [68, 65] 0 (insOp op) = _; rw [fillR_num (t := a) (by decide) (by decide) rfl, ha])]
    exact ⟨0, fun k _ => rfl⟩
   | some x =>
    cases hb : numOf b with
    | none =>
     have hm : [a, b].mapM numOf = none := by simp [ha, hb]
     rw [hm, insF_right (e := 81) rfl rfl (by show fillR [a, b] [68, 65] 0 (insOp op) = _; rw [fillR_num (t := a) (by decide) (by decide) rfl, ha]; dsimp only; rw [fillR_num (t := b) (by decide) (by decide) rfl, hb])]
     exact ⟨0, fun k _ => rfl⟩
    | some y =>
     rw [insF_right (e := 0) (y := ⟨op, x, y, 0, ⟨#[]⟩, []⟩) rfl rfl (by show fillR [a, b] [68, 65] 0 (insOp op) = _; rw [fillR_num (t := a) (by decide) (by decide) rfl, ha]; dsimp only; rw [fillR_num (t := b) (by decide) (by decide) rfl, hb]; dsimp only; rfl)]
     refine ⟨3, fun k hk => ?_⟩
     obtain ⟨q, rfl⟩ : ∃ q, k = q + 3 := ⟨k - 3, by omega⟩
     have hm : [a, b].mapM numOf = some [x, y] := by simp [ha, hb]
     rw [hm]
     rcases hop with rfl | rfl | rfl | rfl | rfl <;> rfl
 ·exact insK_count w0 rest code op ⟨#[68, 65]⟩ 2 (-1) rfl rfl hl
theorem form_DAB (w0 : ByteArray) (rest : List ByteArray) (code : Bool) (op : Int) (hop : op = 3 ∨ op = 4 ∨ op = 5 ∨ op = 6 ∨ op = 7) : Ev (fun k => insK code op k (readW (w0 :: rest) 3 (-1))) (insFlat (insF rest op ⟨#[68, 65, 66]⟩)) := by
 by_cases hl : rest.length = 3
 ·match rest, hl with
  | [a, b, c], _ =>
   have e0 : readW [w0, a, b, c] 3 (-1) = (match [a, b, c].mapM numOf with | some l => (l, ⟨#[]⟩, 0) | none => ([], ⟨#[]⟩, 81)) := by
    simp only [readW, List.drop_one, List.tail_cons, List.length_cons, List.length_nil, if_true]
    rw [readL_nums _ _ _ _ _ (by decide)]
    rfl
   rw [e0]
   cases ha : numOf a with
   | none =>
    have hm : [a, b, c].mapM numOf = none := by simp [ha]
    rw [hm, insF_right (e := 81) rfl rfl (by show fillR [a, b, c] [68, 65, 66] 0 (insOp op) = _; rw [fillR_num (t := a) (by decide) (by decide) rfl, ha])]
    exact ⟨0, fun k _ => rfl⟩
   | some x =>
    cases hb : numOf b with
    | none =>
     have hm : [a, b, c].mapM numOf = none := by simp [ha, hb]
     rw [hm, insF_right (e := 81) rfl rfl (by show fillR [a, b, c] [68, 65, 66] 0 (insOp op) = _; rw [fillR_num (t := a) (by decide) (by decide) rfl, ha]; dsimp only; rw [fillR_num (t := b) (by decide) (by decide) rfl, hb])]
     exact ⟨0, fun k _ => rfl⟩
    | some y =>
     cases hc : numOf c with
     | none =>
      have hm : [a, b, c].mapM numOf = none := by simp [ha, hb, hc]
      rw [hm, insF_right (e := 81) rfl rfl (by show fillR [a, b, c] [68, 65, 66] 0 (insOp op) = _; rw [fillR_num (t := a) (by decide) (by decide) rfl, ha]; dsimp only; rw [fillR_num (t := b) (by decide) (by decide) rfl, hb]; dsimp only; rw [fillR_num (t := c) (by decide) (by decide) rfl, hc])]
      exact ⟨0, fun k _ => rfl⟩
     | some z =>
      rw [insF_right (e := 0) (y := ⟨op, x, y, z, ⟨#[]⟩, []⟩) rfl rfl (by show fillR [a, b, c] [68, 65, 66] 0 (insOp op) = _; rw [fillR_num (t := a) (by decide) (by decide) rfl, ha]; dsimp only; rw [fillR_num (t := b) (by decide) (by decide) rfl, hb]; dsimp only; rw [fillR_num (t := c) (by decide) (by decide) rfl, hc]; dsimp only; rfl)]
      refine ⟨3, fun k hk => ?_⟩
      obtain ⟨q, rfl⟩ : ∃ q, k = q + 3 := ⟨k - 3, by omega⟩
      have hm : [a, b, c].mapM numOf = some [x, y, z] := by simp [ha, hb, hc]
      rw [hm]
      rcases hop with rfl | rfl | rfl | rfl | rfl <;> rfl
 ·exact insK_count w0 rest code op ⟨#[68, 65, 66]⟩ 3 (-1) rfl rfl hl
theorem form_AB (w0 : ByteArray) (rest : List ByteArray) (code : Bool) (op : Int) (hop : op = 9) : Ev (fun k => insK code op k (readW (w0 :: rest) 2 (-1))) (insFlat (insF rest op ⟨#[65, 66]⟩)) := by
 by_cases hl : rest.length = 2
 ·match rest, hl with
  | [a, b], _ =>
   have e0 : readW [w0, a, b] 2 (-1) = (match [a, b].mapM numOf with | some l => (l, ⟨#[]⟩, 0) | none => ([], ⟨#[]⟩, 81)) := by
    simp only [readW, List.drop_one, List.tail_cons, List.length_cons, List.length_nil, if_true]
    rw [readL_nums _ _ _ _ _ (by decide)]
    rfl
   rw [e0]
   cases ha : numOf a with
   | none =>
    have hm : [a, b].mapM numOf = none := by simp [ha]
    rw [hm, insF_right (e := 81) rfl rfl (by show fillR [a, b] [65, 66] 0 (insOp op) = _; rw [fillR_num (t := a) (by decide) (by decide) rfl, ha])]
    exact ⟨0, fun k _ => rfl⟩
   | some x =>
    cases hb : numOf b with
    | none =>
     have hm : [a, b].mapM numOf = none := by simp [ha, hb]
     rw [hm, insF_right (e := 81) rfl rfl (by show fillR [a, b] [65, 66] 0 (insOp op) = _; rw [fillR_num (t := a) (by decide) (by decide) rfl, ha]; dsimp only; rw [fillR_num (t := b) (by decide) (by decide) rfl, hb])]
     exact ⟨0, fun k _ => rfl⟩
    | some y =>
     rw [insF_right (e := 0) (y := ⟨op, 0, x, y, ⟨#[]⟩, []⟩) rfl rfl (by show fillR [a, b] [65, 66] 0 (insOp op) = _; rw [fillR_num (t := a) (by decide) (by decide) rfl, ha]; dsimp only; rw [fillR_num (t := b) (by decide) (by decide) rfl, hb]; dsimp only; rfl)]
     refine ⟨3, fun k hk => ?_⟩
     obtain ⟨q, rfl⟩ : ∃ q, k = q + 3 := ⟨k - 3, by omega⟩
     have hm : [a, b].mapM numOf = some [x, y] := by simp [ha, hb]
     rw [hm]
     subst hop
     rfl
 ·exact insK_count w0 rest code op ⟨#[65, 66]⟩ 2 (-1) rfl rfl hl
theorem form_A (w0 : ByteArray) (rest : List ByteArray) (code : Bool) (op : Int) (hop : op = 10 ∨ op = 12 ∨ op = 14) : Ev (fun k => insK code op k (readW (w0 :: rest) 1 (-1))) (insFlat (insF rest op ⟨#[65]⟩)) := by
 by_cases hl : rest.length = 1
 ·match rest, hl with
  | [a], _ =>
   have e0 : readW [w0, a] 1 (-1) = (match [a].mapM numOf with | some l => (l, ⟨#[]⟩, 0) | none => ([], ⟨#[]⟩, 81)) := by
    simp only [readW, List.drop_one, List.tail_cons, List.length_cons, List.length_nil, if_true]
    rw [readL_nums _ _ _ _ _ (by decide)]
    rfl
   rw [e0]
   cases ha : numOf a with
   | none =>
    have hm : [a].mapM numOf = none := by simp [ha]
    rw [hm, insF_right (e := 81) rfl rfl (by show fillR [a] [65] 0 (insOp op) = _; rw [fillR_num (t := a) (by decide) (by decide) rfl, ha])]
    exact ⟨0, fun k _ => rfl⟩
   | some x =>
    rw [insF_right (e := 0) (y := ⟨op, 0, x, 0, ⟨#[]⟩, []⟩) rfl rfl (by show fillR [a] [65] 0 (insOp op) = _; rw [fillR_num (t := a) (by decide) (by decide) rfl, ha]; dsimp only; rfl)]
    refine ⟨3, fun k hk => ?_⟩
    obtain ⟨q, rfl⟩ : ∃ q, k = q + 3 := ⟨k - 3, by omega⟩
    have hm : [a].mapM numOf = some [x] := by simp [ha]
    rw [hm]
    rcases hop with rfl | rfl | rfl <;> rfl
 ·exact insK_count w0 rest code op ⟨#[65]⟩ 1 (-1) rfl rfl hl
theorem form_ABD (w0 : ByteArray) (rest : List ByteArray) (code : Bool) (op : Int) (hop : op = 13) : Ev (fun k => insK code op k (readW (w0 :: rest) 3 (-1))) (insFlat (insF rest op ⟨#[65, 66, 68]⟩)) := by
 by_cases hl : rest.length = 3
 ·match rest, hl with
  | [a, b, c], _ =>
   have e0 : readW [w0, a, b, c] 3 (-1) = (match [a, b, c].mapM numOf with | some l => (l, ⟨#[]⟩, 0) | none => ([], ⟨#[]⟩, 81)) := by
    simp only [readW, List.drop_one, List.tail_cons, List.length_cons, List.length_nil, if_true]
    rw [readL_nums _ _ _ _ _ (by decide)]
    rfl
   rw [e0]
   cases ha : numOf a with
   | none =>
    have hm : [a, b, c].mapM numOf = none := by simp [ha]
    rw [hm, insF_right (e := 81) rfl rfl (by show fillR [a, b, c] [65, 66, 68] 0 (insOp op) = _; rw [fillR_num (t := a) (by decide) (by decide) rfl, ha])]
    exact ⟨0, fun k _ => rfl⟩
   | some x =>
    cases hb : numOf b with
    | none =>
     have hm : [a, b, c].mapM numOf = none := by simp [ha, hb]
     rw [hm, insF_right (e := 81) rfl rfl (by show fillR [a, b, c] [65, 66, 68] 0 (insOp op) = _; rw [fillR_num (t := a) (by decide) (by decide) rfl, ha]; dsimp only; rw [fillR_num (t := b) (by decide) (by decide) rfl, hb])]
     exact ⟨0, fun k _ => rfl⟩
    | some y =>
     cases hc : numOf c with
     | none =>
      have hm : [a, b, c].mapM numOf = none := by simp [ha, hb, hc]
      rw [hm, insF_right (e := 81) rfl rfl (by show fillR [a, b, c] [65, 66, 68] 0 (insOp op) = _; rw [fillR_num (t := a) (by decide) (by decide) rfl, ha]; dsimp only; rw [fillR_num (t := b) (by decide) (by decide) rfl, hb]; dsimp only; rw [fillR_num (t := c) (by decide) (by decide) rfl, hc])]
      exact ⟨0, fun k _ => rfl⟩
     | some z =>
      rw [insF_right (e := 0) (y := ⟨op, z, x, y, ⟨#[]⟩, []⟩) rfl rfl (by show fillR [a, b, c] [65, 66, 68] 0 (insOp op) = _; rw [fillR_num (t := a) (by decide) (by decide) rfl, ha]; dsimp only; rw [fillR_num (t := b) (by decide) (by decide) rfl, hb]; dsimp only; rw [fillR_num (t := c) (by decide) (by decide) rfl, hc]; dsimp only; rfl)]
      refine ⟨3, fun k hk => ?_⟩
      obtain ⟨q, rfl⟩ : ∃ q, k = q + 3 := ⟨k - 3, by omega⟩
      have hm : [a, b, c].mapM numOf = some [x, y, z] := by simp [ha, hb, hc]
      rw [hm]
      subst hop
      rfl
 ·exact insK_count w0 rest code op ⟨#[65, 66, 68]⟩ 3 (-1) rfl rfl hl
theorem mapM_len' {α β : Type} {g : α → Option β} : ∀ {l : List α} {r : List β}, l.mapM g = some r → r.length = l.length
 | [], r, h => by simp at h; subst h; rfl
 | a :: l, r, h => by
  rw [List.mapM_cons] at h
  simp only [Option.pure_def, Option.bind_eq_bind, Option.bind_eq_some_iff] at h
  obtain ⟨x, hx, y, hy, h⟩ := h
  injection h with h
  subst h
  simp [mapM_len' hy]
theorem readL_name (name : Int) (i : Nat) (t : ByteArray) (r : List ByteArray) (out : List Int) (s : ByteArray) (h : (i : Int) = name) : readL name i (t :: r) out s = if nameOk t = true then readL name (i + 1) r out t else ([], ⟨#[]⟩, 80) := by
 conv => lhs; unfold readL
 rw [zC h]
theorem readL_num (name : Int) (i : Nat) (t : ByteArray) (r : List ByteArray) (out : List Int) (s : ByteArray) (h : ¬ (i : Int) = name) : readL name i (t :: r) out s = match numOf t with | some v => readL name (i + 1) r (out ++ [v]) s | none => ([], ⟨#[]⟩, 81) := by
 conv => lhs; unfold readL
 rw [zD h]
 try rfl
theorem form_DNA (w0 : ByteArray) (rest : List ByteArray) : Ev (fun k => insK true 11 k (readW (w0 :: rest) 3 1)) (insFlat (insF rest 11 ⟨#[68, 78, 65]⟩)) := by
 by_cases hl : rest.length = 3
 ·match rest, hl with
  | [a, b, c], _ =>
   have e0 : readW [w0, a, b, c] 3 1 = (match numOf a with | none => ([], ⟨#[]⟩, 81) | some x => if nameOk b = true then (match numOf c with | none => ([], ⟨#[]⟩, 81) | some z => ([x, z], b, 0)) else ([], ⟨#[]⟩, 80)) := by
    simp only [readW, List.drop_one, List.tail_cons, List.length_cons, List.length_nil, if_true]
    rw [readL_num _ _ _ _ _ _ (by decide)]
    cases numOf a with
    | none => rfl
    | some x =>
     dsimp only
     rw [readL_name _ _ _ _ _ _ (by decide)]
     split
     ·rw [readL_num _ _ _ _ _ _ (by decide)]
      cases numOf c <;> rfl
     ·rfl
   rw [e0]
   cases ha : numOf a with
   | none =>
    rw [insF_right (e := 81) rfl rfl (by show fillR [a, b, c] [68, 78, 65] 0 (insOp 11) = _; rw [fillR_num (t := a) (by decide) (by decide) rfl, ha])]
    exact ⟨0, fun k _ => rfl⟩
   | some x =>
    by_cases hb : nameOk b = true
    ·cases hc : numOf c with
     | none =>
      rw [insF_right (e := 81) rfl rfl (by show fillR [a, b, c] [68, 78, 65] 0 (insOp 11) = _; rw [fillR_num (t := a) (by decide) (by decide) rfl, ha]; dsimp only; rw [fillR_name (t := b) rfl, zC hb, fillR_num (t := c) (by decide) (by decide) rfl, hc])]
      dsimp only
      rw [zC hb]
      exact ⟨0, fun k _ => rfl⟩
     | some z =>
      rw [insF_right (e := 0) (y := ⟨11, x, z, 0, b, []⟩) rfl rfl (by show fillR [a, b, c] [68, 78, 65] 0 (insOp 11) = _; rw [fillR_num (t := a) (by decide) (by decide) rfl, ha]; dsimp only; rw [fillR_name (t := b) rfl, zC hb, fillR_num (t := c) (by decide) (by decide) rfl, hc]; rfl)]
      dsimp only
      rw [zC hb]
      refine ⟨3, fun k hk => ?_⟩
      obtain ⟨q, rfl⟩ : ∃ q, k = q + 3 := ⟨k - 3, by omega⟩
      rfl
    ·rw [insF_right (e := 80) rfl rfl (by show fillR [a, b, c] [68, 78, 65] 0 (insOp 11) = _; rw [fillR_num (t := a) (by decide) (by decide) rfl, ha]; dsimp only; rw [fillR_name (t := b) rfl, zD hb])]
     dsimp only
     rw [zD hb]
     exact ⟨0, fun k _ => rfl⟩
 ·exact insK_count w0 rest true 11 ⟨#[68, 78, 65]⟩ 3 1 rfl rfl hl
theorem form_DNL (w0 : ByteArray) (rest : List ByteArray) (hr : rest.length ≤ 95000) : Ev (fun k => insK false 11 k (readW (w0 :: rest) (max 2 rest.length) 1)) (insFlat (insF rest 11 ⟨#[68, 78, 76]⟩)) := by
 by_cases hl : 2 ≤ rest.length
 ·match rest, hl with
  | a :: b :: r, _ =>
   have hmx : max 2 (a :: b :: r).length = (a :: b :: r).length := by simp
   rw [hmx]
   have e0 : readW (w0 :: a :: b :: r) (a :: b :: r).length 1 = (match numOf a with | none => ([], ⟨#[]⟩, 81) | some x => if nameOk b = true then (match r.mapM numOf with | none => ([], ⟨#[]⟩, 81) | some l => (x :: l, b, 0)) else ([], ⟨#[]⟩, 80)) := by
    simp only [readW, List.drop_one, List.tail_cons, List.length_cons, if_true]
    rw [readL_num _ _ _ _ _ _ (by decide)]
    cases numOf a with
    | none => rfl
    | some x =>
     dsimp only
     rw [readL_name _ _ _ _ _ _ (by decide)]
     split
     ·rw [readL_nums _ _ _ _ _ (by decide)]
      cases r.mapM numOf <;> rfl
     ·rfl
   rw [e0]
   have hw : ∀ {e : Int} {y : SIns}, fillR (a :: b :: r) [68, 78, 76] 0 (insOp 11) = (e, y) → insF (a :: b :: r) 11 ⟨#[68, 78, 76]⟩ = if e = 0 then (0, y) else (e, zIns) := fun {e y} hf => by
    unfold insF
    rw [zD (by rintro (⟨h2, _⟩ | ⟨_, h2⟩); exact absurd h2 (by decide); have : (⟨#[68, 78, 76]⟩ : ByteArray).size = 3 := rfl; simp at h2; omega)]
    show (if (fillR (a :: b :: r) [68, 78, 76] 0 (insOp 11)).1 = 0 then (0, (fillR (a :: b :: r) [68, 78, 76] 0 (insOp 11)).2) else ((fillR (a :: b :: r) [68, 78, 76] 0 (insOp 11)).1, zIns)) = _
    rw [hf]
   cases ha : numOf a with
   | none =>
    rw [hw (e := 81) (by rw [fillR_num (t := a) (by decide) (by decide) rfl, ha])]
    exact ⟨0, fun k _ => rfl⟩
   | some x =>
    by_cases hb : nameOk b = true
    ·cases hc : r.mapM numOf with
     | none =>
      rw [hw (e := 81) (y := ⟨11, x, 0, 0, b, []⟩) (by rw [fillR_num (t := a) (by decide) (by decide) rfl, ha]; dsimp only; rw [fillR_name (t := b) rfl, zC hb, fillR_list]; simp only [Nat.reduceAdd, List.drop_succ_cons, List.drop_zero, hc]; rfl)]
      dsimp only
      rw [zC hb]
      exact ⟨0, fun k _ => rfl⟩
     | some l =>
      rw [hw (e := 0) (y := ⟨11, x, 0, 0, b, l⟩) (by rw [fillR_num (t := a) (by decide) (by decide) rfl, ha]; dsimp only; rw [fillR_name (t := b) rfl, zC hb, fillR_list]; simp only [Nat.reduceAdd, List.drop_succ_cons, List.drop_zero, hc]; rfl)]
      dsimp only
      rw [zC hb]
      have hll := mapM_len' hc
      simp only [List.length_cons] at hr
      refine ⟨3, fun k hk => ?_⟩
      obtain ⟨q, rfl⟩ : ∃ q, k = q + 3 := ⟨k - 3, by omega⟩
      cases l with
      | nil => rfl
      | cons y l =>
       have e1 : insK false 11 (q + 3) (x :: y :: l, b, 0) = if 0 < (((x :: y :: l).length : Nat) : Int) then (if (((x :: y :: l).length : Nat) : Int) > 1 then (if 1 ≤ (((x :: y :: l).length : Nat) : Int) then (if ([] : List Int).length + ((x :: y :: l).drop 1).length < 17592186044416 then some (11, x, 0, 0, b, [] ++ (x :: y :: l).drop 1, 0) else none) else none) else some (11, x, 0, 0, b, [], 0)) else none := rfl
       show insK false 11 (q + 3) (x :: y :: l, b, 0) = _
       rw [e1, zC (by simp; omega), zC (by simp; omega), zC (by simp; omega), zC (by simp at hll ⊢; omega)]
       rfl
    ·rw [hw (e := 80) (by rw [fillR_num (t := a) (by decide) (by decide) rfl, ha]; dsimp only; rw [fillR_name (t := b) rfl, zD hb])]
     dsimp only
     rw [zD hb]
     exact ⟨0, fun k _ => rfl⟩
 ·have e1 : readW (w0 :: rest) (max 2 rest.length) 1 = ([], ⟨#[]⟩, 80) := by unfold readW; rw [zD (by simp; omega)]
  have e2 : insF rest 11 ⟨#[68, 78, 76]⟩ = (80, zIns) := by unfold insF; rw [zC (.inr ⟨by decide, by show rest.length + 1 < 3; omega⟩)]
  rw [e1, e2]
  exact ⟨0, fun k _ => rfl⟩
def opWord (l : List UInt8) : Int := if l = [99, 111, 110, 115, 116] then 1 else if l = [99, 111, 112, 121] then 2 else if l = [97, 100, 100] then 3 else if l = [115, 117, 98] then 4 else if l = [109, 117, 108] then 5 else if l = [108, 101, 115, 115] then 6 else if l = [100, 105, 118] then 7 else if l = [108, 111, 97, 100] then 8 else if l = [115, 116, 111, 114, 101] then 9 else if l = [111, 117, 116] then 10 else if l = [99, 97, 108, 108] then 11 else if l = [106, 117, 109, 112] then 12 else if l = [98, 114, 97, 110, 99, 104] then 13 else if l = [114, 101, 116] then 14 else if l = [102, 101, 116, 99, 104] then 21 else if l = [115, 97, 118, 101] then 22 else 0
theorem of_word {i o : Int} {code : Bool} {wd fs : ByteArray} (h : text_of.f i code = some (o, wd, fs, true)) : o = i ∧ opWord wd.data.toList = i ∧ wd.data.toList ≠ [] := by
 rcases op_cases i with rfl | rfl | rfl | rfl | rfl | rfl | rfl | rfl | rfl | rfl | rfl | rfl | rfl | rfl | rfl | rfl | rfl | ho
 case inr.inr.inr.inr.inr.inr.inr.inr.inr.inr.inr.inr.inr.inr.inr.inr.inr =>
  rw [text_of_none (.inr ho)] at h
  cases h
 all_goals
  cases code
  all_goals
   first
    | (cases h; done)
    | (injection h with h
       simp only [Prod.mk.injEq] at h
       obtain ⟨rfl, rfl, rfl, -⟩ := h
       exact ⟨rfl, by decide, by decide⟩)
theorem isBy_some {wd : ByteArray} {code : Bool} {i : Int} {r : Int × ByteArray × ByteArray} (h : isBy wd code i = some r) : r.1 = i ∧ i = opWord wd.data.toList ∧ wd.toList ≠ [] ∧ text_of.f i code = some (r.1, r.2.1, r.2.2, true) ∧ (wordR i code).toList = wd.toList := by
 obtain ⟨⟨o, w1, fs, is⟩, hof⟩ := text_of_total i code
 cases is with
 | false => rw [isBy_false hof] at h; cases h
 | true =>
  rw [isBy_true hof] at h
  split at h
  ·next hw =>
   injection h with h
   subst h
   obtain ⟨h1, h2, h3⟩ := of_word hof
   rw [toList_data, toList_data] at hw
   refine ⟨h1, by rw [← hw]; exact h2.symm, by rw [toList_data, ← hw]; exact h3, hof, ?_⟩
   unfold wordR
   rw [hof]
   simp only
   rw [toList_data, toList_data, hw]
  ·cases h
theorem isBy_none {wd : ByteArray} {code : Bool} {i : Int} (h : isBy wd code i = none) : ¬ ((wordR i code).toList = wd.toList ∧ wd.toList ≠ []) := by
 obtain ⟨⟨o, w1, fs, is⟩, hof⟩ := text_of_total i code
 unfold wordR
 rw [hof]
 cases is with
 | false => rintro ⟨h1, h2⟩; exact h2 (h1.symm.trans (by rw [toList_data]; rfl))
 | true =>
  rw [isBy_true hof] at h
  split at h
  ·cases h
  ·next hw => exact fun h1 => hw h1.1
theorem byFrom_some {wd : ByteArray} {code : Bool} : ∀ {k : Nat} {i : Int} {r : Int × ByteArray × ByteArray}, byFrom wd code k i = some r → ∃ j, i ≤ j ∧ j < i + k ∧ isBy wd code j = some r
 | 0, i, r, h => by cases h
 | k + 1, i, r, h => by
  unfold byFrom at h
  split at h
  ·next r' hr =>
   injection h with h
   subst h
   exact ⟨i, by omega, by omega, hr⟩
  ·obtain ⟨j, h1, h2, h3⟩ := byFrom_some h
   exact ⟨j, by omega, by omega, h3⟩
theorem ins_ev (w0 : ByteArray) (rest : List ByteArray) (code : Bool) (hr : rest.length ≤ 95000) : Ev (fun k => cubbyref08_ins.f k (w0 :: rest) code) (insFlat (insR (w0 :: rest) code)) := by
 have tail : ∀ (x6 : Int) (r : Option (Int × ByteArray × ByteArray)), (∀ op wd fs, r = some (op, wd, fs) → x6 = op ∧ text_of.f op code = some (op, wd, fs, true)) → (r = none → x6 = -1) →
  Ev (fun k => if x6 < 0 then (some (0, 0, 0, 0, (⟨#[]⟩ : ByteArray), ([] : List Int), 80)) else ((cubbyref08_numbers.f k x6 0 0 0 (⟨#[]⟩ : ByteArray) ([] : List Int) code).bind fun t231 => (if x6 = 11 then (if code = true then (cubbyref08_ins.j1 k (w0 :: rest) code x6 (wrap64 ((t231.length : Int) + 1)) 1 x6 0 0 0 (⟨#[]⟩ : ByteArray)) else (cubbyref08_ins.j1 k (w0 :: rest) code x6 (mx 2 (wrap64 (((w0 :: rest).length : Int) - 1))) 1 x6 0 0 0 (⟨#[]⟩ : ByteArray))) else (cubbyref08_ins.j1 k (w0 :: rest) code x6 (t231.length : Int) (-1) x6 0 0 0 (⟨#[]⟩ : ByteArray)))))
   (insFlat (match r with | none => (80, zIns) | some (op, wd, fs) => insF rest op fs)) := by
  intro x6 r hs hn
  cases r with
  | none => rw [hn rfl]; exact ⟨0, fun k _ => rfl⟩
  | some r =>
   obtain ⟨op, wd, fs⟩ := r
   obtain ⟨rfl, hof⟩ := hs op wd fs rfl
   have done : ¬ x6 < 0 → Ev (fun k => (if x6 = 11 then (if code = true then (cubbyref08_ins.j1 k (w0 :: rest) code x6 (wrap64 (((numsR (insOp x6) code).length : Int) + 1)) 1 x6 0 0 0 (⟨#[]⟩ : ByteArray)) else (cubbyref08_ins.j1 k (w0 :: rest) code x6 (mx 2 (wrap64 (((w0 :: rest).length : Int) - 1))) 1 x6 0 0 0 (⟨#[]⟩ : ByteArray))) else (cubbyref08_ins.j1 k (w0 :: rest) code x6 ((numsR (insOp x6) code).length : Int) (-1) x6 0 0 0 (⟨#[]⟩ : ByteArray)))) (insFlat (insF rest x6 fs)) →
    Ev (fun k => if x6 < 0 then (some (0, 0, 0, 0, (⟨#[]⟩ : ByteArray), ([] : List Int), 80)) else ((cubbyref08_numbers.f k x6 0 0 0 (⟨#[]⟩ : ByteArray) ([] : List Int) code).bind fun t231 => (if x6 = 11 then (if code = true then (cubbyref08_ins.j1 k (w0 :: rest) code x6 (wrap64 ((t231.length : Int) + 1)) 1 x6 0 0 0 (⟨#[]⟩ : ByteArray)) else (cubbyref08_ins.j1 k (w0 :: rest) code x6 (mx 2 (wrap64 (((w0 :: rest).length : Int) - 1))) 1 x6 0 0 0 (⟨#[]⟩ : ByteArray))) else (cubbyref08_ins.j1 k (w0 :: rest) code x6 (t231.length : Int) (-1) x6 0 0 0 (⟨#[]⟩ : ByteArray)))))
     (insFlat (insF rest x6 fs)) := fun h0 he =>
    Ev.congr (fun k => zD h0) (Ev.bind (f := fun k (t231 : List Int) => (if x6 = 11 then (if code = true then (cubbyref08_ins.j1 k (w0 :: rest) code x6 (wrap64 ((t231.length : Int) + 1)) 1 x6 0 0 0 (⟨#[]⟩ : ByteArray)) else (cubbyref08_ins.j1 k (w0 :: rest) code x6 (mx 2 (wrap64 (((w0 :: rest).length : Int) - 1))) 1 x6 0 0 0 (⟨#[]⟩ : ByteArray))) else (cubbyref08_ins.j1 k (w0 :: rest) code x6 (t231.length : Int) (-1) x6 0 0 0 (⟨#[]⟩ : ByteArray)))) (numbers_ev (insOp x6) code (by simp [insOp])) he)
   have fsq : ∀ {o' : Int} {wd' fs' : ByteArray} {is' : Bool}, text_of.f x6 code = some (o', wd', fs', is') → fs = fs' := fun {o' wd' fs' is'} h => by
    rw [hof] at h
    injection h with h
    simp only [Prod.mk.injEq] at h
    exact h.2.2.1
   rcases op_cases x6 with rfl | rfl | rfl | rfl | rfl | rfl | rfl | rfl | rfl | rfl | rfl | rfl | rfl | rfl | rfl | rfl | rfl | ho
   ·rw [show fs = ⟨#[68, 65]⟩ from fsq rfl] at done ⊢
    exact done (by decide) (Ev.congr (fun k => zD (by decide)) (insK_fin w0 rest code 1 2 (-1) (by decide) (form_DA w0 rest code 1 (by decide))))
   ·rw [show fs = ⟨#[68, 65]⟩ from fsq rfl] at done ⊢
    exact done (by decide) (Ev.congr (fun k => zD (by decide)) (insK_fin w0 rest code 2 2 (-1) (by decide) (form_DA w0 rest code 2 (by decide))))
   ·rw [show fs = ⟨#[68, 65, 66]⟩ from fsq rfl] at done ⊢
    exact done (by decide) (Ev.congr (fun k => zD (by decide)) (insK_fin w0 rest code 3 3 (-1) (by decide) (form_DAB w0 rest code 3 (by decide))))
   ·rw [show fs = ⟨#[68, 65, 66]⟩ from fsq rfl] at done ⊢
    exact done (by decide) (Ev.congr (fun k => zD (by decide)) (insK_fin w0 rest code 4 3 (-1) (by decide) (form_DAB w0 rest code 4 (by decide))))
   ·rw [show fs = ⟨#[68, 65, 66]⟩ from fsq rfl] at done ⊢
    exact done (by decide) (Ev.congr (fun k => zD (by decide)) (insK_fin w0 rest code 5 3 (-1) (by decide) (form_DAB w0 rest code 5 (by decide))))
   ·rw [show fs = ⟨#[68, 65, 66]⟩ from fsq rfl] at done ⊢
    exact done (by decide) (Ev.congr (fun k => zD (by decide)) (insK_fin w0 rest code 6 3 (-1) (by decide) (form_DAB w0 rest code 6 (by decide))))
   ·rw [show fs = ⟨#[68, 65, 66]⟩ from fsq rfl] at done ⊢
    exact done (by decide) (Ev.congr (fun k => zD (by decide)) (insK_fin w0 rest code 7 3 (-1) (by decide) (form_DAB w0 rest code 7 (by decide))))
   ·rw [show fs = ⟨#[68, 65]⟩ from fsq rfl] at done ⊢
    exact done (by decide) (Ev.congr (fun k => zD (by decide)) (insK_fin w0 rest code 8 2 (-1) (by decide) (form_DA w0 rest code 8 (by decide))))
   ·rw [show fs = ⟨#[65, 66]⟩ from fsq rfl] at done ⊢
    exact done (by decide) (Ev.congr (fun k => zD (by decide)) (insK_fin w0 rest code 9 2 (-1) (by decide) (form_AB w0 rest code 9 (by decide))))
   ·rw [show fs = ⟨#[65]⟩ from fsq rfl] at done ⊢
    exact done (by decide) (Ev.congr (fun k => zD (by decide)) (insK_fin w0 rest code 10 1 (-1) (by decide) (form_A w0 rest code 10 (by decide))))
   ·cases code with
    | true =>
     rw [show fs = ⟨#[68, 78, 65]⟩ from fsq rfl] at done ⊢
     exact done (by decide) (Ev.congr (fun k => by rw [zC rfl, zC rfl, show ((numsR (insOp 11) true).length : Int) = ((2 : Nat) : Int) from rfl, wrap_nat (by omega)]) (insK_fin w0 rest true 11 3 1 (by decide) (form_DNA w0 rest)))
    | false =>
     rw [show fs = ⟨#[68, 78, 76]⟩ from fsq rfl] at done ⊢
     have hmx : mx 2 (wrap64 (((w0 :: rest).length : Int) - 1)) = ((max 2 rest.length : Nat) : Int) := by
      rw [wrap_pred (by simp) (by simp; omega)]
      unfold mx
      simp only [List.length_cons]
      omega
     exact done (by decide) (Ev.congr (fun k => by rw [zC rfl, zD (by decide), hmx]) (insK_fin w0 rest false 11 (max 2 rest.length) 1 (by omega) (form_DNL w0 rest hr)))
   ·rw [show fs = ⟨#[65]⟩ from fsq rfl] at done ⊢
    exact done (by decide) (Ev.congr (fun k => zD (by decide)) (insK_fin w0 rest code 12 1 (-1) (by decide) (form_A w0 rest code 12 (by decide))))
   ·rw [show fs = ⟨#[65, 66, 68]⟩ from fsq rfl] at done ⊢
    exact done (by decide) (Ev.congr (fun k => zD (by decide)) (insK_fin w0 rest code 13 3 (-1) (by decide) (form_ABD w0 rest code 13 (by decide))))
   ·rw [show fs = ⟨#[65]⟩ from fsq rfl] at done ⊢
    exact done (by decide) (Ev.congr (fun k => zD (by decide)) (insK_fin w0 rest code 14 1 (-1) (by decide) (form_A w0 rest code 14 (by decide))))
   ·rw [show fs = ⟨#[68, 65]⟩ from fsq rfl] at done ⊢
    exact done (by decide) (Ev.congr (fun k => zD (by decide)) (insK_fin w0 rest code 21 2 (-1) (by decide) (form_DA w0 rest code 21 (by decide))))
   ·rw [show fs = ⟨#[68, 65]⟩ from fsq rfl] at done ⊢
    exact done (by decide) (Ev.congr (fun k => zD (by decide)) (insK_fin w0 rest code 22 2 (-1) (by decide) (form_DA w0 rest code 22 (by decide))))
   ·rw [text_of_none (.inl rfl)] at hof; cases hof
   ·rw [text_of_none (.inr ho)] at hof; cases hof
 have loop : ∀ (d i : Nat) (prev : Option (Int × ByteArray × ByteArray)) (x6 : Int), i + d = 23 → 1 ≤ i → (∀ r, prev = some r → isBy w0 code r.1 = some r ∧ x6 = r.1 ∧ r.1 < (i : Int)) → (prev = none → x6 = -1) →
  Ev (fun k => cubbyref08_ins.l0 k (w0 :: rest) code x6 (i : Int)) (insFlat (match prev.or (byFrom w0 code d (i : Int)) with | none => (80, zIns) | some (op, wd, fs) => insF rest op fs)) := by
  intro d
  induction d with
  | zero =>
   intro i prev x6 hd hi hp hn
   have e : prev.or (byFrom w0 code 0 (i : Int)) = prev := by cases prev <;> rfl
   rw [e]
   refine Ev.step (fun k => ?_) (tail x6 prev (fun op wd fs h => ?_) hn)
   ·simp only [cubbyref08_ins.l0]
    rw [zD (by omega)]
   ·obtain ⟨h1, h2, h3⟩ := hp _ h
    obtain ⟨q1, q2, q3, q4, q5⟩ := isBy_some h1
    exact ⟨h2, q4⟩
  | succ d ih =>
   intro i prev x6 hd hi hp hn
   have hx : rdOf ByteArray.empty (w0 :: rest) 0 = w0 := rfl
   have hw := wrap_nat (j := i) (by omega)
   have step : ∀ (x : Int) (r : Int × Int × Int × Int × ByteArray × List Int × Int), (if (wordR (i : Int) code).toList = w0.toList ∧ w0.toList ≠ [] then x = (i : Int) else x = x6) → Ev (fun k => cubbyref08_ins.l0 k (w0 :: rest) code x ((i + 1 : Nat) : Int)) r → Ev (fun k => cubbyref08_ins.l0 k (w0 :: rest) code x6 (i : Int)) r := fun x r hx2 he => by
    refine Ev.step (f := fun k => (cubbyref08_word.f k (i : Int) code).bind fun t227 => (if 0 < ((w0 :: rest).length : Int) then (if t227.toList = (rdOf ByteArray.empty (w0 :: rest) 0).toList then (if (rdOf ByteArray.empty (w0 :: rest) 0).toList = ([] : List UInt8) then (cubbyref08_ins.l0 k (w0 :: rest) code x6 (wrap64 ((i : Int) + 1))) else (cubbyref08_ins.l0 k (w0 :: rest) code (i : Int) (wrap64 ((i : Int) + 1)))) else (cubbyref08_ins.l0 k (w0 :: rest) code x6 (wrap64 ((i : Int) + 1)))) else (none))) (fun k => ?_) ?_
    ·simp only [cubbyref08_ins.l0]
     rw [zC (by omega)]
    ·refine Ev.bind (f := fun k t227 => (if 0 < ((w0 :: rest).length : Int) then (if t227.toList = (rdOf ByteArray.empty (w0 :: rest) 0).toList then (if (rdOf ByteArray.empty (w0 :: rest) 0).toList = ([] : List UInt8) then (cubbyref08_ins.l0 k (w0 :: rest) code x6 (wrap64 ((i : Int) + 1))) else (cubbyref08_ins.l0 k (w0 :: rest) code (i : Int) (wrap64 ((i : Int) + 1)))) else (cubbyref08_ins.l0 k (w0 :: rest) code x6 (wrap64 ((i : Int) + 1)))) else (none))) (word_ev (i : Int) code) ?_
     refine Ev.congr (fun k => ?_) he
     rw [zC (by first | (simp; done) | (simp; omega)), hx, hw]
     by_cases c1 : (wordR (i : Int) code).toList = w0.toList
     ·rw [zC c1]
      by_cases c2 : w0.toList = []
      ·rw [zC c2]
       rw [zD (fun h => h.2 c2)] at hx2
       rw [hx2]
      ·rw [zD c2]
       rw [zC ⟨c1, c2⟩] at hx2
       rw [hx2]
     ·rw [zD c1]
      rw [zD (fun h => c1 h.1)] at hx2
      rw [hx2]
   cases hby : isBy w0 code (i : Int) with
   | some r =>
    obtain ⟨q1, q2, q3, q4, q5⟩ := isBy_some hby
    have hpn : prev = none := by
     cases hprev : prev with
     | none => rfl
     | some r' =>
      obtain ⟨h1, h2, h3⟩ := hp _ hprev
      have := (isBy_some h1).2.1
      omega
    subst hpn
    have hb : byFrom w0 code (d + 1) (i : Int) = some r := by unfold byFrom; rw [hby]
    rw [Option.none_or, hb]
    refine step (i : Int) _ (by rw [zC ⟨q5, q3⟩]) ?_
    exact ih (i + 1) (some r) (i : Int) (by omega) (by omega) (fun r' h => by cases h; exact ⟨by rw [q1]; exact hby, q1.symm, by omega⟩) (fun h => by cases h)
   | none =>
    have hb : byFrom w0 code (d + 1) (i : Int) = byFrom w0 code d ((i + 1 : Nat) : Int) := by
     show (match isBy w0 code (i : Int) with | some r => some r | none => byFrom w0 code d ((i : Int) + 1)) = _
     rw [hby]
     rfl
    rw [hb]
    refine step x6 _ (by rw [zD (isBy_none hby)]) ?_
    exact ih (i + 1) prev x6 (by omega) (by omega) (fun r h => by obtain ⟨h1, h2, h3⟩ := hp r h; exact ⟨h1, h2, by omega⟩) hn
 have h := loop 22 1 none (-1) rfl (by decide) (fun r h => by cases h) (fun _ => rfl)
 have e : byOf w0 code = byFrom w0 code 22 ((1 : Nat) : Int) := by
  have h0 : isBy w0 code 0 = none := isBy_false (o := 0) (w1 := emp) (fs := emp) (text_of_none (.inl rfl))
  show (match isBy w0 code 0 with | some r => some r | none => byFrom w0 code 22 (0 + 1)) = _
  rw [h0]
  rfl
 have e2 : insR (w0 :: rest) code = (match (none : Option (Int × ByteArray × ByteArray)).or (byFrom w0 code 22 ((1 : Nat) : Int)) with | none => (80, zIns) | some (op, wd, fs) => insF rest op fs) := by
  show (match byOf w0 code with | none => (80, zIns) | some (op, wd, fs) => insF rest op fs) = _
  rw [e]
  rfl
 rw [e2]
 exact h
theorem top_first {s : PS} {w0 : ByteArray} {rest : List ByteArray} (h : ¬ w0.toList = s.first.toList) : topP s (w0 :: rest) = (80, s) := by
 unfold topP
 split
 ·next a b r he =>
  cases he
  rw [zD (fun hc => h hc.1)]
 ·rfl
theorem top_read {s : PS} {w0 : ByteArray} {rest : List ByteArray} (h : w0.toList = s.first.toList) (hh : 1 ≤ s.heads) :
 readW (w0 :: rest) (s.heads.toNat + 1) 0 = if (topP s (w0 :: rest)).1 = 0 then ((topP s (w0 :: rest)).2.head, (topP s (w0 :: rest)).2.name, 0) else ([], ⟨#[]⟩, (topP s (w0 :: rest)).1) := by
 cases rest with
 | nil =>
  unfold readW topP
  rw [zD (by simp)]
  rfl
 | cons w1 r =>
  by_cases hl : ((r.length + 2 : Nat) : Int) = s.heads + 2
  ·unfold readW
   rw [zC (by simp only [List.length_cons]; omega), List.drop_one, List.tail_cons, readL_name 0 0 w1 r [] ⟨#[]⟩ rfl]
   by_cases hn : nameOk w1 = true
   ·rw [zC hn, readL_nums _ _ _ _ _ (by decide)]
    cases hm : r.mapM numOf with
    | none =>
     have e : topP s (w0 :: w1 :: r) = (81, s) := (zC ⟨h, hl, hn⟩).trans (by rw [hm])
     rw [e]
     rfl
    | some l =>
     have e : topP s (w0 :: w1 :: r) = (0, { s with name := w1, head := l }) := (zC ⟨h, hl, hn⟩).trans (by rw [hm])
     rw [e]
     simp
   ·rw [zD hn]
    have e : topP s (w0 :: w1 :: r) = (80, s) := zD (fun hc => hn hc.2.2)
    rw [e]
    rfl
  ·unfold readW
   rw [zD (by simp only [List.length_cons]; omega)]
   have e : topP s (w0 :: w1 :: r) = (80, s) := zD (fun hc => hl hc.2.1)
   rw [e]
   rfl
end Go.Proofs.YtniknpjeknmpjaaDoor.PlainText
namespace Go.Proofs.YtniknpjeknmpjaaDoor.Q
open Go.RowKit Go.Shelf Go.Proofs.YtniknpjeknmpjaaDoor.Plain Go.Proofs.YtniknpjeknmpjaaDoor.PlainName Go.Proofs.YtniknpjeknmpjaaDoor.PlainNum Go.Proofs.YtniknpjeknmpjaaDoor.PlainText Go.Proofs.YtniknpjeknmpjaaDoorW.PrintWords Go.Proofs.YtniknpjeknmpjaaDoorW.PrintLast Go.Proofs.YtniknpjeknmpjaaDoorW.PrintMore
set_option linter.unusedVariables false
set_option linter.unusedSimpArgs false
theorem indexByte_first : ∀ (l : List UInt8) (b : UInt8) (e : Nat), l[e]? = some b → (∀ j, j < e → l[j]? ≠ some b) → Lib.indexByte l b = (e : Int)
 | [], b, e, h, _ => by simp at h
 | c :: l, b, e, h, hn => by
  unfold Lib.indexByte
  by_cases hc : c = b
  ·rw [zC (by simpa using hc)]
   cases e with
   | zero => rfl
   | succ e => exact absurd (show (c :: l)[0]? = some b by simp [hc]) (hn 0 (by omega))
  ·rw [zD (by simpa using hc)]
   cases e with
   | zero => simp at h; exact absurd h hc
   | succ e =>
    have := indexByte_first l b e (by simpa using h) (fun j hj => by have := hn (j + 1) (by omega); simpa using this)
    rw [this, zD (by first | (simp; done) | (simp; omega))]
    omega
theorem indexByte_none : ∀ (l : List UInt8) (b : UInt8), (∀ j : Nat, l[j]? ≠ some b) → Lib.indexByte l b = -1
 | [], b, _ => rfl
 | c :: l, b, hn => by
  unfold Lib.indexByte
  have hc : ¬ c = b := fun h => hn 0 (by simp [h])
  rw [zD (by simpa using hc)]
  have := indexByte_none l b (fun j => by have := hn (j + 1); simpa using this)
  rw [this]
  rfl
theorem cut_found {s : ByteArray} {e : Nat} (h : s.data.toList[e]? = some 10) (hn : ∀ j, j < e → s.data.toList[j]? ≠ some 10) : wholeB (cutB s).1 = true ∧ trimB (cutB s).1 = s.extract 0 e ∧ (cutB s).2 = s.extract (e + 1) s.size := by
 have hi := indexByte_first _ _ _ h hn
 rw [cutB_pos hi]
 have hlt : e < s.data.toList.length := (List.getElem?_eq_some_iff.1 h).1
 have hg : s.data.toList[e] = 10 := (List.getElem?_eq_some_iff.1 h).2
 have hd : (s.extract 0 (e + 1)).data.toList = s.data.toList.take e ++ [10] := by
  rw [ByteArray.data_extract, Array.toList_extract, List.extract_eq_take_drop, List.drop_zero, Nat.sub_zero, List.take_succ_eq_append_getElem hlt, hg]
 refine ⟨?_, ?_, rfl⟩
 ·show Lib.hasSuffix (s.extract 0 (e + 1)).data.toList [10] = true
  rw [hd]
  unfold Lib.hasSuffix
  exact List.isSuffixOf_iff_suffix.2 ⟨_, rfl⟩
 ·apply ba_ext
  show (Lib.trimSuffix (s.extract 0 (e + 1)).data.toList [10]).toArray.toList = _
  rw [hd, List.toList_toArray, ByteArray.data_extract, Array.toList_extract, List.extract_eq_take_drop, List.drop_zero, Nat.sub_zero]
  unfold Lib.trimSuffix Lib.hasSuffix
  rw [zC (List.isSuffixOf_iff_suffix.2 ⟨_, rfl⟩)]
  simp
theorem cut_none {s : ByteArray} (hn : ∀ j : Nat, s.data.toList[j]? ≠ some 10) : wholeB (cutB s).1 = false := by
 have hi := indexByte_none _ _ hn
 rw [cutB_neg (by rw [hi]; decide)]
 show Lib.hasSuffix s.data.toList [10] = false
 unfold Lib.hasSuffix
 rw [← Bool.not_eq_true]
 intro h
 obtain ⟨t, ht⟩ := List.isSuffixOf_iff_suffix.1 h
 exact hn t.length (by rw [← ht]; simp)
theorem refwords_calls (s : ByteArray) (w : World) (hs : s.size ≤ 90000) : Calls Tryd.prog 43 #[.string s] w fun e w' => ∃ v0_ : Value, e = .returned (v0_) ∧ Kd.R Kd.string 9 w' w.heap.size (fun _ => True) v0_ (wordsOf s) ∧ Below w.heap.size w w' := by
 obtain ⟨k, hk⟩ := Ev.rounds (refwords_ev s (by omega))
 exact cubbyref08_words.calls k s _ w hk
theorem refread_calls (st : PS) (w0 : ByteArray) (rest : List ByteArray) (hf : w0.toList = st.first.toList) (hh : 1 ≤ st.heads ∧ st.heads ≤ 100) (A : Option Addr) (c : Nat) (w : World) (hr0 : Kd.C Kd.string w A (w0 :: rest).length (w0 :: rest)) (hc0 : (w0 :: rest).length ≤ c) (m : Int) (hm : m = st.heads + 1) :
 Calls Tryd.prog 44 #[.slice A (w0 :: rest).length c, .int .i64 m, .int .i64 0] w fun e w' => ∃ v0_ : Value, e = .returned (.tuple #[v0_, .string (if (topP st (w0 :: rest)).1 = 0 then (topP st (w0 :: rest)).2.name else ⟨#[]⟩), .int .i64 (topP st (w0 :: rest)).1]) ∧ Kd.R (Kd.int .i64) 3 w' w.heap.size (fun _ => True) v0_ (if (topP st (w0 :: rest)).1 = 0 then (topP st (w0 :: rest)).2.head else []) ∧ Below w.heap.size w w' := by
 have he := read_ev (w0 :: rest) (st.heads.toNat + 1) 0 (by omega)
 rw [top_read hf hh.1, show ((st.heads.toNat + 1 : Nat) : Int) = m by omega] at he
 obtain ⟨k, hk⟩ := Ev.rounds he
 by_cases h0 : (topP st (w0 :: rest)).1 = 0
 ·rw [zC h0] at hk
  rw [zC h0, zC h0, h0]
  exact cubbyref08_read.calls k A c (w0 :: rest) m 0 _ _ _ w hr0 hc0 hk
 ·rw [zD h0] at hk
  rw [zD h0, zD h0]
  exact cubbyref08_read.calls k A c (w0 :: rest) m 0 _ _ _ w hr0 hc0 hk
theorem refins_calls (w0 : ByteArray) (rest : List ByteArray) (code : Bool) (hr : rest.length ≤ 95000) (A : Option Addr) (c : Nat) (w : World) (hr0 : Kd.C Kd.string w A (w0 :: rest).length (w0 :: rest)) (hc0 : (w0 :: rest).length ≤ c) (r : Int × SIns) (hri : r = insR (w0 :: rest) code) :
 Calls Tryd.prog 45 #[.slice A (w0 :: rest).length c, .bool code] w fun e w' => ∃ v5_ : Value, e = .returned (.tuple #[.agg #[.int .i64 r.2.f0, .int .i64 r.2.f1, .int .i64 r.2.f2, .int .i64 r.2.f3, .string r.2.f4, v5_], .int .i64 r.1]) ∧ Kd.R (Kd.int .i64) 3 w' w.heap.size (fun _ => True) v5_ r.2.f5 ∧ Below w.heap.size w w' := by
 obtain ⟨k, hk⟩ := Ev.rounds (ins_ev w0 rest code hr)
 rw [← hri] at hk
 exact cubbyref08_ins.calls k A c (w0 :: rest) code _ _ _ _ _ _ _ w hr0 hc0 hk
end Go.Proofs.YtniknpjeknmpjaaDoor.Q
namespace Go.Proofs.YtniknpjeknmpjaaDoor.Q
open Go.RowKit Go.Shelf Go.Proofs.YtniknpjeknmpjaaDoor.Plain Go.Proofs.YtniknpjeknmpjaaDoor.PlainName Go.Proofs.YtniknpjeknmpjaaDoor.PlainNum Go.Proofs.YtniknpjeknmpjaaDoor.PlainText Go.Proofs.YtniknpjeknmpjaaDoorW.PrintWords Go.Proofs.YtniknpjeknmpjaaDoorW.PrintLast Go.Proofs.YtniknpjeknmpjaaDoorW.PrintMore
set_option linter.unusedVariables false
set_option linter.unusedSimpArgs false
attribute [local go_sem] Oper.semAt_some
structure RP (w0 : World) (n : Nat) (st : PS) (vh vb : Value) (w : World) : Prop where
 hr : Kd.R (Kd.int .i64) 3 w w0.heap.size (fun _ => True) vh st.head
 hs : Kd.S (Kd.slice 43 kIns) 29 w w0.heap.size (fun _ => True) vb st.blocks
 bl : Below w0.heap.size w0 w
 hh : 1 ≤ st.heads ∧ st.heads ≤ 100
 hb : st.blocks.length ≤ n
 hbb : ∀ b ∈ st.blocks, b.length ≤ n
theorem RP.below {w0 w w' : World} {n : Nat} {st : PS} {vh vb : Value} (h : RP w0 n st vh vb w) (hb : Below w.heap.size w w') : RP w0 n st vh vb w' :=
 ⟨Kd.R_below h.hr hb, Kd.S_below h.hs hb, below_step h.bl hb, h.hh, h.hb, h.hbb⟩
def outName (R : Int × Int × PS) : ByteArray := if R.2.1 = 0 then R.2.2.name else ⟨#[]⟩
def outHead (R : Int × Int × PS) : List Int := if R.2.1 = 0 then R.2.2.head else []
def outBlocks (R : Int × Int × PS) : List (List SIns) := if R.2.1 = 0 then R.2.2.blocks else []
theorem results_tmp5 {fn : Func} {t1 t2 t3 t4 t5 : Tmp} (h : fn.results = #[.tmp t1, .tmp t2, .tmp t3, .tmp t4, .tmp t5]) (tmps : Array Value) (P : Program) (w : World) :
 (results fn tmps).run P w = .ok (.tuple #[tmps.getD t1 undef, tmps.getD t2 undef, tmps.getD t3 undef, tmps.getD t4 undef, tmps.getD t5 undef]) w := by
 simp [results, h]
theorem toList_nil {s : ByteArray} : s.toList = [] ↔ s.size = 0 := by
 rw [toList_data]
 constructor
 ·intro h
  have : s.data.toList.length = s.size := by simp
  rw [← this, h]; rfl
 ·intro h
  exact List.eq_nil_of_length_eq_zero (by simpa using h)
theorem topP_code (s : PS) (ws : List ByteArray) : (topP s ws).2.code = s.code := by
 unfold topP
 repeat' split
 all_goals rfl
theorem topP_fst (s : PS) (ws : List ByteArray) : (topP s ws).2.first = s.first := by
 unfold topP
 repeat' split
 all_goals rfl
theorem byOf_block {w0 : ByteArray} {code : Bool} (h : w0.toList = [98, 108, 111, 99, 107]) : byOf w0 code = none := by
 cases hb : byOf w0 code with
 | none => rfl
 | some r =>
  obtain ⟨j, _, _, h3⟩ := byFrom_some hb
  obtain ⟨q1, q2, q3, q4, q5⟩ := isBy_some h3
  rw [toList_data] at h
  rw [h] at q2
  have : opWord [98, 108, 111, 99, 107] = 0 := by decide
  rw [this] at q2
  rw [q2, text_of_none (.inl rfl)] at q4
  simp at q4
theorem lineP_b1 (s : PS) {w0 : ByteArray} (b : ByteArray) (r : List ByteArray) (h : w0.toList = [98, 108, 111, 99, 107]) : lineP s (w0 :: b :: r) = (80, s) := by
 have e : ¬ (w0.toList = [98, 108, 111, 99, 107] ∧ b :: r = []) := fun h => by cases h.2
 unfold lineP
 simp only [zD e, byOf_block h]
theorem lineP_b0 (s : PS) {w0 : ByteArray} (h : w0.toList = [98, 108, 111, 99, 107]) : lineP s [w0] = (0, { s with blocks := s.blocks ++ [[]] }) := by
 have e : w0.toList = [98, 108, 111, 99, 107] ∧ ([] : List ByteArray) = [] := ⟨h, rfl⟩
 exact zC e
theorem lineP_b2 (s : PS) {w0 : ByteArray} (rest : List ByteArray) (h : ¬ w0.toList = [98, 108, 111, 99, 107]) (hb : s.blocks = []) : lineP s (w0 :: rest) = (80, s) := by
 have e : ¬ (w0.toList = [98, 108, 111, 99, 107] ∧ rest = []) := fun h2 => h h2.1
 unfold lineP
 simp only [zD e, zC hb]
 cases byOf w0 s.code <;> rfl
theorem eqnl (s : ByteArray) (n : Nat) (h : s.size ≠ 0 ∨ n = 0) : ((s.toList == []) = true ∧ (s.toList != []) = false ∧ n = 0) ∨ ((s.toList == []) = false ∧ (s.toList != []) = true ∧ ¬ s.size = 0) := by
 by_cases hz : s.size = 0
 ·exact .inl ⟨by simpa using toList_nil.2 hz, by simpa using toList_nil.2 hz, h.resolve_left (fun e => e hz)⟩
 ·have : ¬ s.toList = [] := fun e => hz (toList_nil.1 e)
  exact .inr ⟨by simpa using this, by simpa using this, hz⟩
def refparse.T20 : Bool × List (List Nat × List Nat) := (true, [([], []), ([], []), ([], []), ([], []), ([2, 3], [2, 3]), ([4], [4]), ([], []), ([6], [6]), ([5, 7], [5, 7]), ([0, 1, 0, 1, 2, 3, 4, 5, 6, 7, 8], [0, 1]), ([9, 8, 8, 0, 1, 2, 3, 4, 5, 6, 7, 8], [8, 9])])
def refparse.B20 : List Nat := [0, 0, 0, 0, 12, 28, 0, 64, 252, 511, 1023]
theorem refparse.tab20 : rtab .any (opsOf Tryd.f23 20) = refparse.T20 := by kernel_rfl
theorem refparse.bits20 : waitsOk refparse.T20.2 refparse.B20 = true := by kernel_rfl
set_option maxHeartbeats 8000000 in
set_option maxRecDepth 100000 in
theorem refparse_calls (st0 : PS) (hh0 : st0.head = []) (hb0 : st0.blocks = []) (hn0 : st0.name = ⟨#[]⟩) (hhd0 : 1 ≤ st0.heads ∧ st0.heads ≤ 100) (s0 : ByteArray) (hsz0 : s0.size ≤ 90000) (many : Int) (hm : many = st0.heads + 1) (w : World) :
 Calls Tryd.prog 23 #[.string s0, .string st0.first, .int .i64 many, .bool st0.code] w fun e w' => ∃ v1 v2 : Value, e = .returned (.tuple #[.string (outName (parseAll st0 s0)), v1, v2, .int .i64 (parseAll st0 s0).1, .int .i64 (parseAll st0 s0).2.1]) ∧ Kd.R (Kd.int .i64) 3 w' w.heap.size (fun _ => True) v1 (outHead (parseAll st0 s0)) ∧ Kd.S (Kd.slice 43 kIns) 29 w' w.heap.size (fun _ => True) v2 (outBlocks (parseAll st0 s0)) ∧ Below w.heap.size w w' := by
 obtain ⟨R, hR⟩ : ∃ R, R = parseAll st0 s0 := ⟨_, rfl⟩
 rw [← hR]
 have HR := zA hR
 clear hR
 have HB := zA (Below.refl w.heap.size w)
 go_enter Tryd.func23, Tryd.ntmps23
 go_wp2_with (first
  | ((with_reducible refine gate_dst (N := 25) rfl ?_); refine Kd.R_lit (Kd.int .i64) _ 3 (by rfl) (N := 25) (by rfl) (xs := ([] : List Int)) (inner := []) (ok := fun _ => True) (okp := fun _ => True) ?hr ?hp (fun _ hk => hk) trivial (Below.refl _ _) (Nat.le_refl _) (by simp) ?_; (case hr => go_simp <;> rfl); (case hp => exact (Reps.none _ _)); intro v25 w2 ho hb hg_ hnew_; clear hg_ hnew_; have HH := zA (Kd.R_lower ho HB.out.size); replace HB := zA (below_step HB.out hb); clear ho hb)
  | ((with_reducible refine gate_dst (N := 26) rfl ?_); refine Kd.S_lit (Kd.slice 43 kIns) _ 29 (by rfl) (N := 26) (by rfl) (xs := ([] : List (List SIns))) (inner := []) (ok := fun _ => True) (okp := fun _ => True) ?hr ?hp (fun _ hk => hk) trivial (Below.refl _ _) (Nat.le_refl _) (by simp) ?_; (case hr => go_simp <;> rfl); (case hp => exact (Reps.none _ _)); intro v26 w3 ho hb hg_ hnew_; clear hg_ hnew_; have HBl := zA (Kd.S_lower ho HB.out.size); replace HH := zA (Kd.R_below HH.out hb); replace HB := zA (below_step HB.out hb); clear ho hb))
 have HP := zA (show RP w 0 st0 v25 v26 _ from ⟨by rw [hh0]; exact HH.out, by rw [hb0]; exact HBl.out, HB.out, hhd0, by rw [hb0]; exact Nat.le_refl _, by rw [hb0]; intro b hb; cases hb⟩)
 have HRR := zA (show R = if s0.size = 0 ∧ (0 : Nat) = 0 then (1, 80, st0) else parseR (s0.size + 1) 0 st0 s0 by
  rw [HR.out]; unfold parseAll
  by_cases h : s0.size = 0
  ·rw [zC h, zC ⟨h, rfl⟩]
  ·rw [zD h, zD (fun e => h e.1)])
 have HN0 := zA hn0
 clear hh0 hb0 HH HBl HB HR hn0 hhd0
 go_loopg [0, 13, 14, 15, 16] s0.size (fun kq v0 v13 v14 v15 v16 w' => ∃ (n : Nat) (st : PS) (s : ByteArray) (k : Nat), v0 = .string s ∧ v13 = .string st.name ∧ v16 = .int .i64 (n : Int) ∧ Aside0 (kq = s.size) ∧ Aside0 (RP w n st v14 v15 w') ∧ Aside0 (R = if s.size = 0 ∧ n = 0 then (1, 80, st) else parseR (k + 1) n st s) ∧ Aside0 (s.size ≤ k ∧ n + s.size ≤ 90000) ∧ Aside0 (st.code = st0.code ∧ st.first = st0.first ∧ st.heads = st0.heads))
 case atStart => exact ⟨0, st0, s0, s0.size, rfl, by rw [HN0.out], by first | rfl | simp, ⟨rfl⟩, HP, HRR, ⟨Nat.le_refl _, by omega⟩, ⟨rfl, rfl, rfl⟩⟩
 case round =>
  clear HP HRR
  obtain ⟨n, st, s, k, rfl, rfl, rfl, HQ, HP, HRR, HKs, HSt⟩ := hrel
  obtain ⟨ks1, ks2⟩ := HKs.out
  have HK2 := zA ks1
  clear ks1
  by_cases cE : s.size = 0 ∧ n ≠ 0
  ·have c1a : (s.toList == []) = true := by simpa using toList_nil.2 cE.1
   have c1b : (s.toList != []) = false := by simpa using toList_nil.2 cE.1
   have n1 : ((n : Int) == 0) = false := by simpa using cE.2
   have n2 : decide ((n : Int) = 0) = false := zG (by omega)
   have HRR2 := zA (show R = (0, 0, st) by
    rw [HRR.out, zD (fun h => cE.2 h.2)]
    unfold parseR
    rw [zC cE.1])
   clear cE
   go_wp2_with fail
   refine bodyPost_ret (results_tmp5 rfl _ _ _) rfl ?_
   rw [HRR2.out]
   exact ⟨_, _, rfl, HP.out.hr, HP.out.hs, HP.out.bl⟩
  ·have nw : (n : Int) ≤ 90000 := by omega
   have HCE := zA cE
   have go : s.size ≠ 0 ∨ n = 0 := by
    by_cases h : s.size = 0
    ·exact .inr (Classical.byContradiction fun hn => cE ⟨h, hn⟩)
    ·exact .inl h
   have HGO := zA go
   clear cE
   have HNO : Aside0 (∀ j, j < 0 → s.data.toList[j]? ≠ some 10) := ⟨fun j hj => absurd hj (Nat.not_lt_zero j)⟩
   have inner : ∀ b : Bool, b = (s.toList != []) → True := fun _ _ => trivial
   clear go
   have fin80 : ∀ {c : Int} {W : World}, R = (c, 80, st) → Below w.heap.size w W → ∃ v1 v2 : Value, Ending.returned (.tuple #[.string ⟨#[]⟩, .slice none 0 0, .slice none 0 0, .int .i64 c, .int .i64 80]) = Ending.returned (.tuple #[.string (outName R), v1, v2, .int .i64 R.1, .int .i64 R.2.1]) ∧ Kd.R (Kd.int .i64) 3 W w.heap.size (fun _ => True) v1 (outHead R) ∧ Kd.S (Kd.slice 43 kIns) 29 W w.heap.size (fun _ => True) v2 (outBlocks R) ∧ Below w.heap.size w W := fun {c W} h hb => by
    rw [h]
    exact ⟨_, _, rfl, Kd.R_nil _ _ _ _ _, Kd.S_nil _ _ _ _ _, hb⟩
   have finE : ∀ {c E : Int} {st' : PS} {W : World}, ¬ E = 0 → R = (c, E, st') → Below w.heap.size w W → ∃ v1 v2 : Value, Ending.returned (.tuple #[.string ⟨#[]⟩, .slice none 0 0, .slice none 0 0, .int .i64 c, .int .i64 E]) = Ending.returned (.tuple #[.string (outName R), v1, v2, .int .i64 R.1, .int .i64 R.2.1]) ∧ Kd.R (Kd.int .i64) 3 W w.heap.size (fun _ => True) v1 (outHead R) ∧ Kd.S (Kd.slice 43 kIns) 29 W w.heap.size (fun _ => True) v2 (outBlocks R) ∧ Below w.heap.size w W := fun {c E st' W} he h hb => by
    rw [h, show outName (c, E, st') = ⟨#[]⟩ from zD he, show outHead (c, E, st') = [] from zD he, show outBlocks (c, E, st') = [] from zD he]
    exact ⟨_, _, rfl, Kd.R_nil _ _ _ _ _, Kd.S_nil _ _ _ _ _, hb⟩
   have HFE := zA @finE
   clear finE
   have HF := zA @fin80
   clear fin80 inner
   have key : ∀ (W : World), True := fun _ => trivial
   clear key
   rcases eqnl s n HGO.out with ⟨c0a, c0b, cn⟩ | ⟨c0a, c0b, hz⟩
   ·subst cn
    have h1 : s.toList = [] := by simpa using c0a
    have hz : s.size = 0 := toList_nil.1 h1
    clear h1
    have HZ := zA (show R = (1, 80, st) by rw [HRR.out, zC ⟨hz, rfl⟩])
    go_wp2_with fail
    go_loopg [17] 0 (fun kq v17 w' => v17 = .int .i64 0 ∧ Aside0 (kq = 0) ∧ Aside0 (RP w 0 st u14 u15 w'))
    case atStart => exact ⟨rfl, ⟨rfl⟩, HP⟩
    case round =>
     clear HP
     obtain ⟨rfl, HK, HP⟩ := hrel
     go_wp2_with fail
     refine bodyPost_ret (results_tmp5 rfl _ _ _) rfl ?_
     exact HF.out HZ.out HP.out.bl
   ·have HZ := zA hz
    go_wp2_with fail
    go_loopg [17] s.size (fun kq v17 w' => ∃ e : Nat, v17 = .int .i64 (e : Int) ∧ Aside0 (kq + e = s.size) ∧ Aside0 (∀ j, j < e → s.data.toList[j]? ≠ some 10) ∧ Aside0 (RP w n st u14 u15 w'))
    case atStart => exact ⟨0, by first | rfl | simp, ⟨rfl⟩, HNO, HP⟩
    case round =>
     clear HP HNO
     obtain ⟨e, rfl, HK, HN, HP⟩ := hrel
     have hsl : s.data.toList.length = s.size := by simp
     have HSl := zA hsl
     clear hsl
     cases gk with
     | zero =>
      have he : e = s.size := by have := HK.out; omega
      have HRR2 := zA (show R = ((n : Int) + 1, 80, st) by
       rw [HRR.out, zD (fun h => HZ.out h.1)]
       unfold parseR
       have hw : wholeB (cutB s).1 = false := cut_none (fun j h => by
        by_cases hj : j < e
        ·exact HN.out j hj h
        ·have := (List.getElem?_eq_some_iff.1 h).1
         have := HSl.out
         omega)
       have hst : stepP n st (cutB s).1 = (80, st) := by unfold stepP; rw [zC hw]
       rw [zD HZ.out, hst]
       exact (zD (show ¬ (80 : Int) = 0 by decide)).trans (by simp))
      subst he
      have d1 := zG (show ¬ ((s.size : Int) < (s.size : Int)) by omega)
      go_wp2_with fail
      refine bodyPost_ret (results_tmp5 rfl _ _ _) rfl ?_
      exact HF.out HRR2.out HP.out.bl
     | succ k1 =>
      have hes : e < s.size := by have := HK.out; omega
      have d1 := zF (show ((e : Int) < (s.size : Int)) by omega)
      have p1 := eq_true (show (0 : Int) ≤ (e : Int) by omega)
      have q1 := eq_true (show ((e : Int) < (s.size : Int)) by omega)
      have hx : ∀ h : e < s.size, ((s[e]'h).toNat : Int) = bt s (e : Int) := fun h => bt_at s (e : Int) h
      by_cases c1 : bt s (e : Int) = 10
      ·obtain ⟨c1a, c1b⟩ := qe c1
       have hge : s.data.toList[e]? = some 10 := by
        have hl : e < s.data.toList.length := by have := HSl.out; omega
        rw [PlainNum.bt_get hl] at c1
        rw [List.getElem?_eq_getElem hl]
        congr 1
        have h10 : (10 : UInt8).toNat = 10 := rfl
        refine UInt8.toNat_inj.1 ?_
        omega
       obtain ⟨hw, ht, h2⟩ := cut_found hge HN.out
       obtain ⟨ws, hws⟩ : ∃ ws, ws = wordsOf (s.extract 0 e) := ⟨_, rfl⟩
       obtain ⟨w0d, rest, hwr⟩ : ∃ a l, ws = a :: l := by
        cases hq : ws with
        | nil => exact absurd (hws.symm.trans hq) (wordsOf_ne _)
        | cons a l => exact ⟨a, l, rfl⟩
       have hlen : rest.length ≤ 90000 := by
        have h1 := splitB_lenle (s.extract 0 e)
        rw [← hws, hwr] at h1
        simp only [List.length_cons, ByteArray.size_extract] at h1
        omega
       have hstep : stepP n st (cutB s).1 = if n = 0 then topP st (w0d :: rest) else lineP st (w0d :: rest) := by
        unfold stepP
        rw [zD (by rw [hw]; decide), ht, ← hws, hwr]
       obtain ⟨k', hk'⟩ : ∃ k', k = k' + 1 := ⟨k - 1, by have := HK2.out; omega⟩
       have HRS := zA (show R = if (stepP n st (cutB s).1).1 = 0 then parseR (k' + 1) (n + 1) (stepP n st (cutB s).1).2 (s.extract (e + 1) s.size) else ((n : Int) + 1, (stepP n st (cutB s).1).1, st) by
        rw [HRR.out, zD (fun h => HZ.out h.1)]
        conv => lhs; unfold parseR
        rw [zD HZ.out, h2, hk']
        rfl)
       rw [hstep] at HRS
       have HWS := zA (hws.symm.trans hwr)
       have HKK := zA hk'
       have HSK := zA (show (stepP n st (cutB s).1).2.heads = st.heads ∧ (stepP n st (cutB s).1).2.blocks.length ≤ n + 1 ∧ ∀ b ∈ (stepP n st (cutB s).1).2.blocks, b.length ≤ n + 1 from stepP_keep n st (cutB s).1 HP.out.hb HP.out.hbb)
       rw [hstep] at HSK
       clear hge hw ht h2 hws hwr hstep hk'
       have HSE := zA (show (s.extract 0 e).size ≤ 90000 by simp only [ByteArray.size_extract]; omega)
       have hs2 : (s.extract (e + 1) s.size).size = s.size - (e + 1) := by simp only [ByteArray.size_extract]; omega
       have HS2 := zA hs2
       clear hs2
       have NX := zA HSt.out
       obtain ⟨q1, q2, q3⟩ := HSt.out
       by_cases cn : n = 0
       ·have CN := zA cn
        have n1a := zF (show (n : Int) + 1 = 1 by omega)
        have n1b : ((n : Int) + 1 == 1) = true := by rw [cn]; rfl
        rw [zC cn] at HRS HSK
        clear cn q1 q2 q3
        by_cases cf : w0d.toList = st0.first.toList
        ·obtain ⟨cfa, cfb⟩ := qe cf
         have CF := zA cf
         clear cf
         obtain ⟨T, hT⟩ : ∃ T, T = topP st (w0d :: rest) := ⟨_, rfl⟩
         rw [← hT] at HRS HSK
         have HTe := zA hT
         clear hT
         go_wp2_with (first
          | (go_at_call 43; refine (refwords_calls (s.extract 0 e) _ HSE.out).mono ?_; rintro e1 w2 ⟨v18, rfl, hv, hb⟩
             obtain ⟨Aw, cw, rfl⟩ := Kd.R_slice hv
             obtain ⟨_, hcw, hC⟩ := Kd.R_reads' hv
             rw [HWS.out] at hC hcw ⊢
             obtain ⟨ad, rfl, hx0⟩ := Kd.at_string hC 0 (by decide) (by first | (simp; done) | (simp; omega))
             have hx0 : w2.cell? ad = some (.string w0d) := hx0
             have HC := zA hC
             have HCW := zA hcw
             replace HP := zA (HP.out.below hb)
             clear hv hb hC hcw)
          | (go_at_call 44; refine (refread_calls st w0d rest (by rw [NX.out.2.1]; exact CF.out) HP.out.hh (some ad) cw _ HC.out HCW.out _ (by rw [NX.out.2.2])).mono ?_; rintro e2 w3 ⟨v19, rfl, hv, hb⟩
             rw [← HTe.out] at hv ⊢
             have HV := zA (Kd.R_lower hv HP.out.bl.size)
             replace HP := zA (HP.out.below hb)
             clear hv hb
             rcases eqne T.1 with ⟨e0, e0a⟩ | ⟨e0, e0a, e0b, e0c⟩))
         ·go_roundg (s.extract (e + 1) s.size).size
          case measure => have := HQ.out; have := HS2.out; omega
          case rel =>
           have hb1 : T.2.blocks = st.blocks := by rw [HTe.out]; exact (topP_keep st _).2
           have hv := HV.out
           rw [zC e0] at hv
           have hR := HRS.out
           rw [zC e0] at hR
           refine ⟨n + 1, T.2, s.extract (e + 1) s.size, k', rfl, rfl, by go_num, ⟨rfl⟩, ⟨hv, by rw [hb1]; exact HP.out.hs, HP.out.bl, by rw [HSK.out.1]; exact HP.out.hh, HSK.out.2.1, HSK.out.2.2⟩, ⟨?_⟩, ⟨?_, ?_⟩, ⟨?_, ?_, ?_⟩⟩
           ·rw [zD (fun h => Nat.succ_ne_zero n h.2)]; exact hR
           ·have := HS2.out; have := HK2.out; have := HKK.out; omega
           ·have := HS2.out; omega
           ·exact ((show T.2.code = st.code by rw [HTe.out]; exact topP_code st _).trans NX.out.1)
           ·exact ((show T.2.first = st.first by rw [HTe.out]; exact topP_fst st _).trans NX.out.2.1)
           ·exact HSK.out.1.trans NX.out.2.2
         ·refine bodyPost_ret (results_tmp5 rfl _ _ _) rfl ?_
          refine HFE.out (st' := st) e0 ?_ HP.out.bl
          rw [HRS.out]
          exact zD e0
        ·obtain ⟨cfa, cfb⟩ := qn cf
         have HT := zA (show R = ((n : Int) + 1, 80, st) by
          have := top_first (s := st) (w0 := w0d) (rest := rest) (by rw [NX.out.2.1]; exact cf)
          rw [HRS.out, this]
          exact zD (show ¬ (80 : Int) = 0 by decide))
         clear cf
         go_wp2_with (first
          | (go_at_call 43; refine (refwords_calls (s.extract 0 e) _ HSE.out).mono ?_; rintro e1 w2 ⟨v18, rfl, hv, hb⟩
             obtain ⟨Aw, cw, rfl⟩ := Kd.R_slice hv
             obtain ⟨_, hcw, hC⟩ := Kd.R_reads' hv
             rw [HWS.out] at hC hcw ⊢
             obtain ⟨ad, rfl, hx0⟩ := Kd.at_string hC 0 (by decide) (by first | (simp; done) | (simp; omega))
             have hx0 : w2.cell? ad = some (.string w0d) := hx0
             have HC := zA hC
             have HCW := zA hcw
             replace HP := zA (HP.out.below hb)
             clear hv hb hC hcw))
         refine bodyPost_ret (results_tmp5 rfl _ _ _) rfl ?_
         exact HF.out HT.out HP.out.bl
       ·have CN := zA cn
        have n1a := zG (show ¬ (n : Int) + 1 = 1 by omega)
        have n1b : ((n : Int) + 1 == 1) = false := by simp; omega
        rw [zD cn] at HRS HSK
        clear cn q1 q2 q3
        obtain ⟨Ab, cbk, eb⟩ := Kd.R_slice (Kd.S_R HP.out.hs)
        subst eb
        have hbl : st.blocks.length ≤ 90000 := by have := HP.out.hb; omega
        by_cases cb : w0d.toList = [98, 108, 111, 99, 107]
        ·obtain ⟨cba, cbb⟩ := qe cb
         have CB := zA cb
         clear cb
         cases rest with
         | cons b r =>
          have l1 : (((b :: r).length : Int) + 1 == 1) = false := by simp; omega
          have l2 : (((b :: r).length : Int) + 1 != 1) = true := by simp; omega
          have l3 := zG (show ¬ ((b :: r).length : Int) + 1 = 1 by simp; omega)
          have HT := zA (show R = ((n : Int) + 1, 80, st) by
           have := lineP_b1 st b r CB.out
           rw [HRS.out, this]
           exact zD (show ¬ (80 : Int) = 0 by decide))
          go_wp2_with (first
           | (go_at_call 43; refine (refwords_calls (s.extract 0 e) _ HSE.out).mono ?_; rintro e1 w2 ⟨v18, rfl, hv, hb⟩
              obtain ⟨Aw, cw, rfl⟩ := Kd.R_slice hv
              obtain ⟨_, hcw, hC⟩ := Kd.R_reads' hv
              rw [HWS.out] at hC hcw ⊢
              obtain ⟨ad, rfl, hx0⟩ := Kd.at_string hC 0 (by decide) (by first | (simp; done) | (simp; omega))
              have hx0 : w2.cell? ad = some (.string w0d) := hx0
              have HC := zA hC
              have HCW := zA hcw
              replace HP := zA (HP.out.below hb)
              clear hv hb hC hcw))
          refine bodyPost_ret (results_tmp5 rfl _ _ _) rfl ?_
          exact HF.out HT.out HP.out.bl
         | nil =>
          have HT : Aside0 (lineP st [w0d] = (0, { st with blocks := st.blocks ++ [[]] })) := ⟨lineP_b0 st CB.out⟩
          go_wp2_with (first
           | (go_at_call 43; refine (refwords_calls (s.extract 0 e) _ HSE.out).mono ?_; rintro e1 w2 ⟨v18, rfl, hv, hb⟩
              obtain ⟨Aw, cw, rfl⟩ := Kd.R_slice hv
              obtain ⟨_, hcw, hC⟩ := Kd.R_reads' hv
              rw [HWS.out] at hC hcw ⊢
              obtain ⟨ad, rfl, hx0⟩ := Kd.at_string hC 0 (by decide) (by first | (simp; done) | (simp; omega))
              have hx0 : w2.cell? ad = some (.string w0d) := hx0
              have HC := zA hC
              have HCW := zA hcw
              replace HP := zA (HP.out.below hb)
              clear hv hb hC hcw)
           | ((with_reducible refine gate_dst (N := 119) rfl ?_); refine Kd.R_lit kIns _ 43 (by rfl) (N := 119) (by rfl) (xs := ([] : List SIns)) (inner := []) (ok := fun _ => True) (okp := fun _ => True) ?hr ?hp (fun _ hk => hk) trivial (Below.refl _ _) (Nat.le_refl _) (by simp) ?_; (case hr => go_simp <;> rfl); (case hp => exact Reps.none _ _); intro v119 w4 ho_ hb_ hg_ hnew_; obtain ⟨A119, c119, rfl⟩ := Kd.R_slice ho_; have HO := zA ho_; have HB1 := zA hb_; clear ho_ hb_ hg_ hnew_)
           | ((with_reducible refine gate_builtin (b := .append) (xs := #[.tmp 118, .tmp 120]) rfl ?_); at_builtin; (refine Kd.S_append (Kd.slice 43 kIns) (w0 := w) w.heap.size rfl (.tmp 118) (.tmp 120) 22 29 (.slice none 0 0) 24 rfl Tryd.underlying22 infoLIns rfl (by decide) (by omega) (.slice Ab st.blocks.length cbk) st.blocks [] [.slice A119 0 c119] (fun _ => True) (fun q => w2.heap.size ≤ q) rfl rfl ⟨_, rfl, Kd.R_lower (Kd.R_mono (Kd.R_bound HO.out) (fun q hq => hq.2.1)) HP.out.bl.size⟩ (fun q hq => ⟨trivial, fun e => by have := Kd.S_lt HP.out.hs q e.symm; omega⟩) (fun _ _ => trivial) (Kd.S_mono (Kd.S_old HP.out.hs HB1.out) (fun q hq => ⟨trivial, by omega⟩)) (below_step HP.out.bl HB1.out) (Nat.le_trans HP.out.bl.size HB1.out.size) ?aL ?_; (case aL => omega)); intro v121 w5 ho_ hb_ hg_ hat_; have HO2 := zA ho_; have HB2 := zA hb_; have HH2 := zA (show Kd.R (Kd.int .i64) 3 w5 w.heap.size (fun _ => True) u14 st.head from Kd.R_over' (Kd.R_below HP.out.hr HB1.out) (fun k hk => by obtain ⟨cs, h⟩ := Kd.S_typed HP.out.hs k hk; exact ⟨cs, blk_below h HB1.out⟩) (by decide) hg_); clear ho_ hb_ hg_ hat_))
          rw [HT.out] at HRS HSK
          go_roundg (s.extract (e + 1) s.size).size
          case measure => have := HQ.out; have := HS2.out; omega
          case rel =>
           have hR := HRS.out
           rw [zC rfl] at hR
           refine ⟨n + 1, { st with blocks := st.blocks ++ [[]] }, s.extract (e + 1) s.size, k', rfl, rfl, by go_num, ⟨rfl⟩, ⟨HH2.out, HO2.out, HB2.out, HP.out.hh, HSK.out.2.1, HSK.out.2.2⟩, ⟨?_⟩, ⟨?_, ?_⟩, NX⟩
           ·rw [zD (fun h => Nat.succ_ne_zero n h.2)]; exact hR
           ·have := HS2.out; have := HK2.out; have := HKK.out; omega
           ·have := HS2.out; omega
        ·obtain ⟨cba, cbb⟩ := qn cb
         have CB := zA cb
         clear cb
         by_cases cl : st.blocks = []
         ·have HT := zA (show R = ((n : Int) + 1, 80, st) by
           rw [HRS.out, lineP_b2 st rest CB.out cl]
           exact zD (show ¬ (80 : Int) = 0 by decide))
          have l0 : st.blocks.length = 0 := by rw [cl]; rfl
          clear cl
          go_wp2_with (first
           | (go_at_call 43; refine (refwords_calls (s.extract 0 e) _ HSE.out).mono ?_; rintro e1 w2 ⟨v18, rfl, hv, hb⟩
              obtain ⟨Aw, cw, rfl⟩ := Kd.R_slice hv
              obtain ⟨_, hcw, hC⟩ := Kd.R_reads' hv
              rw [HWS.out] at hC hcw ⊢
              obtain ⟨ad, rfl, hx0⟩ := Kd.at_string hC 0 (by decide) (by first | (simp; done) | (simp; omega))
              have hx0 : w2.cell? ad = some (.string w0d) := hx0
              have HC := zA hC
              have HCW := zA hcw
              replace HP := zA (HP.out.below hb)
              clear hv hb hC hcw))
          refine bodyPost_ret (results_tmp5 rfl _ _ _) rfl ?_
          exact HF.out HT.out HP.out.bl
         ·obtain ⟨I, hI⟩ : ∃ I, I = insR (w0d :: rest) st0.code := ⟨_, rfl⟩
          have HI := zA hI
          have HLI := zA (lineP_ins st w0d rest (fun h => CB.out h.1) cl)
          rw [NX.out.1, ← hI] at HLI
          clear hI
          have l0 : ((st.blocks.length : Int) == 0) = false := by simpa using cl
          have l1 := zG (show ¬ (st.blocks.length : Int) = 0 by simpa using cl)
          have CL := zA cl
          clear cl
          rcases eqne I.1 with ⟨e0, e0a⟩ | ⟨e0, e0a, e0b, e0c⟩
          ·go_upto_region 20 with (first
           | (go_at_call 43; refine (refwords_calls (s.extract 0 e) _ HSE.out).mono ?_; rintro e1 w2 ⟨v18, rfl, hv, hb⟩
              obtain ⟨Aw, cw, rfl⟩ := Kd.R_slice hv
              obtain ⟨_, hcw, hC⟩ := Kd.R_reads' hv
              rw [HWS.out] at hC hcw ⊢
              obtain ⟨ad, rfl, hx0⟩ := Kd.at_string hC 0 (by decide) (by first | (simp; done) | (simp; omega))
              have hx0 : w2.cell? ad = some (.string w0d) := hx0
              have HC := zA hC
              have HCW := zA hcw
              replace HP := zA (HP.out.below hb)
              clear hv hb hC hcw)
           | (go_at_call 45; refine (refins_calls w0d rest st0.code (by omega) (some ad) cw _ HC.out HCW.out I HI.out).mono ?_; rintro e2 w3 ⟨v5, rfl, hv5, hb⟩
              obtain ⟨A5, c5, rfl⟩ := Kd.R_slice hv5
              have HV5 := zA hv5
              have HP2 := zA hb
              have HPn := zA (HP.out.below hb)
              clear hv5 hb)
           | ((with_reducible refine gate_dst (N := 22) rfl ?_); refine box_event (by rfl) (N := 22) (by rfl) (cs := #[.int .i64 0, .int .i64 0, .int .i64 0, .int .i64 0, .string (⟨#[]⟩ : ByteArray), .slice none 0 0]) (t := 43) ?hr ?_; (case hr => go_simp <;> rfl); intro gx hg w4 hbox hb
              have BX := zA hbox
              have HGx := zA hg
              have HB4 := zA hb
              have zx := bk6 hbox
              clear hbox hg hb))
           have hB6 : Below w3.heap.size w3 ((((((w4.setCell ⟨gx, 0, none⟩ (.int .i64 I.2.f0)).setCell ⟨gx, 1, none⟩ (.int .i64 I.2.f1)).setCell ⟨gx, 2, none⟩ (.int .i64 I.2.f2)).setCell ⟨gx, 3, none⟩ (.int .i64 I.2.f3)).setCell ⟨gx, 4, none⟩ (.string I.2.f4)).setCell ⟨gx, 5, none⟩ (.slice A5 I.2.f5.length c5)) := by
            have hgx : w3.heap.size ≤ gx := Nat.le_of_eq HGx.out.symm
            exact (((((HB4.out.setCell (p := ⟨gx, 0, none⟩) hgx _).setCell (p := ⟨gx, 1, none⟩) hgx _).setCell (p := ⟨gx, 2, none⟩) hgx _).setCell (p := ⟨gx, 3, none⟩) hgx _).setCell (p := ⟨gx, 4, none⟩) hgx _).setCell (p := ⟨gx, 5, none⟩) hgx _
           have hkx : ((((((w4.setCell ⟨gx, 0, none⟩ (.int .i64 I.2.f0)).setCell ⟨gx, 1, none⟩ (.int .i64 I.2.f1)).setCell ⟨gx, 2, none⟩ (.int .i64 I.2.f2)).setCell ⟨gx, 3, none⟩ (.int .i64 I.2.f3)).setCell ⟨gx, 4, none⟩ (.string I.2.f4)).setCell ⟨gx, 5, none⟩ (.slice A5 I.2.f5.length c5)).heap[gx]? = some (.cells #[.int .i64 I.2.f0, .int .i64 I.2.f1, .int .i64 I.2.f2, .int .i64 I.2.f3, .string I.2.f4, .slice A5 I.2.f5.length c5] 43 (0, 0)) :=
            blk_put (blk_put (blk_put (blk_put (blk_put (blk_put BX.out 0 _ rfl) 1 _ rfl) 2 _ rfl) 3 _ rfl) 4 _ rfl) 5 _ rfl
           generalize ((((((w4.setCell ⟨gx, 0, none⟩ (.int .i64 I.2.f0)).setCell ⟨gx, 1, none⟩ (.int .i64 I.2.f1)).setCell ⟨gx, 2, none⟩ (.int .i64 I.2.f2)).setCell ⟨gx, 3, none⟩ (.int .i64 I.2.f3)).setCell ⟨gx, 4, none⟩ (.string I.2.f4)).setCell ⟨gx, 5, none⟩ (.slice A5 I.2.f5.length c5)) = w7 at hB6 hkx ⊢
           have HP7 := zA (HPn.out.below hB6)
           have HR5 := zA (Kd.R_below HV5.out hB6)
           have HKx := zA hkx
           have HB7 := zA hB6
           clear hkx hB6 zx
           have hpos : 0 < st.blocks.length := Nat.pos_of_ne_zero (fun h => CL.out (List.eq_nil_of_length_eq_zero h))
           obtain ⟨adb, cb2, eb2⟩ := Kd.R_slice1 (Kd.S_R HP7.out.hs) hpos
           cases eb2
           obtain ⟨gb, rfl⟩ := Kd.R_head (Kd.S_R HP7.out.hs)
           have hi0 : (0 : Int) ≤ (st.blocks.length : Int) - 1 := by omega
           have hi1 : (st.blocks.length : Int) - 1 < (st.blocks.length : Int) := by omega
           have hw23 : w2.heap.size ≤ w3.heap.size := HP2.out.size
           have hgx3 : w3.heap.size ≤ gx := Nat.le_of_eq HGx.out.symm
           have HSo := zA (Kd.S_old HP.out.hs (below_step HP2.out HB7.out))
           obtain ⟨oki, cv, hcl, hM, hcc, hfz, hoki, hH⟩ := Kd.S_elem HSo.out [] ((st.blocks.length : Int) - 1) hi0 hi1
           obtain ⟨vk, rfl, hrk⟩ := hM
           have hto : ((st.blocks.length : Int) - 1).toNat = st.blocks.length - 1 := by omega
           have hvk : w7.cell? ⟨gb, ((st.blocks.length : Int) - 1).toNat * 1 + 0, none⟩ = some vk := hcc 0 vk rfl
           have hfk : w7.frozen? ⟨gb, ((st.blocks.length : Int) - 1).toNat * 1 + 0, none⟩ = false := hfz 0
           rw [Nat.mul_one, Nat.add_zero, hto] at hvk hfk
           rw [hto] at hrk
           obtain ⟨xk, hxk⟩ : ∃ xk, xk = st.blocks.getD (st.blocks.length - 1) [] := ⟨_, rfl⟩
           rw [← hxk] at hrk
           have hxl : xk.length ≤ 100000 := by
            rw [hxk, List.getD_eq_getElem?_getD, List.getElem?_eq_getElem (by omega)]
            have := HP.out.hbb _ (List.getElem_mem (show st.blocks.length - 1 < st.blocks.length by omega))
            show (st.blocks[st.blocks.length - 1]).length ≤ _
            omega
           obtain ⟨Ak, ck, ek⟩ := Kd.R_slice hrk
           subst ek
           have HH := zA (Kd.H_drew hH)
           have HRk := zA (Kd.R_drew hrk)
           have HR6 := zA (Kd.R_drew HR5.out)
           have HOk := zA hoki
           have HXk := zA hxk
           have HKx8 := zA (blk_drew HKx.out)
           have HTo := zA hto
           have HHd := zA (Kd.R_drew HP7.out.hr)
           obtain ⟨csb, hcsb⟩ := Kd.S_typed HP7.out.hs gb (by simp [Value.ownBlock])
           have HCb8 := zA (blk_drew hcsb)
           have HBl := zA (below_drew HP7.out.bl)
           have hvk8 : w7.drew.cell? ⟨gb, st.blocks.length - 1, none⟩ = some (.slice Ak xk.length ck) := hvk
           have hfk8 : w7.drew.frozen? ⟨gb, st.blocks.length - 1, none⟩ = false := hfk
           have HGb := zA (Kd.S_lt HP.out.hs gb (by simp [Value.ownBlock]))
           have HGo := zA (show w.heap.size ≤ gb from (Kd.S_base HP7.out.hs gb (by simp [Value.ownBlock])))
           have HD7 := zA (show w2.heap.size ≤ w7.drew.heap.size from (below_step HP2.out HB7.out).size)
           have HD2 := zA (show w.heap.size ≤ w2.heap.size from HP.out.bl.size)
           clear hcl hcc hfz hoki hH hrk hvk hfk hto hxk hcsb
           have hl2 := eq_true (show (1 : Int) ≤ (st.blocks.length : Int) by omega)
           refine start_ (n := 11) (S := fun w' => w'.cell? ⟨gb, st.blocks.length - 1, none⟩ = some (.slice Ak xk.length ck) ∧ w'.cell? ⟨gx, 0, none⟩ = some (.int .i64 I.2.f0) ∧ w'.cell? ⟨gx, 1, none⟩ = some (.int .i64 I.2.f1) ∧ w'.cell? ⟨gx, 2, none⟩ = some (.int .i64 I.2.f2) ∧ w'.cell? ⟨gx, 3, none⟩ = some (.int .i64 I.2.f3) ∧ w'.cell? ⟨gx, 4, none⟩ = some (.string I.2.f4) ∧ w'.cell? ⟨gx, 5, none⟩ = some (.slice A5 I.2.f5.length c5)) (ds := [10]) (bA 11 0) (by kernel_rfl) rfl rfl ⟨hvk8, (blk_cell HKx8.out 0).trans rfl, (blk_cell HKx8.out 1).trans rfl, (blk_cell HKx8.out 2).trans rfl, (blk_cell HKx8.out 3).trans rfl, (blk_cell HKx8.out 4).trans rfl, (blk_cell HKx8.out 5).trans rfl⟩ (fun hHeld => ?_); refine with_tabW refparse.tab20 refparse.bits20 (fun HT_ HW_ => ?_)
           have HFk := zA hfk8
           have HVk := zA hvk8
           clear hfk8 hvk8
           generalize hw8 : w7.drew = w8 at HH HRk HR6 HKx8 HHd HCb8 HBl HFk HVk HD7 hHeld ⊢
           clear hw8
           refine pu_ (i := 0) (N := some 77) (bA 11 1) ?_
           refine pu_ (i := 1) (N := some 78) (bA 11 3) ?_
           refine pu_ (i := 2) (N := some 79) (bA 11 7) ?_
           refine pu_ (i := 3) (N := some 80) (bA 11 15) ?_
           refine pu_ (i := 4) (N := some 81) (bA 11 31) ?_
           refine tk_ (i := 5) (N := some 82) (bA 11 63) ?_
           refine tk_ (i := 6) (N := some 83) (bA 11 127) ?_
           refine one_ (i := 7) (N := some 84) (bA 11 255) rfl rfl (one_of HT_.out (by kernel_rfl)) (by decide) (fun K hK => ?_)
           refine value_ (v := .slice (some ⟨w8.heap.size, 0, none⟩) 1 1) (w1 := w8.alloc (.cells #[.int .i64 I.2.f0, .int .i64 I.2.f1, .int .i64 I.2.f2, .int .i64 I.2.f3, .string I.2.f4, .slice A5 I.2.f5.length c5] 43)) rfl rfl (by first | (go_simp; done) | (go_simp; with_reducible rfl)) ?_
           have hba := below_alloc (Below.refl w8.heap.size w8) (.cells #[.int .i64 I.2.f0, .int .i64 I.2.f1, .int .i64 I.2.f2, .int .i64 I.2.f3, .string I.2.f4, .slice A5 I.2.f5.length c5] 43)
           refine hK.out _ _ ⟨(hba.cell (zE _ _ hHeld.1)).trans hHeld.1, (hba.cell (zE _ _ hHeld.2.1)).trans hHeld.2.1, (hba.cell (zE _ _ hHeld.2.2.1)).trans hHeld.2.2.1, (hba.cell (zE _ _ hHeld.2.2.2.1)).trans hHeld.2.2.2.1, (hba.cell (zE _ _ hHeld.2.2.2.2.1)).trans hHeld.2.2.2.2.1, (hba.cell (zE _ _ hHeld.2.2.2.2.2.1)).trans hHeld.2.2.2.2.2.1, (hba.cell (zE _ _ hHeld.2.2.2.2.2.2)).trans hHeld.2.2.2.2.2.2⟩ (fun hHeld2 => ?_)
           clear hK K hHeld hba
           refine norm_ (a' := ?_) ?_ ?_
           rotate_left
           ·show Act.put _ (some 84) _ = _
            simp only [Act.put, List.setIfInBounds_toArray, List.set_cons_zero, List.set_cons_succ, i64_w, i32_w]
            rfl
           have hDw8 : w.heap.size ≤ w8.heap.size := Nat.le_trans HD2.out HD7.out
           refine one_ (i := 8) (N := some 85) (bA 11 511) rfl rfl (one_of HT_.out (by kernel_rfl)) (by decide) (fun K hK => ?_)
           refine Kd.R_append_step kIns (w0 := w8) w.heap.size (by rfl) (.tmp 82) (.tmp 84) 29 43 (.agg #[(.int .i64 0), (.int .i64 0), (.int .i64 0), (.int .i64 0), (.string ⟨#[]⟩), (.slice none 0 0)]) 72 rfl Tryd.underlying29 infoIns rfl (by decide) (by omega) (.slice Ak xk.length ck) xk I.2 [.int .i64 I.2.f0, .int .i64 I.2.f1, .int .i64 I.2.f2, .int .i64 I.2.f3, .string I.2.f4, .slice A5 I.2.f5.length c5] (fun q => oki q ∨ w2.heap.size ≤ q) (fun q => w2.heap.size ≤ q) rfl rfl ?hp ?hokp ?hfresh ?HO (Below.refl _ _) hDw8 (by omega) ?_
           case hp => exact kIns_mkM w8 w.heap.size _ I.2 (Kd.R_lower (Kd.R_mono (Kd.R_bound HR6.out) (fun q hq => hq.2.1)) HD2.out)
           case hokp => exact fun q hq => ⟨.inr hq, fun e => by have := (HOk.out q (HRk.out.1 q e.symm)).1.2; omega⟩
           case hfresh => exact fun q hq => .inr (Nat.le_trans HD7.out hq)
           case HO => exact Kd.R_mono HRk.out (fun q hq => .inl hq)
           intro v85 w9 ho hb9 hg9 _
           obtain ⟨A9, c9, e9⟩ := Kd.R_slice ho
           subst e9
           rw [show (xk ++ [I.2]).length = xk.length + 1 by simp] at ho ⊢
           have hkb : w9.heap[gb]? = w8.heap[gb]? := hg9.block gb (zE _ _ HVk.out) (fun e => (HOk.out gb (HRk.out.1 gb e.symm)).2 rfl)
           have hkg : w9.heap[gx]? = w8.heap[gx]? := hg9.block gx (blk_lt HKx8.out) (fun e => by have := (HOk.out gx (HRk.out.1 gx e.symm)).1.2; omega)
           have HCb := zA (hkb.trans HCb8.out)
           have hv9 : w9.cell? ⟨gb, st.blocks.length - 1, none⟩ = some (.slice Ak xk.length ck) := (World.cell?_of_block (w := w8) hkb).trans HVk.out
           have hf9 : w9.frozen? ⟨gb, st.blocks.length - 1, none⟩ = false := (World.frozen?_of_block (w := w8) hkb).trans HFk.out
           have hkx9 := hkg.trans HKx8.out
           have HR9 := zA (show Kd.R (Kd.int .i64) 3 w9 w.heap.size (fun _ => True) _ st.head from Kd.R_over' HHd.out (fun k hk => Kd.R_typed HRk.out k hk) (by decide) hg9)
           have HB9 := zA hb9
           have HRn := zA ho
           have HH9 := zA (Kd.H_grown HH.out hg9 (fun k hk => HRk.out.1 k hk))
           clear ho hb9 hkb hkg hg9 hHeld2
           refine hK.out _ _ ⟨hv9, (blk_cell hkx9 0).trans rfl, (blk_cell hkx9 1).trans rfl, (blk_cell hkx9 2).trans rfl, (blk_cell hkx9 3).trans rfl, (blk_cell hkx9 4).trans rfl, (blk_cell hkx9 5).trans rfl⟩ (fun hHeld => ?_)
           clear hK K hkx9
           refine norm_ (a' := ?_) ?_ ?_
           rotate_left
           ·show Act.put _ (some 85) _ = _
            simp only [Act.put, List.setIfInBounds_toArray, List.set_cons_zero, List.set_cons_succ, i64_w, i32_w]
            rfl
           refine pu_ (i := 9) (N := some 86) (bA 11 1023) ?_
           refine last_ (i := 10) (N := none) (bA 11 2047) rfl rfl (one_of HT_.out (by kernel_rfl)) (by decide) (fun K hK => ?_)
           refine skip_ (w1 := ?_) (by rfl) rfl ?_ ?_
           rotate_left
           ·first | (go_simp; done) | (go_simp; rfl)
           refine hK.out _ _ ?_
           clear hK K hv9 hf9 hHeld
           refine done_ (done_of HT_.out (by kernel_rfl)) ?_
           have hLI := HLI.out
           rw [zC e0] at hLI
           rw [hLI] at HRS HSK
           clear hLI
           obtain ⟨hS9, hg10⟩ := Kd.S_seg (d := Kd.slice 43 kIns) (ok := fun _ => True) (okg := fun q => w2.heap.size ≤ q) (okp := fun q => oki q ∨ w2.heap.size ≤ q) (Kd.H_mono HH9.out (fun k hk => ⟨trivial, by have := HGb.out; omega⟩)) hi0 hi1 (seg := [.slice A9 (xk.length + 1) c9]) (j := 0) (Nat.le_refl 1) (x' := xk ++ [I.2]) ⟨_, rfl, HRn.out⟩ (fun k hk => hk) (fun k hk => ⟨trivial, by have := HGb.out; omega⟩)
           have hsz : (Kd.slice 43 kIns).sz = 1 := rfl
           rw [hsz, Nat.mul_one, Nat.add_zero, HTo.out] at hS9
           have hS10 : Kd.S (Kd.slice 43 kIns) 29 (w9.setCell ⟨gb, st.blocks.length - 1, none⟩ (.slice A9 (xk.length + 1) c9)) w.heap.size (fun _ => True) (.slice (some ⟨gb, 0, none⟩) st.blocks.length cbk) (st.blocks.set (st.blocks.length - 1) (xk ++ [I.2])) := by simpa only [World.setCells] using hS9
           have HS10 := zA hS10
           have HRz := zA (Kd.R_set HR9.out HCb.out (by decide) (st.blocks.length - 1) (.slice A9 (xk.length + 1) c9))
           have HBz := zA ((HBl.out.trans HB9.out).setCell (p := ⟨gb, st.blocks.length - 1, none⟩) HGo.out (.slice A9 (xk.length + 1) c9))
           clear hS9 hS10 hg10 hsz
           go_wp2_with fail
           go_roundg (s.extract (e + 1) s.size).size
           case measure => have := HQ.out; have := HS2.out; omega
           case rel =>
            have hR := HRS.out
            rw [zC trivial, ← NX.out.1] at hR
            refine ⟨n + 1, { st with blocks := st.blocks.set (st.blocks.length - 1) (st.blocks.getD (st.blocks.length - 1) [] ++ [I.2]) }, s.extract (e + 1) s.size, k', rfl, rfl, by go_num, ⟨rfl⟩, ⟨⟨HRz.out, ?_, HBz.out, HP.out.hh, HSK.out.2.1, HSK.out.2.2⟩⟩, ⟨?_⟩, ⟨?_, ?_⟩, NX⟩
            ·show Kd.S _ _ _ _ _ _ (st.blocks.set (st.blocks.length - 1) (st.blocks.getD (st.blocks.length - 1) [] ++ [I.2]))
             rw [← HXk.out]
             exact HS10.out
            ·rw [zD (fun h => Nat.succ_ne_zero n h.2)]; exact hR
            ·have := HS2.out; have := HK2.out; have := HKK.out; omega
            ·have := HS2.out; omega
          ·have HT := zA (show R = ((n : Int) + 1, I.1, st) by
            rw [HRS.out, HLI.out, zD e0]
            exact zD e0)
           go_upto_region 20 with (first
           | (go_at_call 43; refine (refwords_calls (s.extract 0 e) _ HSE.out).mono ?_; rintro e1 w2 ⟨v18, rfl, hv, hb⟩
              obtain ⟨Aw, cw, rfl⟩ := Kd.R_slice hv
              obtain ⟨_, hcw, hC⟩ := Kd.R_reads' hv
              rw [HWS.out] at hC hcw ⊢
              obtain ⟨ad, rfl, hx0⟩ := Kd.at_string hC 0 (by decide) (by first | (simp; done) | (simp; omega))
              have hx0 : w2.cell? ad = some (.string w0d) := hx0
              have HC := zA hC
              have HCW := zA hcw
              replace HP := zA (HP.out.below hb)
              clear hv hb hC hcw)
           | (go_at_call 45; refine (refins_calls w0d rest st0.code (by omega) (some ad) cw _ HC.out HCW.out I HI.out).mono ?_; rintro e2 w3 ⟨v5, rfl, hv5, hb⟩
              obtain ⟨A5, c5, rfl⟩ := Kd.R_slice hv5
              have HV5 := zA hv5
              have HP2 := zA hb
              have HPn := zA (HP.out.below hb)
              clear hv5 hb)
           | ((with_reducible refine gate_dst (N := 22) rfl ?_); refine box_event (by rfl) (N := 22) (by rfl) (cs := #[.int .i64 0, .int .i64 0, .int .i64 0, .int .i64 0, .string (⟨#[]⟩ : ByteArray), .slice none 0 0]) (t := 43) ?hr ?_; (case hr => go_simp <;> rfl); intro gx hg w4 hbox hb
              have BX := zA hbox
              have HGx := zA hg
              have HB4 := zA hb
              have zx := bk6 hbox
              clear hbox hg hb))
           refine bodyPost_ret (results_tmp5 rfl _ _ _) rfl ?_
           have hgx : w.heap.size ≤ gx := by rw [HGx.out]; exact HPn.out.bl.size
           refine HFE.out (st' := st) e0 HT.out ?_
           exact ((((((below_step HPn.out.bl HB4.out).setCell (p := ⟨gx, 0, none⟩) hgx _).setCell (p := ⟨gx, 1, none⟩) hgx _).setCell (p := ⟨gx, 2, none⟩) hgx _).setCell (p := ⟨gx, 3, none⟩) hgx _).setCell (p := ⟨gx, 4, none⟩) hgx _).setCell (p := ⟨gx, 5, none⟩) hgx _
      ·obtain ⟨c1a, c1b⟩ := qn c1
       have HN2 := zA (show ∀ j, j < e + 1 → s.data.toList[j]? ≠ some 10 from fun j hj h => by
        by_cases hje : j < e
        ·exact HN.out j hje h
        ·have : j = e := by omega
         subst this
         obtain ⟨h1, h2⟩ := List.getElem?_eq_some_iff.1 h
         rw [PlainNum.bt_get h1, h2] at c1
         exact c1 rfl)
       go_wp2_with fail
       go_roundg k1
       case measure => omega
       case rel => exact ⟨e + 1, by go_num, ⟨by have := HK.out; omega⟩, HN2, HP⟩
end Go.Proofs.YtniknpjeknmpjaaDoor.Q
namespace Go.Proofs.YtniknpjeknmpjaaDoor.Q
open Go.RowKit Go.Shelf Go.Proofs.YtniknpjeknmpjaaDoor.Plain Go.Proofs.YtniknpjeknmpjaaDoor.PlainName Go.Proofs.YtniknpjeknmpjaaDoorW.PrintWords Go.Proofs.YtniknpjeknmpjaaDoorW.PrintLast Go.Proofs.YtniknpjeknmpjaaDoorW.PrintMore
set_option linter.unusedVariables false
set_option linter.unusedSimpArgs false
attribute [local go_sem] Oper.semAt_some
def cubbyref08_Parse.f (a0 : ByteArray) : Option (ByteArray × Int × Int × List (List SIns) × Int × Int) := text_Parse.f a0
def cubbyref08_Parse.T4 : Bool × List (List Nat × List Nat) := (true, [([], []), ([], []), ([1], [1]), ([2], [2]), ([], []), ([4], [4]), ([5], [5]), ([], []), ([0, 3, 6, 7], [0, 3, 6, 7]), ([8, 0, 1, 2, 3, 4, 5, 6, 7, 8], [8]), ([9, 0, 1, 2, 3, 4, 5, 6, 7, 8, 9], []), ([10, 0, 1, 2, 3, 4, 5, 6, 7, 8, 9, 10], [])])
def cubbyref08_Parse.B4 : List Nat := [0, 0, 2, 6, 0, 16, 48, 0, 255, 511, 1023, 2047]
theorem cubbyref08_Parse.tab4 : rtab .any (opsOf Tryd.f11 4) = cubbyref08_Parse.T4 := by kernel_rfl
theorem cubbyref08_Parse.bits4 : waitsOk cubbyref08_Parse.T4.2 cubbyref08_Parse.B4 = true := by kernel_rfl
set_option maxHeartbeats 8000000 in
set_option maxRecDepth 100000 in
theorem cubbyref08_Parse.calls (a0 : ByteArray) (r1 : ByteArray) (r2 r3 : Int) (r4 : List (List SIns)) (r5 r6 : Int) (w : World) (h : cubbyref08_Parse.f a0 = some (r1, r2, r3, r4, r5, r6))  :
 Calls Tryd.prog 11 #[.string a0] w fun e w' => ∃ v : Value, e = .returned (.tuple #[.agg #[.string r1, .int .i64 r2, .int .i64 r3, v], .int .i64 r5, .int .i64 r6]) ∧ Kd.R (Kd.slice 43 kIns) 29 w' w.heap.size (fun _ => True) v r4 ∧ Below w.heap.size w w' := by
 unfold cubbyref08_Parse.f text_Parse.f at h
 by_cases hsz : a0.size ≤ 90000
 case neg => rw [zD hsz] at h; cases h
 rw [zC hsz] at h
 have H := zA h
 clear h
 have hrp := refparse_calls psFunc rfl rfl rfl ⟨(by show (1:Int) ≤ 2; decide), (by show (2:Int) ≤ 100; decide)⟩ a0 (by omega) 3 rfl (w.alloc (.cells #[.string ⟨#[]⟩, .int .i64 0, .int .i64 0, .slice none 0 0] 24 (0, 0)))
 change Calls Tryd.prog 23 #[.string a0, .string ⟨#[102, 117, 110, 99]⟩, .int .i64 3, .bool false] _ _ at hrp
 have HRP := zA hrp
 clear hrp
 go_enter Tryd.func11, Tryd.ntmps11
 go_wp2_with fail
 go_at_call 23
 refine HRP.out.mono ?_
 rintro e w2 ⟨v1, v2, rfl, hr, hs, hbl⟩
 clear HRP
 have z2 := bk4 ((hbl.block _ (by simp)).trans (World.alloc_heap_new w _))
 have HBL := zA hbl
 clear hbl
 obtain ⟨E, hE⟩ : ∃ E, E = (parseAll psFunc a0).2.1 := ⟨_, rfl⟩
 obtain ⟨C, hC0⟩ : ∃ C, C = (parseAll psFunc a0).1 := ⟨_, rfl⟩
 obtain ⟨nm, hnm⟩ : ∃ nm, nm = outName (parseAll psFunc a0) := ⟨_, rfl⟩
 rw [← hE, ← hC0, ← hnm]
 have HE := zA hE
 have HC0 := zA hC0
 have HNm := zA hnm
 have HR0 := zA hr
 have HS0 := zA hs
 clear hE hC0 hnm hr hs
 rcases eqne E with ⟨e0, e0a⟩ | ⟨e0, e0a, e0b, e0c⟩
 ·go_upto_region 4 with fail
  have hE0 := HE.out.symm.trans e0
  have hr := HR0.out
  have hs := HS0.out
  have hnm := HNm.out
  rw [show outHead (parseAll psFunc a0) = (parseAll psFunc a0).2.2.head from zC hE0] at hr
  rw [show outBlocks (parseAll psFunc a0) = (parseAll psFunc a0).2.2.blocks from zC hE0] at hs
  rw [show outName (parseAll psFunc a0) = (parseAll psFunc a0).2.2.name from zC hE0] at hnm
  clear HR0 HS0 HNm
  have hhd : ((parseAll psFunc a0).2.2.head.length : Int) = 2 := parseAll_head hE0
  obtain ⟨st2, hst2⟩ : ∃ st2, st2 = (parseAll psFunc a0).2.2 := ⟨_, rfl⟩
  rw [← hst2] at hr hs hhd hnm
  subst hnm
  have hH := H.out
  rw [zC hE0, ← hst2] at hH
  have HH := zA hH
  clear hst2 hH
  have HSR := zA (Kd.S_R hs)
  have hl2 : st2.head.length = 2 := by omega
  obtain ⟨ad, ch, rfl⟩ := Kd.R_slice1 hr (by omega)
  obtain ⟨_, hlc, hC⟩ := Kd.R_reads' hr
  obtain ⟨ad0, q0, hx0⟩ := Kd.at_int hC 0 (by decide) (by omega)
  obtain ⟨ad1, q1, hx1⟩ := Kd.at_int hC 1 (by decide) (by omega)
  cases q0
  cases q1
  rw [hl2] at hlc ⊢
  have hx0 : w2.cell? ad = some (.int .i64 (rd st2.head 0)) := hx0
  have hx1 : w2.cell? { block := ad.block, off := ad.off + 1 } = some (.int .i64 (rd st2.head 1)) := hx1
  obtain ⟨Ab, cb, rfl⟩ := Kd.R_slice (Kd.S_R hs)
  have hbd : w.heap.size + 1 ≤ ad.block := by have := Kd.R_base hr _ rfl; simp at this; omega
  refine start_ (n := 12) (S := fun w' => w'.cell? ad = some (.int .i64 (rd st2.head 0)) ∧ w'.cell? { block := ad.block, off := ad.off + 1 } = some (.int .i64 (rd st2.head 1))) (ds := []) (bA 12 0) (by kernel_rfl) rfl rfl ⟨hx0, hx1⟩ (fun hHeld => ?_); refine with_tabW cubbyref08_Parse.tab4 cubbyref08_Parse.bits4 (fun HT_ HW_ => ?_)
  refine pu_ (i := 0) (N := some 23) (bA 12 1) ?_
  refine pu_ (i := 1) (N := some 24) (bA 12 3) ?_
  refine pu_ (i := 2) (N := some 25) (bA 12 7) ?_
  refine pu_ (i := 4) (N := some 27) (bA 12 23) ?_
  refine pu_ (i := 5) (N := some 28) (bA 12 55) ?_
  refine pu_ (i := 7) (N := some 30) (bA 12 183) ?_
  refine tk_ (i := 3) (N := some 26) (bA 12 191) ?_
  refine tk_ (i := 6) (N := some 29) (bA 12 255) ?_
  refine pu_ (i := 8) (N := some 31) (bA 12 511) ?_
  have z2d : w2.drew.heap[w.heap.size]? = some (.cells #[.string ⟨#[]⟩, .int .i64 0, .int .i64 0, .slice none 0 0] 24 (0, 0)) := (HBL.out.block _ (by simp)).trans (World.alloc_heap_new w _)
  have HZ2 := zA z2d
  replace z2d := bk4 z2d
  refine one_ (i := 9) (N := none) (bA 12 1023) rfl rfl (one_of HT_.out (by kernel_rfl)) (by decide) (fun K hK => ?_)
  refine skip_ (w1 := ?_) (by rfl) rfl ?_ ?_
  rotate_left
  ·first | (go_simp; done) | (go_simp; rfl)
  obtain ⟨hq1, hq2, hq3⟩ := box4 (w := w2) HZ2.out (.string st2.name) (.int .i64 (rd st2.head 0)) (.int .i64 (rd st2.head 1)) (.slice Ab st2.blocks.length cb)
  have HBl := zA (below_drew (box4_below (below_step (below_alloc (Below.refl w.heap.size w) (.cells #[.string ⟨#[]⟩, .int .i64 0, .int .i64 0, .slice none 0 0] 24 (0, 0))) HBL.out) (Nat.le_refl w.heap.size) (.string st2.name) (.int .i64 (rd st2.head 0)) (.int .i64 (rd st2.head 1)) (.slice Ab st2.blocks.length cb)))
  have HSR2 := zA (Kd.R_drew (Kd.R_step (Kd.R_bound HSR.out) (fun k hk hl => hq2 k (by have := hk.2.1; simp at this; omega))))
  have ho : ∀ (W : World) (p : Addr), (∀ k, k ≠ w.heap.size → W.heap[k]? = w2.heap[k]?) → p.block ≠ w.heap.size → W.drew.cell? p = w2.cell? p := fun W p h1 h2 => World.cell?_of_block (h1 _ h2)
  refine hK.out _ _ ⟨(ho _ _ hq2 (by omega)).trans hx0, (ho _ _ hq2 (by show ad.block ≠ _; omega)).trans hx1⟩ (fun hHeld => ?_)
  clear hK K ho hx0 hx1 z2d
  generalize ((((w2.setCell ⟨w.heap.size, 0, none⟩ (.string st2.name)).setCell ⟨w.heap.size, 1, none⟩ (.int .i64 (rd st2.head 0))).setCell ⟨w.heap.size, 2, none⟩ (.int .i64 (rd st2.head 1))).setCell ⟨w.heap.size, 3, none⟩ (.slice Ab st2.blocks.length cb)) = W4 at hq1 hq2 hq3 HBl HSR2 hHeld ⊢
  have y4 := bk4 hq1
  refine pu_ (i := 10) (N := some 3) (bA 12 2047) ?_
  refine pu_ (i := 11) (N := some 4) (bA 12 4095) ?_
  refine done_ (done_of HT_.out (by kernel_rfl)) ?_
  go_wp2_with fail
  refine bodyPost_ret (results_ctt rfl _ _ w.heap.size 24 #[.string st2.name, .int .i64 (rd st2.head 0), .int .i64 (rd st2.head 1), .slice Ab st2.blocks.length cb] (0, 0) _ rfl hq1 Tryd.underlying24 rfl (by kernel_rfl)) rfl ?_
  injection HH.out with he
  simp only [Prod.mk.injEq] at he
  obtain ⟨rfl, rfl, rfl, rfl, rfl, rfl⟩ := he
  exact ⟨_, rfl, Kd.R_mono (Kd.R_lower HSR2.out (by simp)) (fun _ _ => trivial), HBl.out⟩
 ·go_upto_region 4 with fail
  have hE0 : ¬ (parseAll psFunc a0).2.1 = 0 := fun h => e0 (HE.out.trans h)
  have hH := H.out
  rw [zD hE0] at hH
  injection hH with he
  simp only [Prod.mk.injEq] at he
  obtain ⟨rfl, rfl, rfl, rfl, rfl, rfl⟩ := he
  have hz : w2.heap[w.heap.size]? = some (.cells #[.string ⟨#[]⟩, .int .i64 0, .int .i64 0, .slice none 0 0] 24 (0, 0)) := (HBL.out.block _ (by simp)).trans (World.alloc_heap_new w _)
  obtain ⟨hq1, hq2, hq3⟩ := box4 (w := w2) hz (.string ⟨#[]⟩) (.int .i64 0) (.int .i64 0) (.slice none 0 0)
  have hb2 := box4_below (below_step (below_alloc (Below.refl w.heap.size w) _) HBL.out) (Nat.le_refl w.heap.size) (.string ⟨#[]⟩) (.int .i64 0) (.int .i64 0) (.slice none 0 0)
  refine bodyPost_ret (results_ctt rfl _ _ w.heap.size 24 #[.string ⟨#[]⟩, .int .i64 0, .int .i64 0, .slice none 0 0] (0, 0) _ rfl hq1 Tryd.underlying24 rfl (by kernel_rfl)) rfl ?_
  refine ⟨_, ?_, Kd.R_nil _ _ _ _ _, hb2⟩
  rw [← HE.out, ← HC0.out]
  rfl
end Go.Proofs.YtniknpjeknmpjaaDoor.Q
namespace Go.Proofs.YtniknpjeknmpjaaDoor.Q
open Go.RowKit Go.Proofs.YtniknpjeknmpjaaDoorW.PrintWords Go.Proofs.YtniknpjeknmpjaaDoorW.PrintLast Go.Proofs.YtniknpjeknmpjaaDoorW.PrintMore
attribute [local go_sem] max2_int min2_int max_two min_two max_three min_three max_four min_four
set_option linter.unusedVariables false
set_option linter.unusedSimpArgs false

mutual
def cubbylaw08_TextBehind.j0 : Nat → ByteArray → Bool → ByteArray → Int → Int → List (List (SIns)) → Option (Bool)
 | 0, _, _, _, _, _, _ => none
 | k + 1, x1, x31, x380000, x380001, x380002, x380003 => if x31 = true then (some true) else ((cubbyref08_Print.f k x380000 x380001 x380002 x380003).bind fun bt381 => (if bt381.2 = 0 then (if bt381.1.size + x1.size ≤ 9223372036854775807 then ((text_Parse.f (bt381.1 ++ x1)).bind fun bt392 => ((cubbyref08_Parse.f (bt381.1 ++ x1)).bind fun bt401 => (cubbylaw08_TextBehind.l0 k bt392.2.2.2.2.1 bt392.2.2.2.2.2 bt401.2.2.2.2.1 bt401.2.2.2.2.2 (wrap64 (1 + (x380003.length : Int))) 0 x380000 x380001 x380002 x380003 bt392.1 bt392.2.1 bt392.2.2.1 bt392.2.2.2.1 bt401.1 bt401.2.1 bt401.2.2.1 bt401.2.2.2.1))) else (none)) else ((text_Parse.f (⟨#[]⟩ : ByteArray)).bind fun bt383 => (if bt383.2.2.2.2.1 = 1 then (some (bt383.2.2.2.2.2 == 80)) else (some false)))))
def cubbylaw08_TextBehind.l0 : Nat → Int → Int → Int → Int → Int → Int → ByteArray → Int → Int → List (List (SIns)) → ByteArray → Int → Int → List (List (SIns)) → ByteArray → Int → Int → List (List (SIns)) → Option (Bool)
 | 0, _, _, _, _, _, _, _, _, _, _, _, _, _, _, _, _, _, _ => none
 | k + 1, x11, x12, x14, x15, x16, x17, x380000, x380001, x380002, x380003, x401000, x401001, x401002, x401003, x410000, x410001, x410002, x410003 => if x17 < (x380003.length : Int) then (if 0 ≤ x17 then (cubbylaw08_TextBehind.l0 k x11 x12 x14 x15 (wrap64 (x16 + ((rd_LIns x380003 x17).length : Int))) (wrap64 (x17 + 1)) x380000 x380001 x380002 x380003 x401000 x401001 x401002 x401003 x410000 x410001 x410002 x410003) else (none)) else (if x12 = x15 then (if x11 = x14 then ((cubbylaw08_sameFunc.f k x401000 x401001 x401002 x401003 x410000 x410001 x410002 x410003).bind fun t411 => (if t411 = true then (if x12 = 0 then (some true) else (some (decide (x11 > x16)))) else (some false))) else (some false)) else (some false))
end
def cubbylaw08_TextBehind.f (k : Nat) (a0_0 : ByteArray) (a0_1 : Int) (a0_2 : Int) (l0_3 : List (List (SIns))) (a1 : ByteArray) : Option (Bool) := (cubbylaw08_heavy.f k l0_3).bind fun t380 => (if t380 = true then (cubbylaw08_TextBehind.j0 k a1 true a0_0 a0_1 a0_2 l0_3) else (if (a0_0.size : Int) > 256 then (cubbylaw08_TextBehind.j0 k a1 true a0_0 a0_1 a0_2 l0_3) else (cubbylaw08_TextBehind.j0 k a1 (decide ((a1.size : Int) > 256)) a0_0 a0_1 a0_2 l0_3)))
set_option maxHeartbeats 8000000 in
set_option maxRecDepth 100000 in
theorem cubbylaw08_TextBehind.calls (k : Nat) (a0_0 : ByteArray) (a0_1 : Int) (a0_2 : Int) (A0_3 : Option Addr) (c0_3 : Nat) (l0_3 : List (List (SIns))) (a1 : ByteArray) (r : Bool) (w : World) (hL : LaidW w) (hr : r = true) (hr0_3 : Kd.C (Kd.slice 43 kIns) w A0_3 l0_3.length l0_3) (hc0_3 : l0_3.length ≤ c0_3) (h : cubbylaw08_TextBehind.f k a0_0 a0_1 a0_2 l0_3 a1 = some r) :
 Calls Tryd.prog 4 #[.agg #[.string a0_0, .int .i64 a0_1, .int .i64 a0_2, .slice A0_3 l0_3.length c0_3], .string a1] w fun e w' => e = .returned (.bool r) ∧ Below w.heap.size w w' := by
 have hu24 := Tryd.underlying24
 have HR0_3 := zA hr0_3
 have HC0_3 := zA hc0_3
 clear hr0_3 hc0_3
 have HB := zA (Below.refl w.heap.size w)
 have HLd := zA hL
 clear hL
 have HRt := zA hr
 clear hr
 have H := h; clear h; unfold cubbylaw08_TextBehind.f at H
 have HC3 := zA H
 clear H
 go_enter Tryd.func4, Tryd.ntmps4
 go_upto_region 1 with (first | ((with_reducible refine gate_dst (N := 2) rfl ?_); (try (refine gate_guard (by rfl) ?_; dsimp only)); refine box_event (by rfl) (N := 2) (by rfl) (cs := #[.string a0_0, .int .i64 a0_1, .int .i64 a0_2, .slice A0_3 l0_3.length c0_3]) (t := 24) ?hr ?_; (case hr => go_simp <;> rfl); intro gb379 hg w4 hbox hb; have BK379 := zA (hbox); have GW379 := qG hg; have GE379 := GW379; replace HB := qH hb; clear hb hbox hg))
 (try simp only [Act.put, List.setIfInBounds_toArray, List.set_cons_zero, List.set_cons_succ])
 go_cut [31] (fun v31 wc => ∃ (kq : Nat) (x31_2 : Bool), v31 = .bool x31_2 ∧ Aside0 (cubbylaw08_TextBehind.j0 kq a1 x31_2 a0_0 a0_1 a0_2 l0_3 = some r) ∧ Aside0 (kq ≤ k) ∧ Aside0 (wc.heap[gb379]? = some (.cells #[.string a0_0, .int .i64 a0_1, .int .i64 a0_2, (.slice A0_3 l0_3.length c0_3)] 24 (0, 0))) ∧ Aside0 (Below w.heap.size w wc))
 case first =>
  have H := HC3.out
  clear HC3
  replace H := qb H; obtain ⟨t380, A5, H⟩ := H
  by_cases c6 : t380 = true
  ·subst c6
   have H1 : (cubbylaw08_TextBehind.j0 k a1 true a0_0 a0_1 a0_2 l0_3) = some r := by rw [zC rfl] at H; exact H
   clear H
   have H := H1
   clear H1
   have H' := zA H
   clear H
   have z7_0 := bk4 BK379.out
   go_wp2_with (first | ((with_reducible refine gate_callee (f := 7) rfl ?_); refine goesL_ (some 20) rfl rfl Tryd.func7 (by kernel_rfl) rfl #[.slice A0_3 l0_3.length c0_3] rfl qL ?_; (with_reducible refine (cubbylaw08_heavy.calls k _ _ l0_3 true _ ?side1 ?side2 A5.out).mono ?_); (case side1 => exact qCB HR0_3.out); (case side2 => exact HC0_3.out); rintro e w8 ⟨rfl, hb⟩; refine ⟨_, rfl, ?_⟩; replace BK379 := qW BK379 hb; replace HB := qH hb; (try clear hb)))
   go_meet
   case rel => exact ⟨_, (true), qT, H', ⟨qO⟩, ⟨qK BK379.out⟩, ⟨qB⟩⟩
  ·replace c6 := Bool.eq_false_iff.mpr c6
   subst c6
   have H1 : (if (a0_0.size : Int) > 256 then (cubbylaw08_TextBehind.j0 k a1 true a0_0 a0_1 a0_2 l0_3) else (cubbylaw08_TextBehind.j0 k a1 (decide ((a1.size : Int) > 256)) a0_0 a0_1 a0_2 l0_3)) = some r := by rw [zD (show ¬ (false = true) by decide)] at H; exact H
   clear H
   have H := H1
   clear H1
   by_cases c9 : (a0_0.size : Int) > 256
   ·rw [zC c9] at H
    have c9b0 : decide (256 < (a0_0.size : Int)) = true := zF c9
    have c9b1 : decide (256 < a0_0.size) = true := zF (by omega)
    clear c9
    (first | rw [c9b0] | (simp only [i64_w, i32_w]; rw [c9b0]) | skip)
    have H' := zA H
    clear H
    have z10_0 := bk4 BK379.out
    go_wp2_with (first | ((with_reducible refine gate_callee (f := 7) rfl ?_); refine goesL_ (some 20) rfl rfl Tryd.func7 (by kernel_rfl) rfl #[.slice A0_3 l0_3.length c0_3] rfl qL ?_; (with_reducible refine (cubbylaw08_heavy.calls k _ _ l0_3 false _ ?side1 ?side2 A5.out).mono ?_); (case side1 => exact qCB HR0_3.out); (case side2 => exact HC0_3.out); rintro e w11 ⟨rfl, hb⟩; refine ⟨_, rfl, ?_⟩; replace BK379 := qW BK379 hb; replace HB := qH hb; (try clear hb); have z12_0 := bk4 BK379.out))
    go_meet
    case rel => exact ⟨_, (true), qT, H', ⟨qO⟩, ⟨qK BK379.out⟩, ⟨qB⟩⟩
   ·rw [zD c9] at H
    have c9b0 : decide (256 < (a0_0.size : Int)) = false := zG c9
    have c9b1 : decide (256 < a0_0.size) = false := zG (by omega)
    clear c9
    (first | rw [c9b0] | (simp only [i64_w, i32_w]; rw [c9b0]) | skip)
    have H' := zA H
    clear H
    have z13_0 := bk4 BK379.out
    go_wp2_with (first | ((with_reducible refine gate_callee (f := 7) rfl ?_); refine goesL_ (some 20) rfl rfl Tryd.func7 (by kernel_rfl) rfl #[.slice A0_3 l0_3.length c0_3] rfl qL ?_; (with_reducible refine (cubbylaw08_heavy.calls k _ _ l0_3 false _ ?side1 ?side2 A5.out).mono ?_); (case side1 => exact qCB HR0_3.out); (case side2 => exact HC0_3.out); rintro e w14 ⟨rfl, hb⟩; refine ⟨_, rfl, ?_⟩; replace BK379 := qW BK379 hb; replace HB := qH hb; (try clear hb); have z15_0 := bk4 BK379.out))
    go_meet
    case rel => exact ⟨_, (decide ((a1.size : Int) > 256)), qT, H', ⟨qO⟩, ⟨qK BK379.out⟩, ⟨qB⟩⟩
 case rest =>
  clear HC3
  try clear p2; try clear c4; try clear c6; try clear c7; try clear c9; try clear c9b0 c9b1; try clear z10_0; try clear z12_0; try clear z13_0; try clear z15_0; try clear z7_0
  obtain ⟨kq, x31_2, rfl, HA, HJ2, BK379, HB⟩ := hcut
  cases kq with
  | zero => exact absurd HA.out (by simp [cubbylaw08_TextBehind.j0])
  | succ kj2 =>
   have H := HA.out
   clear HA
   simp only [cubbylaw08_TextBehind.j0] at H
   by_cases c16 : x31_2 = true
   ·subst c16
    have H1 : (some true) = some r := by rw [zC rfl] at H; exact H
    clear H
    have H := H1
    clear H1
    obtain rfl := zI H
    go_wp2
    go_ret
    exact ⟨qE, qB⟩
   ·replace c16 := Bool.eq_false_iff.mpr c16
    subst c16
    have H1 : ((cubbyref08_Print.f kj2 a0_0 a0_1 a0_2 l0_3).bind fun bt381 => (if bt381.2 = 0 then (if bt381.1.size + a1.size ≤ 9223372036854775807 then ((text_Parse.f (bt381.1 ++ a1)).bind fun bt392 => ((cubbyref08_Parse.f (bt381.1 ++ a1)).bind fun bt401 => (cubbylaw08_TextBehind.l0 kj2 bt392.2.2.2.2.1 bt392.2.2.2.2.2 bt401.2.2.2.2.1 bt401.2.2.2.2.2 (wrap64 (1 + (l0_3.length : Int))) 0 a0_0 a0_1 a0_2 l0_3 bt392.1 bt392.2.1 bt392.2.2.1 bt392.2.2.2.1 bt401.1 bt401.2.1 bt401.2.2.1 bt401.2.2.2.1))) else (none)) else ((text_Parse.f (⟨#[]⟩ : ByteArray)).bind fun bt383 => (if bt383.2.2.2.2.1 = 1 then (some (bt383.2.2.2.2.2 == 80)) else (some false))))) = some r := by rw [zD (show ¬ (false = true) by decide)] at H; exact H
    clear H
    have H := H1
    clear H1
    replace H := Option.bind_eq_some_iff.mp H
    obtain ⟨⟨t381, t382⟩, A170, H⟩ := H
    replace H : (if t382 = 0 then (if t381.size + a1.size ≤ 9223372036854775807 then ((text_Parse.f (t381 ++ a1)).bind fun bt392 => ((cubbyref08_Parse.f (t381 ++ a1)).bind fun bt401 => (cubbylaw08_TextBehind.l0 kj2 bt392.2.2.2.2.1 bt392.2.2.2.2.2 bt401.2.2.2.2.1 bt401.2.2.2.2.2 (wrap64 (1 + (l0_3.length : Int))) 0 a0_0 a0_1 a0_2 l0_3 bt392.1 bt392.2.1 bt392.2.2.1 bt392.2.2.2.1 bt401.1 bt401.2.1 bt401.2.2.1 bt401.2.2.2.1))) else (none)) else ((text_Parse.f (⟨#[]⟩ : ByteArray)).bind fun bt383 => (if bt383.2.2.2.2.1 = 1 then (some (bt383.2.2.2.2.2 == 80)) else (some false)))) = some r := H
    have A17 := zA A170
    clear A170
    by_cases c18 : t382 = 0
    ·rw [zC c18] at H
     obtain ⟨c18b0, c18b1⟩ := qe c18; clear c18
     by_cases c19 : t381.size + a1.size ≤ 9223372036854775807
     ·rw [zC c19] at H
      have c19b0 := eq_true c19
      have c19b1 := zF c19
      try have c19b2 : (9223372036854775807 < t381.size + a1.size) = False := eq_false (Nat.not_lt.2 c19)
      replace H := Option.bind_eq_some_iff.mp H
      obtain ⟨⟨t392, t393, t394, t395, t398, t399⟩, A200, H⟩ := H
      replace H : ((cubbyref08_Parse.f (t381 ++ a1)).bind fun bt401 => (cubbylaw08_TextBehind.l0 kj2 t398 t399 bt401.2.2.2.2.1 bt401.2.2.2.2.2 (wrap64 (1 + (l0_3.length : Int))) 0 a0_0 a0_1 a0_2 l0_3 t392 t393 t394 t395 bt401.1 bt401.2.1 bt401.2.2.1 bt401.2.2.2.1)) = some r := H
      have A20 := zA A200
      clear A200
      replace H := Option.bind_eq_some_iff.mp H
      obtain ⟨⟨t401, t402, t403, t404, t407, t408⟩, A210, H⟩ := H
      replace H : (cubbylaw08_TextBehind.l0 kj2 t398 t399 t407 t408 (wrap64 (1 + (l0_3.length : Int))) 0 a0_0 a0_1 a0_2 l0_3 t392 t393 t394 t395 t401 t402 t403 t404) = some r := H
      have A21 := zA A210
      clear A210
      have H' := zA H
      clear H
      have z22_0 := bk4 BK379.out
      go_wp2_with (first | ((with_reducible refine gate_callee (f := 9) rfl ?_); refine goesL_ (some 34) rfl rfl Tryd.func9 (by kernel_rfl) rfl #[.agg #[.string a0_0, .int .i64 a0_1, .int .i64 a0_2, .slice A0_3 l0_3.length c0_3]] rfl qL ?_; (with_reducible refine (cubbyref08_Print.calls kj2 a0_0 a0_1 a0_2 _ _ l0_3 t381 t382 _ ?side1 ?side2 A17.out).mono ?_); (case side1 => exact qCB HR0_3.out); (case side2 => exact HC0_3.out); rintro e w23 ⟨rfl, hb⟩; refine ⟨_, rfl, ?_⟩; replace BK379 := qW BK379 hb; replace HB := qH hb; (try clear hb)) | ((with_reducible refine gate_callee (f := 10) rfl ?_); refine goesL_ (some 54) rfl rfl Tryd.func10 (by kernel_rfl) rfl #[.string (t381 ++ a1)] rfl qL ?_; (with_reducible refine (text_Parse.calls (t381 ++ a1) t392 t393 t394 t395 t398 t399 _ A20.out (hL := ?side99)).mono ?_); (case side99 => exact LaidW.below HLd.out qB); rintro e w24 ⟨v396, rfl, ho0, hb⟩; refine ⟨_, rfl, ?_⟩; have HO397 := zA (Kd.R_lower ho0 (below_size qB)); replace BK379 := qW BK379 hb; replace HB := qH hb; (try clear hb); (try clear ho0)) | ((with_reducible refine gate_dst (N := 10) rfl ?_); (try (refine gate_guard (by rfl) ?_; dsimp only)); refine box_event (by rfl) (N := 10) (by rfl) (cs := #[.string (⟨#[]⟩ : ByteArray), .int .i64 0, .int .i64 0, .slice none 0 0]) (t := 24) ?hr ?_; (case hr => go_simp <;> rfl); intro gb400 hg w25 hbox hb; replace HO397 := zA (Kd.R_below (qR HO397.out) hb); have BK400 := zA (hbox); have GW400 := qG hg; have GE400 := GW400; replace HB := qH hb; have NB379_400 := zA ((by rw [hg]; exact Nat.ne_of_lt (blk_lt (g := gb379) (o := .cells #[.string a0_0, .int .i64 a0_1, .int .i64 a0_2, .slice A0_3 l0_3.length c0_3] 24 (0, 0)) (qK BK379.out)) : gb379 ≠ gb400)); have NB400_379 := zA ((by rw [hg]; exact Nat.ne_of_gt (blk_lt (g := gb379) (o := .cells #[.string a0_0, .int .i64 a0_1, .int .i64 a0_2, .slice A0_3 l0_3.length c0_3] 24 (0, 0)) (qK BK379.out)) : gb400 ≠ gb379)); replace BK379 := qW BK379 hb; clear hb hbox hg; have hnb26 := NB400_379.out; have hnc26 := NB379_400.out; have z27_0 := bk4 BK400.out; obtain ⟨Ao28, co28, eo28⟩ := Kd.R_slice HO397.out; subst eo28) | ((with_reducible refine gate_callee (f := 11) rfl ?_); refine goesL_ (some 62) rfl rfl Tryd.func11 (by kernel_rfl) rfl #[.string (t381 ++ a1)] rfl qL ?_; (with_reducible refine (cubbyref08_Parse.calls (t381 ++ a1) t401 t402 t403 t404 t407 t408 _ A21.out).mono ?_); rintro e w29 ⟨v405, rfl, ho0, hb⟩; refine ⟨_, rfl, ?_⟩; have HO406 := zA (Kd.R_lower (Kd.R_new' ho0 (Kd.R_lt (by (with_reducible repeat (first | apply Kd.R_alloc | apply Kd.R_drewN | apply Kd.R_drew)); exact (Kd.R_mono (Kd.R_far (p := ⟨gb400, 3, none⟩) (Kd.R_far (p := ⟨gb400, 2, none⟩) (Kd.R_far (p := ⟨gb400, 1, none⟩) (Kd.R_far (p := ⟨gb400, 0, none⟩) (Kd.R_types HO397.out BK400.out (by decide)) (fun _ hk => hk.2) (.string t392)) (fun _ hk => hk.2) (.int .i64 t393)) (fun _ hk => hk.2) (.int .i64 t394)) (fun _ hk => hk.2) (.slice Ao28 t395.length co28)) (fun _ h_ => h_.1))))) (below_size qB)); replace HO397 := zA (Kd.R_elder' (by (with_reducible repeat (first | apply Kd.R_alloc | apply Kd.R_drewN | apply Kd.R_drew)); exact (Kd.R_mono (Kd.R_far (p := ⟨gb400, 3, none⟩) (Kd.R_far (p := ⟨gb400, 2, none⟩) (Kd.R_far (p := ⟨gb400, 1, none⟩) (Kd.R_far (p := ⟨gb400, 0, none⟩) (Kd.R_types HO397.out BK400.out (by decide)) (fun _ hk => hk.2) (.string t392)) (fun _ hk => hk.2) (.int .i64 t393)) (fun _ hk => hk.2) (.int .i64 t394)) (fun _ hk => hk.2) (.slice Ao28 t395.length co28)) (fun _ h_ => h_.1))) (Kd.R_base ho0) hb); replace BK379 := zA (blk_below (g := gb379) (o := .cells #[.string a0_0, .int .i64 a0_1, .int .i64 a0_2, .slice A0_3 l0_3.length c0_3] 24 (0, 0)) (by (with_reducible repeat (first | refine blk_drewN ?_ _ | refine blk_drew ?_ | refine blk_alloc ?_ _)); refine blk_far ?_ NB379_400.out _; (with_reducible repeat (first | refine blk_drewN ?_ _ | refine blk_drew ?_ | refine blk_alloc ?_ _)); refine blk_far ?_ NB379_400.out _; (with_reducible repeat (first | refine blk_drewN ?_ _ | refine blk_drew ?_ | refine blk_alloc ?_ _)); refine blk_far ?_ NB379_400.out _; (with_reducible repeat (first | refine blk_drewN ?_ _ | refine blk_drew ?_ | refine blk_alloc ?_ _)); refine blk_far ?_ NB379_400.out _; (with_reducible repeat (first | refine blk_drewN ?_ _ | refine blk_drew ?_ | refine blk_alloc ?_ _)); exact BK379.out) hb); replace BK400 := zA (blk_below (g := gb400) (o := .cells #[.string t392, .int .i64 t393, .int .i64 t394, .slice Ao28 t395.length co28] 24 (0, 0)) (by (with_reducible repeat (first | refine blk_drewN ?_ _ | refine blk_drew ?_ | refine blk_alloc ?_ _)); refine blk_put (cs := #[.string t392, .int .i64 t393, .int .i64 t394, .slice none 0 0]) ?_ 3 _ rfl; (with_reducible repeat (first | refine blk_drewN ?_ _ | refine blk_drew ?_ | refine blk_alloc ?_ _)); refine blk_put (cs := #[.string t392, .int .i64 t393, .int .i64 0, .slice none 0 0]) ?_ 2 _ rfl; (with_reducible repeat (first | refine blk_drewN ?_ _ | refine blk_drew ?_ | refine blk_alloc ?_ _)); refine blk_put (cs := #[.string t392, .int .i64 0, .int .i64 0, .slice none 0 0]) ?_ 1 _ rfl; (with_reducible repeat (first | refine blk_drewN ?_ _ | refine blk_drew ?_ | refine blk_alloc ?_ _)); refine blk_put (cs := #[.string (⟨#[]⟩ : ByteArray), .int .i64 0, .int .i64 0, .slice none 0 0]) ?_ 0 _ rfl; (with_reducible repeat (first | refine blk_drewN ?_ _ | refine blk_drew ?_ | refine blk_alloc ?_ _)); exact BK400.out) hb); replace HB := qH hb) | ((with_reducible refine gate_dst (N := 13) rfl ?_); (try (refine gate_guard (by rfl) ?_; dsimp only)); refine box_event (by rfl) (N := 13) (by rfl) (cs := #[.string (⟨#[]⟩ : ByteArray), .int .i64 0, .int .i64 0, .slice none 0 0]) (t := 24) ?hr ?_; (case hr => go_simp <;> rfl); intro gb409 hg w30 hbox hb; replace HO397 := zA (Kd.R_below (qR HO397.out) hb); replace HO406 := zA (Kd.R_below (qR HO406.out) hb); have BK409 := zA (hbox); have GW409 := qG hg; have GE409 := GW409; replace HB := qH hb; have NB379_409 := zA ((by rw [hg]; exact Nat.ne_of_lt (blk_lt (g := gb379) (o := .cells #[.string a0_0, .int .i64 a0_1, .int .i64 a0_2, .slice A0_3 l0_3.length c0_3] 24 (0, 0)) (qK BK379.out)) : gb379 ≠ gb409)); have NB409_379 := zA ((by rw [hg]; exact Nat.ne_of_gt (blk_lt (g := gb379) (o := .cells #[.string a0_0, .int .i64 a0_1, .int .i64 a0_2, .slice A0_3 l0_3.length c0_3] 24 (0, 0)) (qK BK379.out)) : gb409 ≠ gb379)); replace BK379 := qW BK379 hb; have NB400_409 := zA ((by rw [hg]; exact Nat.ne_of_lt (blk_lt (g := gb400) (o := .cells #[.string t392, .int .i64 t393, .int .i64 t394, .slice Ao28 t395.length co28] 24 (0, 0)) (qK BK400.out)) : gb400 ≠ gb409)); have NB409_400 := zA ((by rw [hg]; exact Nat.ne_of_gt (blk_lt (g := gb400) (o := .cells #[.string t392, .int .i64 t393, .int .i64 t394, .slice Ao28 t395.length co28] 24 (0, 0)) (qK BK400.out)) : gb409 ≠ gb400)); replace BK400 := qW BK400 hb; clear hb hbox hg; have hnb31 := NB409_379.out; have hnc31 := NB379_409.out; have hnb32 := NB409_400.out; have hnc32 := NB400_409.out; have z33_0 := bk4 BK409.out; obtain ⟨Ao34, co34, eo34⟩ := Kd.R_slice HO406.out; subst eo34; have z35_0 := bk4 BK379.out))
      go_loopg [16, 17] kj2 (fun kq v16 v17 w' => ∃ (x16_2 : Int) (x17_2 : Int), v16 = .int .i64 x16_2 ∧ v17 = .int .i64 x17_2 ∧ Aside0 (cubbylaw08_TextBehind.l0 kq t398 t399 t407 t408 x16_2 x17_2 a0_0 a0_1 a0_2 l0_3 t392 t393 t394 t395 t401 t402 t403 t404 = some r) ∧ Aside0 (kq ≤ kj2) ∧ Aside0 (Kd.R (Kd.slice 43 kIns) 29 w' w.heap.size (fun k_ => some k_ ≠ ((.slice Ao34 t404.length co34) : Value).ownBlock) (.slice Ao28 t395.length co28) t395) ∧ Aside0 (Kd.R (Kd.slice 43 kIns) 29 w' w.heap.size (fun k_ => some k_ ≠ ((.slice Ao28 t395.length co28) : Value).ownBlock) (.slice Ao34 t404.length co34) t404) ∧ Aside0 (w'.heap[gb379]? = some (.cells #[.string a0_0, .int .i64 a0_1, .int .i64 a0_2, (.slice A0_3 l0_3.length c0_3)] 24 (0, 0))) ∧ Aside0 (w'.heap[gb400]? = some (.cells #[.string t392, .int .i64 t393, .int .i64 t394, (.slice Ao28 t395.length co28)] 24 (0, 0))) ∧ Aside0 (w'.heap[gb409]? = some (.cells #[.string t401, .int .i64 t402, .int .i64 t403, (.slice Ao34 t404.length co34)] 24 (0, 0))) ∧ Aside0 (Below w.heap.size w w'))
      case atStart => exact ⟨(wrap64 (1 + (l0_3.length : Int))), (0), qT, qT, H', ⟨Nat.le_refl _⟩, ⟨by (with_reducible repeat (first | apply Kd.R_alloc | apply Kd.R_drewN | apply Kd.R_drew)); exact Kd.R_mono (Kd.R_far (p := ⟨gb409, 3, none⟩) (Kd.R_far (p := ⟨gb409, 2, none⟩) (Kd.R_far (p := ⟨gb409, 1, none⟩) (Kd.R_far (p := ⟨gb409, 0, none⟩) (Kd.R_types HO397.out BK409.out (by decide)) (fun _ hk => hk.2) (.string t401)) (fun _ hk => hk.2) (.int .i64 t402)) (fun _ hk => hk.2) (.int .i64 t403)) (fun _ hk => hk.2) (.slice Ao34 t404.length co34)) (fun _ hk => hk.1.2)⟩, ⟨by (with_reducible repeat (first | apply Kd.R_alloc | apply Kd.R_drewN | apply Kd.R_drew)); exact Kd.R_mono (Kd.R_far (p := ⟨gb409, 3, none⟩) (Kd.R_far (p := ⟨gb409, 2, none⟩) (Kd.R_far (p := ⟨gb409, 1, none⟩) (Kd.R_far (p := ⟨gb409, 0, none⟩) (Kd.R_types HO406.out BK409.out (by decide)) (fun _ hk => hk.2) (.string t401)) (fun _ hk => hk.2) (.int .i64 t402)) (fun _ hk => hk.2) (.int .i64 t403)) (fun _ hk => hk.2) (.slice Ao34 t404.length co34)) (fun _ hk => hk.1.2)⟩, ⟨by (with_reducible repeat (first | refine blk_drewN ?_ _ | refine blk_drew ?_ | refine blk_alloc ?_ _)); refine blk_far ?_ NB379_409.out _; (with_reducible repeat (first | refine blk_drewN ?_ _ | refine blk_drew ?_ | refine blk_alloc ?_ _)); refine blk_far ?_ NB379_409.out _; (with_reducible repeat (first | refine blk_drewN ?_ _ | refine blk_drew ?_ | refine blk_alloc ?_ _)); refine blk_far ?_ NB379_409.out _; (with_reducible repeat (first | refine blk_drewN ?_ _ | refine blk_drew ?_ | refine blk_alloc ?_ _)); refine blk_far ?_ NB379_409.out _; (with_reducible repeat (first | refine blk_drewN ?_ _ | refine blk_drew ?_ | refine blk_alloc ?_ _)); exact BK379.out⟩, ⟨by (with_reducible repeat (first | refine blk_drewN ?_ _ | refine blk_drew ?_ | refine blk_alloc ?_ _)); refine blk_far ?_ NB400_409.out _; (with_reducible repeat (first | refine blk_drewN ?_ _ | refine blk_drew ?_ | refine blk_alloc ?_ _)); refine blk_far ?_ NB400_409.out _; (with_reducible repeat (first | refine blk_drewN ?_ _ | refine blk_drew ?_ | refine blk_alloc ?_ _)); refine blk_far ?_ NB400_409.out _; (with_reducible repeat (first | refine blk_drewN ?_ _ | refine blk_drew ?_ | refine blk_alloc ?_ _)); refine blk_far ?_ NB400_409.out _; (with_reducible repeat (first | refine blk_drewN ?_ _ | refine blk_drew ?_ | refine blk_alloc ?_ _)); exact BK400.out⟩, ⟨by (with_reducible repeat (first | refine blk_drewN ?_ _ | refine blk_drew ?_ | refine blk_alloc ?_ _)); refine blk_put (cs := #[.string t401, .int .i64 t402, .int .i64 t403, .slice none 0 0]) ?_ 3 _ rfl; (with_reducible repeat (first | refine blk_drewN ?_ _ | refine blk_drew ?_ | refine blk_alloc ?_ _)); refine blk_put (cs := #[.string t401, .int .i64 t402, .int .i64 0, .slice none 0 0]) ?_ 2 _ rfl; (with_reducible repeat (first | refine blk_drewN ?_ _ | refine blk_drew ?_ | refine blk_alloc ?_ _)); refine blk_put (cs := #[.string t401, .int .i64 0, .int .i64 0, .slice none 0 0]) ?_ 1 _ rfl; (with_reducible repeat (first | refine blk_drewN ?_ _ | refine blk_drew ?_ | refine blk_alloc ?_ _)); refine blk_put (cs := #[.string (⟨#[]⟩ : ByteArray), .int .i64 0, .int .i64 0, .slice none 0 0]) ?_ 0 _ rfl; (with_reducible repeat (first | refine blk_drewN ?_ _ | refine blk_drew ?_ | refine blk_alloc ?_ _)); exact BK409.out⟩, ⟨qB⟩⟩
      case round =>
       clear H'
       try clear c1; try clear c2; try clear p2; try clear c3; try clear c4; try clear c6; try clear p6; try clear c7; try clear c9; try clear c9b0 c9b1; try clear c10; try clear c11; try clear c16; try clear c18b0 c18b1; try clear c19; try clear c19b0 c19b1 c19b2; try clear c26; try clear c31; try clear c32; try clear z10_0; try clear z12_0; try clear z13_0; try clear z15_0; try clear z22_0; try clear z27_0; try clear z33_0; try clear z35_0; try clear z7_0
       obtain ⟨x16_2, x17_2, rfl, rfl, HA, HK2, HO_401003, HO_410003, BK379, BK400, BK409, HB⟩ := hrel
       cases gk with
       | zero => exact absurd HA.out (by simp [cubbylaw08_TextBehind.l0])
       | succ k2 =>
        have H := HA.out
        clear HA
        simp only [cubbylaw08_TextBehind.l0] at H
        by_cases c36 : x17_2 < (l0_3.length : Int)
        ·rw [zC c36] at H
         have c36b0 := zF c36
         clear c36
         by_cases c37 : 0 ≤ x17_2
         ·rw [zC c37] at H
          have c37b0 := zF c37
          clear c37
          have H' := zA H
          clear H
          have hnb38 := NB379_400.out
          have hnc38 := NB400_379.out
          have hnb39 := NB379_409.out
          have hnc39 := NB409_379.out
          have z40_0 := bk4 BK379.out
          have p410 : 0 ≤ (x17_2 : Int) := zB qA
          have q410 : x17_2 < (l0_3.length : Int) := zB qA
          obtain ⟨ad410, A410_0, c410_0, e410, hx410_0, hl410_0, hi410_0⟩ := at_LIns HR0_3.out x17_2 p410 q410
          cases e410
          replace hx410_0 := (HB.out.cell (zE w _ hx410_0)).trans hx410_0
          have HR410_0 := zA hi410_0
          have HC410_0 := zA hl410_0
          clear hi410_0 hl410_0
          replace p410 := eq_true p410
          replace q410 := eq_true q410
          go_wp2
          go_roundg k2
          case measure => have := HJ2.out; have := HK2.out; omega
          case rel => exact ⟨(wrap64 (x16_2 + ((rd_LIns l0_3 x17_2).length : Int))), (wrap64 (x17_2 + 1)), qT, qT, H', ⟨by have := HJ2.out; have := HK2.out; omega⟩, ⟨qR HO_401003.out⟩, ⟨qR HO_410003.out⟩, ⟨qK BK379.out⟩, ⟨qK BK400.out⟩, ⟨qK BK409.out⟩, ⟨qB⟩⟩
         ·rw [zD c37] at H
          exact absurd H (by simp)
        ·rw [zD c36] at H
         have c36b0 := zG c36
         clear c36
         by_cases c41 : t399 = t408
         ·rw [zC c41] at H
          obtain ⟨c41b0, c41b1⟩ := qe c41; clear c41
          by_cases c42 : t398 = t407
          ·rw [zC c42] at H
           obtain ⟨c42b0, c42b1⟩ := qe c42; clear c42
           replace H := qb H; obtain ⟨t411, A43, H⟩ := H
           by_cases c44 : t411 = true
           ·subst c44
            have H1 : (if t399 = 0 then (some true) else (some (decide (t398 > x16_2)))) = some r := by rw [zC rfl] at H; exact H
            clear H
            have H := H1
            clear H1
            by_cases c45 : t399 = 0
            ·rw [zC c45] at H
             obtain ⟨c45b0, c45b1⟩ := qe c45; clear c45
             obtain rfl := zI H
             have hnb46 := NB379_400.out
             have hnc46 := NB400_379.out
             have hnb47 := NB379_409.out
             have hnc47 := NB409_379.out
             have z48_0 := bk4 BK379.out
             have hnb49 := NB400_409.out
             have hnc49 := NB409_400.out
             have z50_0 := bk4 BK400.out
             have z51_0 := bk4 BK409.out
             go_wp2_with (first | (go_at_call 12; (with_reducible refine (cubbylaw08_sameFunc.calls k2 t392 t393 t394 _ _ t395 t401 t402 t403 _ _ t404 true _ ?side1 ?side2 ?side3 ?side4 A43.out).mono ?_); (case side1 => repeat (first | exact (Kd.R_reads' HO_401003.out).2.2 | (with_reducible refine Kd.C_alloc ?_ _) | (with_reducible refine Kd.C_drewN ?_ _) | (with_reducible refine Kd.C_drew ?_))); (case side2 => exact (Kd.R_reads' HO_401003.out).2.1); (case side3 => repeat (first | exact (Kd.R_reads' HO_410003.out).2.2 | (with_reducible refine Kd.C_alloc ?_ _) | (with_reducible refine Kd.C_drewN ?_ _) | (with_reducible refine Kd.C_drew ?_))); (case side4 => exact (Kd.R_reads' HO_410003.out).2.1); (try clear A43); rintro e w52 ⟨rfl, hb⟩; replace HO_401003 := zA (Kd.R_below (qR HO_401003.out) hb); replace HO_410003 := zA (Kd.R_below (qR HO_410003.out) hb); replace BK379 := qW BK379 hb; replace BK400 := qW BK400 hb; replace BK409 := qW BK409 hb; replace HB := qH hb; (try clear hb)))
             go_ret
             exact ⟨qE, qB⟩
            ·rw [zD c45] at H
             obtain ⟨c45b0, c45b1⟩ := qn c45
             obtain rfl := zI H
             have hnb53 := NB379_400.out
             have hnc53 := NB400_379.out
             have hnb54 := NB379_409.out
             have hnc54 := NB409_379.out
             have z55_0 := bk4 BK379.out
             have hnb56 := NB400_409.out
             have hnc56 := NB409_400.out
             have z57_0 := bk4 BK400.out
             have z58_0 := bk4 BK409.out
             go_wp2_with (first | (go_at_call 12; (with_reducible refine (cubbylaw08_sameFunc.calls k2 t392 t393 t394 _ _ t395 t401 t402 t403 _ _ t404 true _ ?side1 ?side2 ?side3 ?side4 A43.out).mono ?_); (case side1 => repeat (first | exact (Kd.R_reads' HO_401003.out).2.2 | (with_reducible refine Kd.C_alloc ?_ _) | (with_reducible refine Kd.C_drewN ?_ _) | (with_reducible refine Kd.C_drew ?_))); (case side2 => exact (Kd.R_reads' HO_401003.out).2.1); (case side3 => repeat (first | exact (Kd.R_reads' HO_410003.out).2.2 | (with_reducible refine Kd.C_alloc ?_ _) | (with_reducible refine Kd.C_drewN ?_ _) | (with_reducible refine Kd.C_drew ?_))); (case side4 => exact (Kd.R_reads' HO_410003.out).2.1); (try clear A43); rintro e w59 ⟨rfl, hb⟩; replace HO_401003 := zA (Kd.R_below (qR HO_401003.out) hb); replace HO_410003 := zA (Kd.R_below (qR HO_410003.out) hb); replace BK379 := qW BK379 hb; replace BK400 := qW BK400 hb; replace BK409 := qW BK409 hb; replace HB := qH hb; (try clear hb)))
             go_ret
             exact ⟨qE, qB⟩
           ·replace c44 := Bool.eq_false_iff.mpr c44
            subst c44
            have H1 : (some false) = some r := by rw [zD (show ¬ (false = true) by decide)] at H; exact H
            clear H
            have H := H1
            clear H1
            exact absurd ((zI H).trans HRt.out) (by decide)
          ·rw [zD c42] at H
           obtain ⟨c42b0, c42b1⟩ := qn c42
           exact absurd ((zI H).trans HRt.out) (by decide)
         ·rw [zD c41] at H
          obtain ⟨c41b0, c41b1⟩ := qn c41
          exact absurd ((zI H).trans HRt.out) (by decide)
     ·rw [zD c19] at H
      exact absurd H (by simp)
    ·rw [zD c18] at H
     obtain ⟨c18b0, c18b1⟩ := qn c18
     replace H := Option.bind_eq_some_iff.mp H
     obtain ⟨⟨t383, t384, t385, t386, t389, t390⟩, A600, H⟩ := H
     replace H : (if t389 = 1 then (some (t390 == 80)) else (some false)) = some r := H
     have A60 := zA A600
     clear A600
     by_cases c61 : t389 = 1
     ·rw [zC c61] at H
      obtain ⟨c61b0, c61b1⟩ := qe c61; clear c61
      obtain rfl := zI H
      have z62_0 := bk4 BK379.out
      go_wp2_with (first | ((with_reducible refine gate_callee (f := 9) rfl ?_); refine goesL_ (some 34) rfl rfl Tryd.func9 (by kernel_rfl) rfl #[.agg #[.string a0_0, .int .i64 a0_1, .int .i64 a0_2, .slice A0_3 l0_3.length c0_3]] rfl qL ?_; (with_reducible refine (cubbyref08_Print.calls kj2 a0_0 a0_1 a0_2 _ _ l0_3 t381 t382 _ ?side1 ?side2 A17.out).mono ?_); (case side1 => exact qCB HR0_3.out); (case side2 => exact HC0_3.out); rintro e w63 ⟨rfl, hb⟩; refine ⟨_, rfl, ?_⟩; replace BK379 := qW BK379 hb; replace HB := qH hb; (try clear hb)) | ((with_reducible refine gate_callee (f := 10) rfl ?_); refine goesL_ (some 40) rfl rfl Tryd.func10 (by kernel_rfl) rfl #[.string (⟨#[]⟩ : ByteArray)] rfl qL ?_; (with_reducible refine (text_Parse.calls (⟨#[]⟩ : ByteArray) t383 t384 t385 t386 t389 t390 _ A60.out (hL := ?side99)).mono ?_); (case side99 => exact LaidW.below HLd.out qB); rintro e w64 ⟨v387, rfl, ho0, hb⟩; refine ⟨_, rfl, ?_⟩; have HO388 := zA (Kd.R_lower ho0 (below_size qB)); replace BK379 := qW BK379 hb; replace HB := qH hb; (try clear hb); (try clear ho0)) | ((with_reducible refine gate_dst (N := 7) rfl ?_); (try (refine gate_guard (by rfl) ?_; dsimp only)); refine box_event (by rfl) (N := 7) (by rfl) (cs := #[.string (⟨#[]⟩ : ByteArray), .int .i64 0, .int .i64 0, .slice none 0 0]) (t := 24) ?hr ?_; (case hr => go_simp <;> rfl); intro gb391 hg w65 hbox hb; replace HO388 := zA (Kd.R_below (qR HO388.out) hb); have BK391 := zA (hbox); have GW391 := qG hg; have GE391 := GW391; replace HB := qH hb; have NB379_391 := zA ((by rw [hg]; exact Nat.ne_of_lt (blk_lt (g := gb379) (o := .cells #[.string a0_0, .int .i64 a0_1, .int .i64 a0_2, .slice A0_3 l0_3.length c0_3] 24 (0, 0)) (qK BK379.out)) : gb379 ≠ gb391)); have NB391_379 := zA ((by rw [hg]; exact Nat.ne_of_gt (blk_lt (g := gb379) (o := .cells #[.string a0_0, .int .i64 a0_1, .int .i64 a0_2, .slice A0_3 l0_3.length c0_3] 24 (0, 0)) (qK BK379.out)) : gb391 ≠ gb379)); replace BK379 := qW BK379 hb; clear hb hbox hg; have hnb66 := NB391_379.out; have hnc66 := NB379_391.out; have z67_0 := bk4 BK391.out; obtain ⟨Ao68, co68, eo68⟩ := Kd.R_slice HO388.out; subst eo68))
      go_ret
      exact ⟨qE, qB⟩
     ·rw [zD c61] at H
      obtain ⟨c61b0, c61b1⟩ := qn c61
      exact absurd ((zI H).trans HRt.out) (by decide)
end Go.Proofs.YtniknpjeknmpjaaDoor.Q
namespace Go.Proofs.YtniknpjeknmpjaaDoor.RTextBehind
open Go Go.RowKit Go.Proofs.YtniknpjeknmpjaaDoorW.PrintWords Go.Proofs.YtniknpjeknmpjaaDoor.Q
set_option linter.unusedVariables false
def GIns (x : SIns) : Prop := (Lit.int .i64 (x.f0)).wf = true ∧ (Lit.int .i64 (x.f1)).wf = true ∧ (Lit.int .i64 (x.f2)).wf = true ∧ (Lit.int .i64 (x.f3)).wf = true ∧ (x.f4).size ≤ 140737488351232 ∧ ((x.f5).length * 8 ≤ 140737488351232 ∧ (x.f5).length ≤ maxLen ∧ ∀ y1 ∈ (x.f5), (Lit.int .i64 (y1)).wf = true)
def TextBehind.Pure : Prop := ∀ (a0_0 : ByteArray) (a0_1 : Int) (a0_2 : Int) (l0_3 : List (List (SIns))) (a1 : ByteArray), (a0_0).size ≤ 140737488351232 → (Lit.int .i64 (a0_1)).wf = true → (Lit.int .i64 (a0_2)).wf = true → ((l0_3).length * 24 ≤ 140737488351232 ∧ (l0_3).length ≤ maxLen ∧ ∀ y1 ∈ (l0_3), ((y1).length * 72 ≤ 140737488351232 ∧ (y1).length ≤ maxLen ∧ ∀ y2 ∈ (y1), GIns (y2))) → (a1).size ≤ 140737488351232 → ∃ k, cubbylaw08_TextBehind.f k a0_0 a0_1 a0_2 l0_3 a1 = some true
end Go.Proofs.YtniknpjeknmpjaaDoor.RTextBehind
namespace Go.Proofs.YtniknpjeknmpjaaDoor.PlainText
open Go Go.RowKit Go.Proofs.YtniknpjeknmpjaaDoorW.PrintWords Go.Proofs.YtniknpjeknmpjaaDoorW.PrintMore Go.Proofs.YtniknpjeknmpjaaDoor.Q Go.Proofs.YtniknpjeknmpjaaDoor.Plain Go.Proofs.YtniknpjeknmpjaaDoor.PlainNum Go.Proofs.YtniknpjeknmpjaaDoor.PlainName
set_option linter.unusedVariables false
set_option linter.unusedSimpArgs false
theorem rdT_at {xs : List SIns} {j : Nat} (h : j < xs.length) : rd_TIns xs (j : Int) = xs[j] := by unfold rd_TIns; simp [h]
theorem rdL_at {xs : List (List SIns)} {j : Nat} (h : j < xs.length) : rd_LIns xs (j : Int) = xs[j] := by unfold rd_LIns; simp [h]
theorem same_self (x : SIns) (hb : x.f5.length ≤ 1000000) : Ev (fun k => cubbyref07_Same.f k x.f0 x.f1 x.f2 x.f3 x.f4 x.f5 x.f0 x.f1 x.f2 x.f3 x.f4 x.f5) true := by
 have hl : ∀ (d j : Nat), x.f5.length - j = d → j ≤ x.f5.length → Ev (fun k => cubbyref07_Same.l0 k (j : Int) x.f0 x.f1 x.f2 x.f3 x.f4 x.f5 x.f0 x.f1 x.f2 x.f3 x.f4 x.f5) true := by
  intro d
  induction d with
  | zero =>
   intro j hd hj
   exact Ev.step (f := fun _ => some true) (fun k => by simp only [cubbyref07_Same.l0]; rw [zD (by omega)]) (Ev.now _)
  | succ d ih =>
   intro j hd hj
   refine Ev.step (fun k => ?_) (ih (j + 1) (by omega) (by omega))
   simp only [cubbyref07_Same.l0]
   rw [zC (by omega), zC (by omega), zC (by omega), zC trivial, wrap_nat (by omega)]
 have e : ((x.f5.length : Int) != (x.f5.length : Int)) = false := by simp
 refine Ev.congr (f := fun k => cubbyref07_Same.j0 k false x.f0 x.f1 x.f2 x.f3 x.f4 x.f5 x.f0 x.f1 x.f2 x.f3 x.f4 x.f5) (fun k => by unfold cubbyref07_Same.f; rw [zC rfl, zC rfl, zC rfl, zC rfl, zC rfl, e]) ?_
 exact Ev.step (fun k => by simp only [cubbyref07_Same.j0]; rw [zD (by simp)]; rfl) (hl _ 0 rfl (Nat.zero_le _))
structure FairL (B : Nat) (L : List (List SIns)) : Prop where
 len : L.length ≤ B
 row : ∀ b ∈ L, b.length ≤ B
 arg : ∀ b ∈ L, ∀ x ∈ b, x.f5.length ≤ B
theorem blocks_self (L : List (List SIns)) (h : FairL 1000000 L) : Ev (fun k => cubbyref07_Blocks.f k L L) true := by
 have hlen := h.len
 have hi : ∀ (i : Nat) (hi : i < L.length), Ev (fun k => cubbyref07_Blocks.l0 k L L ((i + 1 : Nat) : Int)) true → ∀ (d j : Nat), L[i].length - j = d → j ≤ L[i].length → Ev (fun k => cubbyref07_Blocks.l1 k L L (i : Int) (j : Int)) true := by
  intro i hi hn d
  have hbl := h.row _ (List.getElem_mem hi)
  have er := rdL_at hi
  induction d with
  | zero =>
   intro j hd hj
   refine Ev.step (fun k => ?_) hn
   simp only [cubbyref07_Blocks.l1]
   rw [zC (by omega), zC (by omega), er, zD (by omega), wrap_nat (by omega)]
  | succ d ih =>
   intro j hd hj
   have hj2 : j < L[i].length := by omega
   have ex := rdT_at hj2
   refine Ev.step (fun k => ?_) (Ev.bind (same_self L[i][j] (h.arg _ (List.getElem_mem hi) _ (List.getElem_mem hj2))) (f := fun k t => if t = true then (cubbyref07_Blocks.l1 k L L (i : Int) ((j + 1 : Nat) : Int)) else (some false)) (ih (j + 1) (by omega) (by omega)))
   simp only [cubbyref07_Blocks.l1]
   rw [zC (by omega), zC (by omega), er, zC (by omega), zC (by omega), zC (by omega), zC (by omega), ex, wrap_nat (by omega)]
 have ho : ∀ (d i : Nat), L.length - i = d → i ≤ L.length → Ev (fun k => cubbyref07_Blocks.l0 k L L (i : Int)) true := by
  intro d
  induction d with
  | zero =>
   intro i hd hj
   exact Ev.step (f := fun _ => some true) (fun k => by simp only [cubbyref07_Blocks.l0]; rw [zD (by omega)]) (Ev.now _)
  | succ d ih =>
   intro i hd hj
   have hi2 : i < L.length := by omega
   refine Ev.step (fun k => ?_) (hi i hi2 (ih (i + 1) (by omega) (by omega)) _ 0 rfl (Nat.zero_le _))
   simp only [cubbyref07_Blocks.l0]
   rw [zC (by omega), zC (by omega), zC (by omega), zC trivial]
   rfl
 exact Ev.congr (fun k => by unfold cubbyref07_Blocks.f; rw [zC rfl]; rfl) (ho _ 0 rfl (Nat.zero_le _))
theorem setF_f5 (c : UInt8) (n : Int) (x : SIns) : (setF c n x).f5 = x.f5 := by
 unfold setF
 repeat' split
 all_goals rfl
theorem fillR_f5 (ws : List ByteArray) : ∀ (fs : List UInt8) (at_ : Nat) (y : SIns), (fillR ws fs at_ y).2.f5.length ≤ y.f5.length + fs.length * ws.length
 | [], at_, y => by show y.f5.length ≤ _; omega
 | c :: r, at_, y => by
  have e : (c :: r).length * ws.length = r.length * ws.length + ws.length := by rw [List.length_cons, Nat.succ_mul]
  rw [e]
  unfold fillR
  split
  ·split
   ·split
    ·have := fillR_f5 ws r (at_ + 1) { y with f4 := ‹ByteArray› }
     exact Nat.le_trans this (by dsimp only; omega)
    ·dsimp only; omega
   ·dsimp only; omega
  ·split
   ·split
    ·next l hl =>
     have h1 := mapM_len hl
     have h2 := fillR_f5 ws r at_ { y with f5 := y.f5 ++ l }
     refine Nat.le_trans h2 ?_
     dsimp only
     rw [List.length_append, h1, List.length_drop]
     omega
    ·dsimp only; omega
   ·split
    ·split
     ·next n hn =>
      have h2 := fillR_f5 ws r (at_ + 1) (setF c n y)
      rw [setF_f5] at h2
      omega
     ·dsimp only; omega
    ·dsimp only; omega
theorem byOf_size {wd : ByteArray} {code : Bool} {r : Int × ByteArray × ByteArray} (h : byOf wd code = some r) : r.2.2.size ≤ 3 := by
 obtain ⟨j, _, _, h3⟩ := byFrom_some h
 obtain ⟨_, _, _, h4, _⟩ := isBy_some h3
 rcases op_cases j with rfl | rfl | rfl | rfl | rfl | rfl | rfl | rfl | rfl | rfl | rfl | rfl | rfl | rfl | rfl | rfl | rfl | ho
 case inr.inr.inr.inr.inr.inr.inr.inr.inr.inr.inr.inr.inr.inr.inr.inr.inr =>
  rw [text_of_none (.inr ho)] at h4
  simp only [Option.some.injEq, Prod.mk.injEq] at h4
  exact absurd h4.2.2.2 (by decide)
 all_goals
  cases code
  all_goals
   first
    | (injection h4 with h4
       simp only [Prod.mk.injEq] at h4
       exact absurd h4.2.2.2 (by decide))
    | (injection h4 with h4
       simp only [Prod.mk.injEq] at h4
       obtain ⟨-, -, h5, -⟩ := h4
       rw [← h5]
       decide)
theorem lineP_f5 {s : PS} {ws : List ByteArray} {B : Nat} (h : ∀ b ∈ s.blocks, ∀ x ∈ b, x.f5.length ≤ B) (hw : 3 * ws.length ≤ B) : ∀ b ∈ (lineP s ws).2.blocks, ∀ x ∈ b, x.f5.length ≤ B := by
 unfold lineP
 split
 ·exact h
 ·next w0 rest =>
  split
  ·intro b hb
   rcases List.mem_append.1 hb with hb | hb
   ·exact h b hb
   ·rw [List.mem_singleton.1 hb]; intro x hx; cases hx
  ·split
   ·exact h
   ·next op wd fs hby =>
    have hfs := byOf_size hby
    split
    ·exact h
    ·split
     ·exact h
     ·split
      ·intro b hb x hx
       rcases List.mem_or_eq_of_mem_set hb with hb | hb
       ·exact h b hb x hx
       ·rw [hb] at hx
        rcases List.mem_append.1 hx with hx | hx
        ·by_cases hl : s.blocks.length - 1 < s.blocks.length
         ·rw [List.getD_eq_getElem?_getD, List.getElem?_eq_getElem hl] at hx
          exact h _ (List.getElem_mem hl) x hx
         ·rw [List.getD_eq_getElem?_getD, List.getElem?_eq_none (by omega)] at hx
          cases hx
        ·rw [List.mem_singleton.1 hx]
         have h1 := fillR_f5 rest fs.data.toList 0 (insOp op)
         have h2 : fs.data.toList.length = fs.size := by simp
         have h3 : (insOp op).f5.length = 0 := rfl
         have h4 : fs.data.toList.length * rest.length ≤ 3 * rest.length := Nat.mul_le_mul_right _ (by rw [h2]; exact hfs)
         rw [List.length_cons] at hw
         omega
      ·exact h
theorem parseR_fair (S B : Nat) (hB : 3 * (S + 1) ≤ B) : ∀ (k n : Nat) (st : PS) (s : ByteArray), s.size ≤ S → n + k ≤ B → st.blocks.length ≤ n → (∀ b ∈ st.blocks, b.length ≤ n) → (∀ b ∈ st.blocks, ∀ x ∈ b, x.f5.length ≤ B) → FairL B (parseR k n st s).2.2.blocks
 | 0, n, st, s, hs, hk, h1, h2, h3 => ⟨by show st.blocks.length ≤ B; omega, fun b hb => Nat.le_trans (h2 b hb) (by omega), h3⟩
 | k + 1, n, st, s, hs, hk, h1, h2, h3 => by
  have stop : FairL B st.blocks := ⟨by omega, fun b hb => Nat.le_trans (h2 b hb) (by omega), h3⟩
  unfold parseR
  split
  ·exact stop
  ·split
   ·obtain ⟨_, q1, q2⟩ := stepP_keep n st (cutB s).1 h1 h2
    have hc := cutB_le s
    have hs2 : (cutB s).2.size ≤ S := by
     by_cases hz : s.size = 0
     ·have : (cutB s).2.size ≤ s.size := by
       unfold cutB
       split
       ·simp only [ByteArray.size_extract]; omega
       ·show 0 ≤ _; omega
      omega
     ·have := cutB_less hz; omega
    refine parseR_fair S B hB k (n + 1) _ _ hs2 (by omega) q1 q2 ?_
    unfold stepP
    split
    ·exact h3
    ·split
     ·rw [(topP_keep st _).2]; exact h3
     ·refine lineP_f5 h3 ?_
      have := splitB_lenle (trimB (cutB s).1)
      have := trimB_le (cutB s).1
      omega
   ·exact stop
theorem parseAll_fair {st : PS} {s : ByteArray} (hb : st.blocks = []) (hs : s.size ≤ 90000) : FairL 1000000 (parseAll st s).2.2.blocks := by
 unfold parseAll
 split
 ·show FairL _ st.blocks
  rw [hb]
  exact ⟨by simp, fun b h => (by cases h), fun b h => (by cases h)⟩
 ·exact parseR_fair 90000 1000000 (by omega) _ 0 st s hs (by omega) (by rw [hb]; simp) (fun b h => by rw [hb] at h; cases h) (fun b h => by rw [hb] at h; cases h)
theorem fair_nil (B : Nat) : FairL B [] := ⟨by simp, fun b h => (by cases h), fun b h => (by cases h)⟩
theorem parse_some {a : ByteArray} (h : a.size ≤ 90000) : ∃ V, text_Parse.f a = some V ∧ FairL 1000000 V.2.2.2.1 ∧ (V.2.2.2.2.2 = 0 ∨ V.2.2.2.2.1 = (parseAll psFunc a).1) := by
 unfold text_Parse.f
 rw [zC h]
 split
 ·exact ⟨_, rfl, parseAll_fair rfl h, .inl rfl⟩
 ·exact ⟨_, rfl, fair_nil _, .inr rfl⟩
end Go.Proofs.YtniknpjeknmpjaaDoor.PlainText
namespace Go.Proofs.YtniknpjeknmpjaaDoor.PlainNum
open Go Go.RowKit Go.Proofs.YtniknpjeknmpjaaDoorW.PrintWords Go.Proofs.YtniknpjeknmpjaaDoorW.PrintMore Go.Proofs.YtniknpjeknmpjaaDoor.Q Go.Proofs.YtniknpjeknmpjaaDoor.Plain
set_option linter.unusedVariables false
theorem digits_loop : ∀ (d : Nat) (n : Nat) (acc : ByteArray), n < 10 ^ (d + 1) → n ≤ 4611686018427387904 → acc.size + d ≤ 1000 → Ev (fun k => cubbyref08_Digits.l0 k (n : Int) acc) (⟨(Lib.decDigits n ++ acc.data.toList).toArray⟩ : ByteArray)
 | d, n, acc, hn, hb, ha => by
  by_cases h : n < 10
  ·refine ⟨1, fun k hk => ?_⟩
   obtain ⟨q, rfl⟩ : ∃ q, k = q + 1 := ⟨k - 1, by omega⟩
   simp only [cubbyref08_Digits.l0]
   have e1 : wrap64 ((n : Int) + 1) = ((n + 1 : Nat) : Int) := wrap_nat (by omega)
   rw [zD (by omega), zC (by omega), e1, zC (by omega), zC (by omega), Int.toNat_natCast, Int.toNat_natCast]
   have e2 := tens_size h
   rw [zC (by rw [e2]; omega)]
   congr 1
   refine ba_ext ?_
   rw [ByteArray.data_append, Array.toList_append, dec_small h]
   rw [show ((⟨#[48, 49, 50, 51, 52, 53, 54, 55, 56, 57]⟩ : ByteArray).extract n (n + 1)).data.toList = [UInt8.ofNat (48 + n)] from tens_at h]
  ·cases d with
   | zero => simp at hn; omega
   | succ d =>
    have hq : n / 10 < 10 ^ (d + 1) := by rw [Nat.pow_succ] at hn; omega
    have hm : n % 10 < 10 := by omega
    have e2 := tens_size hm
    have e0 : Int.tmod (n : Int) 10 = ((n % 10 : Nat) : Int) := by rw [Int.tmod_eq_emod_of_nonneg (by omega)]; omega
    have e1 : wrap64 (((n % 10 : Nat) : Int) + 1) = ((n % 10 + 1 : Nat) : Int) := wrap_nat (by omega)
    have e3 : wrap64 (Int.tdiv (n : Int) 10) = ((n / 10 : Nat) : Int) := by rw [Int.tdiv_eq_ediv_of_nonneg (by omega), wrap_id (by omega) (by omega)]; omega
    have ih := digits_loop d (n / 10) ((⟨#[48, 49, 50, 51, 52, 53, 54, 55, 56, 57]⟩ : ByteArray).extract (n % 10) (n % 10 + 1) ++ acc) hq (by omega) (by rw [ByteArray.size_append, e2]; omega)
    have e4 : (Lib.decDigits (n / 10) ++ ((⟨#[48, 49, 50, 51, 52, 53, 54, 55, 56, 57]⟩ : ByteArray).extract (n % 10) (n % 10 + 1) ++ acc).data.toList) = Lib.decDigits n ++ acc.data.toList := by
     rw [ByteArray.data_append, Array.toList_append, dec_big h, List.append_assoc, show ((⟨#[48, 49, 50, 51, 52, 53, 54, 55, 56, 57]⟩ : ByteArray).extract (n % 10) (n % 10 + 1)).data.toList = [UInt8.ofNat (48 + n % 10)] from tens_at hm]
    rw [e4] at ih
    refine Ev.step (fun k => ?_) ih
    simp only [cubbyref08_Digits.l0]
    rw [zC (by omega), e0, zC (by omega), e1, zC (by omega), zC (by omega), Int.toNat_natCast, Int.toNat_natCast, zC (by rw [e2]; omega), e3]
theorem digits_ev {n : Int} (h0 : 0 ≤ n) (h1 : n < 2147483648) : Ev (fun k => cubbyref08_Digits.f k n) (num n) := by
 obtain ⟨m, rfl⟩ : ∃ m : Nat, n = m := ⟨n.toNat, by omega⟩
 have h := digits_loop 9 m ⟨#[]⟩ (by have e10 : (10 : Nat) ^ (9 + 1) = 10000000000 := (by decide); omega) (by omega) (by decide)
 simp only [List.append_nil] at h
 exact h
end Go.Proofs.YtniknpjeknmpjaaDoor.PlainNum
namespace Go.Proofs.YtniknpjeknmpjaaDoor.Q
open Go.RowKit Go.Shelf Go.Proofs.YtniknpjeknmpjaaDoor.Plain Go.Proofs.YtniknpjeknmpjaaDoorW.PrintWords Go.Proofs.YtniknpjeknmpjaaDoorW.PrintLast Go.Proofs.YtniknpjeknmpjaaDoorW.PrintMore
set_option linter.unusedVariables false
set_option linter.unusedSimpArgs false
structure PrAt (base gp : Nat) (buf : List UInt8) (e : Int) (w : World) : Prop where
 ge : base ≤ gp
 at_ : ∃ (p : Option Addr) (v : Value), w.heap[gp]? = some (.cells #[.pointer p, v, .int .i64 e] 50 (0, 0)) ∧ (p = none ∨ p = some ⟨gp, 0, none⟩) ∧ w.ownsRow base 5 1 v (Lib.byteCells buf).length (Lib.byteCells buf)
theorem PrAt.below {base gp : Nat} {buf : List UInt8} {e : Int} {w w1 : World} (h : PrAt base gp buf e w) (hb : Below w.heap.size w w1) : PrAt base gp buf e w1 := by
 obtain ⟨ge, p, v, hk, hp, ho⟩ := h
 exact ⟨ge, p, v, blk_below hk hb, hp, pw_own_below ho hb⟩
theorem own_ne {base gp : Nat} {w : World} {v : Value} {n : Nat} {bs : List Value} {p : Option Addr} {u : Value} {e : Int} (hk : w.heap[gp]? = some (.cells #[.pointer p, u, .int .i64 e] 50 (0, 0))) (ho : w.ownsRow base 5 1 v n bs) : v.ownBlock ≠ some gp := by
 intro h
 obtain ⟨cells, hc⟩ := own_typed ho gp h
 have := hk.symm.trans hc
 simp at this
def KeptT (gp : Nat) (w w' : World) : Prop := w.heap.size ≤ w'.heap.size ∧ ∀ (k : Nat) (o : Obj), w.heap[k]? = some o → (∀ cs fr, o ≠ .cells cs 5 fr) → k ≠ gp → w'.heap[k]? = some o
theorem KeptT.refl (gp : Nat) (w : World) : KeptT gp w w := ⟨Nat.le_refl _, fun _ _ h _ _ => h⟩
theorem KeptT.trans {gp : Nat} {w w1 w2 : World} (h : KeptT gp w w1) (h2 : KeptT gp w1 w2) : KeptT gp w w2 := ⟨Nat.le_trans h.1 h2.1, fun k o hk ht hg => h2.2 k o (h.2 k o hk ht hg) ht hg⟩
theorem KeptT.below {gp : Nat} {w w1 w2 : World} (h : KeptT gp w w1) (hb : Below w1.heap.size w1 w2) : KeptT gp w w2 := h.trans ⟨hb.size, fun k o hk _ _ => blk_below hk hb⟩
theorem KeptT.of_kept {gp : Nat} {w w1 : World} (h : Kept w w1 (fun k => k = gp)) : KeptT gp w w1 := ⟨h.1, fun k o hk _ hg => blk_kept hk h hg⟩
theorem KeptT.set {gp : Nat} {w w1 : World} (h : KeptT gp w w1) (i : Nat) (v : Value) : KeptT gp w (w1.setCell ⟨gp, i, none⟩ v) := h.trans (KeptT.of_kept (Kept.setCell (S := fun k => k = gp) (Kept.refl _ _) (.inl rfl) _))
theorem KeptT.grown {gp : Nat} {w w1 w2 : World} {v : Value} {n : Nat} {bs : List Value} {base : Nat} (h : KeptT gp w w1) (ho : w1.ownsRow base 5 1 v n bs) (hg : w1.grownBy w2 v.ownBlock) : KeptT gp w w2 := by
 refine h.trans ⟨hg.size, fun k o hk ht hgp => (hg.block k (blk_lt hk) (fun e => ?_)).trans hk⟩
 obtain ⟨cells, hc⟩ := own_typed ho k e.symm
 exact ht cells (0, 0) (zI (hk.symm.trans hc))
theorem iter_cells {w : World} {k0 : Nat} {s : ByteArray} {p q : Nat} (hi : w.heap[k0]? = some (.stringIter s p)) {k t : Nat} {cs : Array Value} {fr : Nat × Nat} (hk : w.heap[k]? = some (.cells cs t fr)) : (w.iterAt k0 s q).heap[k]? = some (.cells cs t fr) := by
 refine (Lib.iterAt_other w k0 k s q (fun e => ?_)).trans hk
 subst e
 have := hi.symm.trans hk
 simp at this
def keepE (e e1 : Int) : Int := if e = 0 then e1 else e
inductive Part where
 | num (n : Int)
 | nm (s : ByteArray)
def Part.text : Part → List UInt8
 | .num n => Lib.itoa n
 | .nm s => s.data.toList
def Part.err : Part → Int
 | .num n => if n < 0 ∨ 2147483648 ≤ n then 81 else 0
 | .nm _ => 0
def PartAt (gp : Nat) (w : World) (v : Value) : Part → Prop
 | .num n => ∃ b1 b2, v = .func (.func 30) #[] #[.pointer (some ⟨b1, 0, none⟩), .pointer (some ⟨b2, 0, none⟩)] ∧ w.heap[b1]? = some (.cells #[.int .i64 n] 3 (0, 0)) ∧ w.heap[b2]? = some (.cells #[.pointer (some ⟨gp, 0, none⟩)] 44 (0, 0))
 | .nm s => ∃ b, v = .func (.func 29) #[] #[.pointer (some ⟨b, 0, none⟩)] ∧ w.heap[b]? = some (.cells #[.string s] 9 (0, 0))
theorem kept_blk {gp : Nat} {buf : List UInt8} {e : Int} {base : Nat} {w w' : World} (hp : PrAt base gp buf e w) (h : KeptT gp w w') {k t : Nat} {cs : Array Value} (hk : w.heap[k]? = some (.cells cs t (0, 0))) (ht : t ≠ 5) (hn : t ≠ 50) : w'.heap[k]? = some (.cells cs t (0, 0)) := by
 refine h.2 k _ hk (fun c f e => ht (by injection e)) (fun e_ => ?_)
 subst e_
 obtain ⟨_, p, v, h2, _⟩ := hp
 have := hk.symm.trans h2
 simp at this
 exact hn this.2
theorem PartAt.kept {gp : Nat} {buf : List UInt8} {e : Int} {base : Nat} {w w' : World} {v : Value} {p : Part} (hp : PrAt base gp buf e w) (h : KeptT gp w w') (hv : PartAt gp w v p) : PartAt gp w' v p := by
 cases p with
 | num n =>
  obtain ⟨b1, b2, rfl, h1, h2⟩ := hv
  exact ⟨b1, b2, rfl, kept_blk hp h h1 (by decide) (by decide), kept_blk hp h h2 (by decide) (by decide)⟩
 | nm s =>
  obtain ⟨b, rfl, h1⟩ := hv
  exact ⟨b, rfl, kept_blk hp h h1 (by decide) (by decide)⟩
theorem PartAt.below {gp : Nat} {w w' : World} {v : Value} {p : Part} (hb : Below w.heap.size w w') (hv : PartAt gp w v p) : PartAt gp w' v p := by
 cases p with
 | num n =>
  obtain ⟨b1, b2, rfl, h1, h2⟩ := hv
  exact ⟨b1, b2, rfl, blk_below h1 hb, blk_below h2 hb⟩
 | nm s =>
  obtain ⟨b, rfl, h1⟩ := hv
  exact ⟨b, rfl, blk_below h1 hb⟩
section
variable {gp : Nat} {buf : List UInt8} {e0 : Int} {w0 w : World}
theorem R_keptT {α : Type} {d : Kd α} {e base : Nat} {ok : Nat → Prop} {v : Value} {xs : List α} {w' : World} (hr : d.R e w base ok v xs) (hp : PrAt w0.heap.size gp buf e0 w) (ht : KeptT gp w w') (hty : ∀ q, q ∈ e :: d.E → q ≠ 5 ∧ q ≠ 50) : d.R e w' base ok v xs := by
 refine Kd.R_mono (Kd.R_step (Kd.R_bound hr) (fun k hk _ => ?_)) (fun k hk => hk.1)
 obtain ⟨_, _, _, q, hq, cells, hc⟩ := hk
 exact (kept_blk hp ht hc (hty q hq).1 (hty q hq).2).trans hc.symm
def Part.str : Part → ByteArray
 | .num n => ⟨(Lib.itoa n).toArray⟩
 | .nm s => s
theorem PrAt.grown {α : Type} {d : Kd α} {t base : Nat} {ok : Nat → Prop} {v : Value} {xs : List α} {w' : World} (hp : PrAt w0.heap.size gp buf e0 w) (hr : d.R t w base ok v xs) (hg : w.grownBy w' v.ownBlock) (h1 : t ≠ 5) (h2 : t ≠ 50) : PrAt w0.heap.size gp buf e0 w' := by
 obtain ⟨ge, p, u, hk, hpp, ho⟩ := hp
 have n1 : ∀ k, v.ownBlock = some k → k ≠ gp := fun k hk' e => by
  obtain ⟨cells, hc⟩ := Kd.R_typed hr k hk'
  subst e
  have := hk.symm.trans hc
  simp at this
  exact h2 this.2.symm
 refine ⟨ge, p, u, (hg.block gp (blk_lt hk) (fun e => n1 gp e.symm rfl)).trans hk, hpp, own_other ho hg ?_⟩
 cases hu : u.ownBlock with
 | none => exact .inl rfl
 | some k =>
  refine .inr (fun e => ?_)
  obtain ⟨c1, h3⟩ := own_typed ho k hu
  obtain ⟨c2, h4⟩ := Kd.R_typed hr k e.symm
  have := h3.symm.trans h4
  simp at this
  exact h1 this.2.symm
theorem KeptT.later {w1 w' : World} (h : KeptT gp w w1) (hb : Below w.heap.size w1 w') : KeptT gp w w' := ⟨Nat.le_trans h.1 hb.size, fun k o hk ht hg => (hb.block k (blk_lt hk)).trans (h.2 k o hk ht hg)⟩
def PartsAt (gp : Nat) (w : World) (A : Option Addr) (ps : List Part) : Prop := ps = [] ∨ ∃ (bp : Nat) (cs : Array Value), A = some ⟨bp, 0, none⟩ ∧ w.heap[bp]? = some (.cells cs 52 (0, 0)) ∧ ∀ (j : Nat) p, ps[j]? = some p → ∃ v, cs[j]? = some v ∧ PartAt gp w v p
theorem PartsAt.kept {A : Option Addr} {ps : List Part} {w' : World} (hp : PrAt w0.heap.size gp buf e0 w) (ht : KeptT gp w w') (h : PartsAt gp w A ps) : PartsAt gp w' A ps := by
 rcases h with h | ⟨bp, cs, e, hk, hc⟩
 ·exact .inl h
 ·exact .inr ⟨bp, cs, e, kept_blk hp ht hk (by decide) (by decide), fun j p hj => by obtain ⟨v, h1, h2⟩ := hc j p hj; exact ⟨v, h1, h2.kept hp ht⟩⟩
theorem PartsAt.below {A : Option Addr} {ps : List Part} {w' : World} (hb : Below w.heap.size w w') (h : PartsAt gp w A ps) : PartsAt gp w' A ps := by
 rcases h with h | ⟨bp, cs, e, hk, hc⟩
 ·exact .inl h
 ·exact .inr ⟨bp, cs, e, blk_below hk hb, fun j p hj => by obtain ⟨v, h1, h2⟩ := hc j p hj; exact ⟨v, h1, h2.below hb⟩⟩
def errsOf (e : Int) (ps : List Part) : Int := ps.foldl (fun e p => keepE e p.err) e
def lineBytes (wd : ByteArray) (ps : List Part) : List UInt8 := Lib.join ((wd :: ps.map Part.str).map (·.data.toList)) [32] ++ [10]
def PartOk : Part → Prop
 | .num n => -9223372036854775808 ≤ n ∧ n ≤ 9223372036854775807
 | .nm _ => True
end
inductive Clo where
 | num (b1 b2 : Nat)
 | nm (b : Nat)
def encClo : Clo → Value
 | .num b1 b2 => .func (.func 30) #[] #[.pointer (some ⟨b1, 0, none⟩), .pointer (some ⟨b2, 0, none⟩)]
 | .nm b => .func (.func 29) #[] #[.pointer (some ⟨b, 0, none⟩)]
theorem encClo_one : ∀ c : Clo, (encClo c).oneCell' = true
 | .num _ _ => rfl
 | .nm _ => rfl
abbrev kClo : Kd Clo := Kd.scalar encClo encClo_one
def fieldParts (x : SIns) (c : UInt8) : List Part :=
 if c = 68 then [.num x.f1] else if c = 65 then [.num x.f2] else if c = 66 then [.num x.f3] else if c = 78 then [.nm x.f4] else if c = 76 then x.f5.map .num else []
def partsOf (x : SIns) (fs : List UInt8) : List Part := fs.flatMap (fieldParts x)
def nameErr (nb : Bool) (e : Int) (fs : List UInt8) : Int := fs.foldl (fun e c => if c = 78 then (if nb then e else keepE e 80) else e) e
structure ClosAt (gp : Nat) (w : World) (cl : List Clo) (ps : List Part) : Prop where
 len : cl.length = ps.length
 at_ : ∀ (j : Nat) (c : Clo) (p : Part), cl[j]? = some c → ps[j]? = some p → PartAt gp w (encClo c) p
theorem ClosAt.snoc {gp : Nat} {w : World} {cl : List Clo} {ps : List Part} {c : Clo} {p : Part} (h : ClosAt gp w cl ps) (hp : PartAt gp w (encClo c) p) : ClosAt gp w (cl ++ [c]) (ps ++ [p]) := by
 refine ⟨by simp [h.len], fun j c' p' h1 h2 => ?_⟩
 rcases Nat.lt_or_ge j cl.length with hj | hj
 ·rw [List.getElem?_append_left hj] at h1
  rw [List.getElem?_append_left (by rw [← h.len]; exact hj)] at h2
  exact h.at_ j c' p' h1 h2
 ·rw [List.getElem?_append_right hj] at h1
  rw [List.getElem?_append_right (by rw [← h.len]; exact hj), ← h.len] at h2
  rcases hq : j - cl.length with _ | q
  ·rw [hq] at h1 h2
   simp only [List.getElem?_cons_zero, Option.some.injEq] at h1 h2
   subst h1; subst h2; exact hp
  ·rw [hq] at h1; simp at h1
theorem ClosAt.kept {gp : Nat} {w w' : World} {cl : List Clo} {ps : List Part} {base : Nat} {buf : List UInt8} {e : Int} (hp : PrAt base gp buf e w) (ht : KeptT gp w w') (h : ClosAt gp w cl ps) : ClosAt gp w' cl ps :=
 ⟨h.len, fun j c p h1 h2 => (h.at_ j c p h1 h2).kept hp ht⟩
theorem ClosAt.below {gp : Nat} {w w' : World} {cl : List Clo} {ps : List Part} (hb : Below w.heap.size w w') (h : ClosAt gp w cl ps) : ClosAt gp w' cl ps :=
 ⟨h.len, fun j c p h1 h2 => (h.at_ j c p h1 h2).below hb⟩
def CellsKept (w w' : World) : Prop := ∀ (k : Nat) (cs : Array Value) (t : TypeId), w.heap[k]? = some (.cells cs t (0, 0)) → w'.heap[k]? = some (.cells cs t (0, 0))
theorem PartAt.cells {gp : Nat} {w w' : World} (hc : CellsKept w w') {v : Value} {p : Part} (h : PartAt gp w v p) : PartAt gp w' v p := by
 cases p with
 | num n => obtain ⟨b1, b2, rfl, h1, h2⟩ := h; exact ⟨b1, b2, rfl, hc _ _ _ h1, hc _ _ _ h2⟩
 | nm s => obtain ⟨b, rfl, h1⟩ := h; exact ⟨b, rfl, hc _ _ _ h1⟩
theorem ClosAt.cells {gp : Nat} {w w' : World} {cl : List Clo} {ps : List Part} (hc : CellsKept w w') (h : ClosAt gp w cl ps) : ClosAt gp w' cl ps := ⟨h.len, fun j c p h1 h2 => (h.at_ j c p h1 h2).cells hc⟩
theorem R_cells {α : Type} {d : Kd α} {e base : Nat} {ok : Nat → Prop} {v : Value} {xs : List α} {w w' : World} (hc : CellsKept w w') (h : d.R e w base ok v xs) : d.R e w' base ok v xs := by
 refine Kd.R_mono (Kd.R_step (Kd.R_bound h) (fun k hk _ => ?_)) (fun k hk => hk.1)
 obtain ⟨_, _, _, q, hq, cells, hk2⟩ := hk
 exact (hc k cells q hk2).trans hk2.symm
theorem PrAt.cells {base gp : Nat} {buf : List UInt8} {e : Int} {w w' : World} (hc : CellsKept w w') (h : PrAt base gp buf e w) : PrAt base gp buf e w' := by
 obtain ⟨ge, p, v, hk, hp, ho⟩ := h
 refine ⟨ge, p, v, hc _ _ _ hk, hp, ?_⟩
 refine ⟨ho.1, ?_⟩
 rcases ho.2 with h | ⟨g, cap, cur, hv, hb, hg, r⟩
 ·exact .inl h
 ·exact .inr ⟨g, cap, cur, hv, hb, hc _ _ _ hg, r⟩
theorem iter_kept {w : World} {k0 : Nat} {s : ByteArray} {p q : Nat} (hi : w.heap[k0]? = some (.stringIter s p)) : CellsKept w (w.iterAt k0 s q) := fun k cs t hk => iter_cells hi hk
theorem ClosAt.grownC {gp base : Nat} {ok : Nat → Prop} {v : Value} {xs : List Clo} {w w' : World} {cl : List Clo} {ps : List Part} (h : ClosAt gp w cl ps) (hr : kClo.R 52 w base ok v xs) (hg : w.grownBy w' v.ownBlock) : ClosAt gp w' cl ps := by
 have keep : ∀ (k tt : Nat) (cs : Array Value), w.heap[k]? = some (.cells cs tt (0, 0)) → tt ≠ 52 → w'.heap[k]? = some (.cells cs tt (0, 0)) := fun k tt cs hk ht => (hg.block k (blk_lt hk) (fun e => by
  obtain ⟨c2, h2⟩ := Kd.R_typed hr k e.symm
  have := hk.symm.trans h2
  simp at this
  exact ht this.2)).trans hk
 refine ⟨h.len, fun j c p h1 h2 => ?_⟩
 have hp := h.at_ j c p h1 h2
 cases p with
 | num n => obtain ⟨b1, b2, e, h3, h4⟩ := hp; exact ⟨b1, b2, e, keep _ _ _ h3 (by decide), keep _ _ _ h4 (by decide)⟩
 | nm s => obtain ⟨b, e, h3⟩ := hp; exact ⟨b, e, keep _ _ _ h3 (by decide)⟩
theorem grown_iter {base : Nat} {ok : Nat → Prop} {v : Value} {xs : List Clo} {w w' : World} {k0 p : Nat} {s : ByteArray} (hr : kClo.R 52 w base ok v xs) (hg : w.grownBy w' v.ownBlock) (hi : w.heap[k0]? = some (.stringIter s p)) : w'.heap[k0]? = some (.stringIter s p) :=
 (hg.block k0 (Array.getElem?_eq_some_iff.1 hi).1 (fun e => by
   obtain ⟨c2, h2⟩ := Kd.R_typed hr k0 e.symm
   have := hi.symm.trans h2
   simp at this)).trans hi
theorem grown_box {base t k : Nat} {cs : Array Value} {ok : Nat → Prop} {v : Value} {xs : List Clo} {w w' : World} (hr : kClo.R 52 w base ok v xs) (hg : w.grownBy w' v.ownBlock) (hk : w.heap[k]? = some (.cells cs t (0, 0))) (ht : t ≠ 52) : w'.heap[k]? = some (.cells cs t (0, 0)) :=
 (hg.block k (blk_lt hk) (fun e => by
   obtain ⟨c2, h2⟩ := Kd.R_typed hr k e.symm
   have := hk.symm.trans h2
   simp at this
   exact ht this.2)).trans hk
theorem box_kept {gp k t : Nat} {w w' : World} {cs : Array Value} (ht : KeptT gp w w') (hk : w.heap[k]? = some (.cells cs t (0, 0))) (h1 : t ≠ 5) (h2 : k ≠ gp) : w'.heap[k]? = some (.cells cs t (0, 0)) := ht.2 k _ hk (fun cs' fr e => by injection e with _ e2 _; exact h1 e2) h2
theorem it_kept {gp k p : Nat} {w w' : World} {s : ByteArray} (ht : KeptT gp w w') (hk : w.heap[k]? = some (.stringIter s p)) (h2 : k ≠ gp) : w'.heap[k]? = some (.stringIter s p) := ht.2 k _ hk (fun cs' fr e => by cases e) h2
structure InsSt (gp gx gf k0 : Nat) (cx cf : Array Value) (fs : ByteArray) (buf : List UInt8) (w0 w : World) (i : Nat) (v8 : Value) (cl : List Clo) (ps : List Part) (e1 : Int) (w' : World) : Prop where
 hp0 : gp < w.heap.size
 hx : w.heap.size ≤ gx
 hf : w.heap.size ≤ gf
 hi : w.heap.size ≤ k0
 h0 : w0.heap.size ≤ w.heap.size
 it : w'.heap[k0]? = some (.stringIter fs i)
 row : kClo.R 52 w' w.heap.size (fun _ => True) v8 cl
 cs : ClosAt gp w' cl ps
 pr : PrAt w0.heap.size gp buf e1 w'
 bl : Below w0.heap.size w0 w'
 kt : KeptT gp w w'
 bx : w'.heap[gx]? = some (.cells cx 43 (0, 0))
 bf : w'.heap[gf]? = some (.cells cf 94 (0, 0))
section
variable {gp gx gf k0 : Nat} {cx cf : Array Value} {fs : ByteArray} {buf : List UInt8} {w0 w w1 w2 : World} {i : Nat} {v8 : Value} {cl : List Clo} {ps : List Part} {e1 : Int}
theorem InsSt.next (s : InsSt gp gx gf k0 cx cf fs buf w0 w i v8 cl ps e1 w1) (j : Nat) : InsSt gp gx gf k0 cx cf fs buf w0 w j v8 cl ps e1 (w1.iterAt k0 fs j) where
 hp0 := s.hp0
 hx := s.hx
 hf := s.hf
 hi := s.hi
 h0 := s.h0
 it := Lib.iterAt_heap w1 k0 fs i j s.it
 row := R_cells (iter_kept s.it) s.row
 cs := s.cs.cells (iter_kept s.it)
 pr := s.pr.cells (iter_kept s.it)
 bl := Lib.below_iterAt s.bl (Nat.le_trans s.h0 s.hi) fs j
 kt := ⟨by rw [Lib.iterAt_size]; exact s.kt.1, fun k o hk ht hg => (Lib.iterAt_other w1 k0 k fs j (by have h1 := blk_lt hk; have h2 := s.hi; omega)).trans (s.kt.2 k o hk ht hg)⟩
 bx := iter_cells s.it s.bx
 bf := iter_cells s.it s.bf
theorem InsSt.kept {e2 : Int} (s : InsSt gp gx gf k0 cx cf fs buf w0 w i v8 cl ps e1 w1) (ht : KeptT gp w1 w2) (hp : PrAt w0.heap.size gp buf e2 w2) (hb : Below w0.heap.size w0 w2) : InsSt gp gx gf k0 cx cf fs buf w0 w i v8 cl ps e2 w2 where
 hp0 := s.hp0
 hx := s.hx
 hf := s.hf
 hi := s.hi
 h0 := s.h0
 it := it_kept ht s.it (by have := s.hp0; have := s.hi; omega)
 row := R_keptT s.row s.pr ht (by decide)
 cs := s.cs.kept s.pr ht
 pr := hp
 bl := hb
 kt := s.kt.trans ht
 bx := box_kept ht s.bx (by decide) (by have := s.hp0; have := s.hx; omega)
 bf := box_kept ht s.bf (by decide) (by have := s.hp0; have := s.hf; omega)
theorem InsSt.later (s : InsSt gp gx gf k0 cx cf fs buf w0 w i v8 cl ps e1 w1) (hb : Below w1.heap.size w1 w2) : InsSt gp gx gf k0 cx cf fs buf w0 w i v8 cl ps e1 w2 := s.kept ((KeptT.refl gp w1).below hb) (s.pr.below hb) (below_step s.bl hb)
theorem InsSt.app {v1 : Value} {c : Clo} {p : Part} (s : InsSt gp gx gf k0 cx cf fs buf w0 w i v8 cl ps e1 w1) (hp : PartAt gp w1 (encClo c) p) (ho : kClo.R 52 w2 w.heap.size (fun _ => True) v1 (cl ++ [c])) (hb : Below w.heap.size w1 w2) (hg : w1.grownBy w2 v8.ownBlock) : InsSt gp gx gf k0 cx cf fs buf w0 w i v1 (cl ++ [c]) (ps ++ [p]) e1 w2 where
 hp0 := s.hp0
 hx := s.hx
 hf := s.hf
 hi := s.hi
 h0 := s.h0
 it := grown_iter s.row hg s.it
 row := ho
 cs := (s.cs.snoc hp).grownC s.row hg
 pr := s.pr.grown s.row hg (by decide) (by decide)
 bl := s.bl.trans (hb.mono s.h0)
 kt := s.kt.later hb
 bx := grown_box s.row hg s.bx (by decide)
 bf := grown_box s.row hg s.bf (by decide)
end
theorem partsOf_len (x : SIns) : ∀ l : List UInt8, (partsOf x l).length ≤ l.length * (x.f5.length + 1)
 | [] => by simp [partsOf]
 | c :: l => by
  have h := partsOf_len x l
  have h2 : (fieldParts x c).length ≤ x.f5.length + 1 := by unfold fieldParts; (repeat' split) <;> simp
  have e : partsOf x (c :: l) = fieldParts x c ++ partsOf x l := by simp [partsOf]
  rw [e, List.length_append, List.length_cons, Nat.add_mul]; omega
def insText (code : Bool) (s : List UInt8 × Int) (x : SIns) : List UInt8 × Int := match text_of.f x.f0 code with
 | some (_, wd, fs, true) => (s.1 ++ lineBytes wd (partsOf x fs.data.toList), errsOf (nameErr ((ir_Name.f x.f4).getD false) s.2 fs.data.toList) (partsOf x fs.data.toList))
 | _ => (s.1, keepE s.2 80)
structure InsOk (code : Bool) (x : SIns) : Prop where
 of_ : ∃ op wd fs is, text_of.f x.f0 code = some (op, wd, fs, is) ∧ (∀ b ∈ fs.data.toList, b = 68 ∨ b = 65 ∨ b = 66 ∨ b = 78 ∨ b = 76) ∧ (∀ p ∈ partsOf x fs.data.toList, PartOk p) ∧ fs.size ≤ 10 ∧ (lineBytes wd (partsOf x fs.data.toList)).length ≤ 1000000000
 nm : ∃ nb, ir_Name.f x.f4 = some nb
 len : x.f5.length ≤ 1000
def blkText (code : Bool) (s : List UInt8 × Int) (xs : List SIns) : List UInt8 × Int := xs.foldl (insText code) (s.1 ++ [98, 108, 111, 99, 107, 10], s.2)
def blksText (code : Bool) (s : List UInt8 × Int) (l : List (List SIns)) : List UInt8 × Int := l.foldl (blkText code) s
theorem rd_TIns_at {xs : List SIns} {j : Nat} {x : SIns} (h : xs[j]? = some x) : rd_TIns xs (j : Int) = x := by unfold rd_TIns; simp [h]
theorem rd_LIns_at {xs : List (List SIns)} {j : Nat} {x : List SIns} (h : xs[j]? = some x) : rd_LIns xs (j : Int) = x := by unfold rd_LIns; simp [h]
section
variable {gp : Nat} {buf : List UInt8} {e0 : Int} {w0 w : World}
end
end Go.Proofs.YtniknpjeknmpjaaDoor.Q
namespace Go.Proofs.YtniknpjeknmpjaaDoor.PlainText
open Go Go.RowKit Go.Proofs.YtniknpjeknmpjaaDoorW.PrintWords Go.Proofs.YtniknpjeknmpjaaDoorW.PrintMore Go.Proofs.YtniknpjeknmpjaaDoor.Q Go.Proofs.YtniknpjeknmpjaaDoor.Plain Go.Proofs.YtniknpjeknmpjaaDoor.PlainNum Go.Proofs.YtniknpjeknmpjaaDoor.PlainName
set_option linter.unusedVariables false
set_option linter.unusedSimpArgs false
def good (n : Int) : Bool := decide (0 ≤ n ∧ n < 2147483648)
def tailB (name : ByteArray) (named : Bool) (b : Int) : Int → List Int → List UInt8
 | i, [] => if named = true ∧ i = b then 32 :: name.data.toList else []
 | i, n :: r => (if named = true ∧ i = b then 32 :: name.data.toList else []) ++ (32 :: Lib.decDigits n.toNat ++ tailB name named b (i + 1) r)
def sp : ByteArray := ⟨#[32]⟩
def lineR (w name : ByteArray) (named : Bool) (b : Int) (l : List Int) : ByteArray × Int :=
 if w.toList = [] ∨ (named = true ∧ nameOk name = false) then (emp, 80) else if l.all good = true then (⟨(w.data.toList ++ tailB name named b 0 l ++ [10]).toArray⟩, 0) else (emp, 81)
theorem apl (a b : ByteArray) : (a ++ b).data.toList = a.data.toList ++ b.data.toList := by rw [ByteArray.data_append, Array.toList_append]
theorem apz (a b : ByteArray) : (a ++ b).size = a.size + b.size := ByteArray.size_append
def withName (name : ByteArray) (named : Bool) (b : Int) (s : ByteArray) (i : Int) : ByteArray := if named = true ∧ i = b then (s ++ sp) ++ name else s
theorem withName_list (name : ByteArray) (named : Bool) (b : Int) (s : ByteArray) (i : Int) : (withName name named b s i).data.toList = s.data.toList ++ (if named = true ∧ i = b then 32 :: name.data.toList else []) := by
 unfold withName
 split
 ·rw [apl, apl]; simp [sp]
 ·simp
theorem withName_size (name : ByteArray) (named : Bool) (b : Int) (s : ByteArray) (i : Int) : (withName name named b s i).size ≤ s.size + 1 + name.size := by
 unfold withName
 split
 ·rw [apz, apz]; have : sp.size = 1 := rfl; omega
 ·omega
section
variable {name : ByteArray} {named : Bool} {b : Int} {L : List Int}
theorem line_head {s : ByteArray} {i : Int} {r : ByteArray × Int} (hi : i ≤ (L.length : Int)) (hs : s.size ≤ 4000000000000000000) (hn : name.size ≤ 1000) (h : Ev (fun k => cubbyref08_line.j3 k name named b L (withName name named b s i) i) r) : Ev (fun k => cubbyref08_line.l0 k name named b L s i) r := by
 have hsp : sp.size = 1 := rfl
 by_cases hc : named = true ∧ i = b
 ·have e : withName name named b s i = (s ++ sp) ++ name := zC hc
  rw [e] at h
  refine Ev.step (f := fun k => cubbyref08_line.j2 k name named b L s i (i == b)) (fun k => by simp only [cubbyref08_line.l0]; rw [zC hi, zC hc.1]) (Ev.step (fun k => ?_) h)
  simp only [cubbyref08_line.j2]
  rw [zC (by simpa using hc.2), zC (by omega), zC (by show (s ++ sp).size + _ ≤ _; rw [apz]; omega)]
  rfl
 ·have e : withName name named b s i = s := zD hc
  rw [e] at h
  by_cases hn2 : named = true
  ·refine Ev.step (f := fun k => cubbyref08_line.j2 k name named b L s i (i == b)) (fun k => by simp only [cubbyref08_line.l0]; rw [zC hi, zC hn2]) (Ev.step (fun k => ?_) h)
   simp only [cubbyref08_line.j2]
   rw [zD (by simpa using fun e => hc ⟨hn2, e⟩)]
  ·refine Ev.step (f := fun k => cubbyref08_line.j2 k name named b L s i false) (fun k => by simp only [cubbyref08_line.l0]; rw [zC hi, zD hn2]) (Ev.step (fun k => ?_) h)
   simp only [cubbyref08_line.j2]
   rw [zD (by simp)]
theorem line_loop (hn : name.size ≤ 300) (hL : L.length ≤ 1000) : ∀ (l : List Int) (j : Nat) (s : ByteArray), L.drop j = l → j ≤ L.length → s.size ≤ 1000 + 1000 * j →
 Ev (fun k => cubbyref08_line.l0 k name named b L s (j : Int)) (if l.all good = true then (⟨(s.data.toList ++ tailB name named b j l ++ [10]).toArray⟩, 0) else (emp, 81))
 | [], j, s, hl, hj, hs => by
  have hjl : j = L.length := by have := congrArg List.length hl; simp at this; omega
  have hz := withName_size name named b s j
  refine line_head (by omega) (by omega) (by omega) ?_
  refine Ev.step (f := fun k => cubbyref08_line.l0 k name named b L (withName name named b s j) ((j + 1 : Nat) : Int)) (fun k => by simp only [cubbyref08_line.j3]; rw [zD (by omega), wrap_nat (by omega)]) ?_
  refine ⟨1, fun k hk => ?_⟩
  obtain ⟨q, rfl⟩ : ∃ q, k = q + 1 := ⟨k - 1, by omega⟩
  simp only [cubbyref08_line.l0]
  rw [zD (by omega), zC (by omega), show (([] : List Int).all good) = true from rfl, zC rfl]
  congr 2
  refine ba_ext ?_
  rw [apl, withName_list]
  simp [tailB]
 | n :: l, j, s, hl, hj, hs => by
  have hlt : j < L.length := by
   rcases Nat.lt_or_ge j L.length with h | h
   ·exact h
   ·rw [List.drop_eq_nil_of_le h] at hl; cases hl
  rw [drop_cons hlt] at hl
  simp only [List.cons.injEq] at hl
  obtain ⟨hv, hl⟩ := hl
  have hrd : rd L (j : Int) = n := by rw [rd_get hlt, hv]
  have hz := withName_size name named b s j
  refine line_head (by omega) (by omega) (by omega) ?_
  by_cases hg : good n = true
  ·have hgn : 0 ≤ n ∧ n < 2147483648 := by simpa [good] using hg
   have hnz := num_size hgn.2
   have hsp : sp.size = 1 := rfl
   have ih := line_loop hn hL l (j + 1) ((withName name named b s j ++ sp) ++ num n) hl (by omega) (by rw [apz, apz]; omega)
   have e : (((withName name named b s j ++ sp) ++ num n).data.toList ++ tailB name named b ((j + 1 : Nat) : Int) l ++ [10]) = (s.data.toList ++ tailB name named b (j : Int) (n :: l) ++ [10]) := by
    rw [apl, apl, withName_list, num_list, tailB]
    simp [sp]
   rw [e] at ih
   rw [show (n :: l).all good = l.all good by simp [hg]]
   refine Ev.step (fun k => ?_) (Ev.bind (digits_ev hgn.1 hgn.2) (f := fun k t115 => (if (withName name named b s j ++ (⟨#[32]⟩ : ByteArray)).size + t115.size ≤ 9223372036854775807 then (cubbyref08_line.l0 k name named b L ((withName name named b s j ++ (⟨#[32]⟩ : ByteArray)) ++ t115) (wrap64 ((j : Int) + 1))) else (none))) ?_)
   ·simp only [cubbyref08_line.j3]
    rw [zC (by omega), zC (by omega), hrd, zD (by omega), zD (by omega), zC (by omega)]
   ·refine Ev.congr (fun k => ?_) ih
    rw [zC (by show (withName name named b s j ++ sp).size + _ ≤ _; rw [apz]; omega), wrap_nat (by omega)]
    rfl
  ·have hgn : n < 0 ∨ 2147483647 < n := by
    have : ¬ (0 ≤ n ∧ n < 2147483648) := by simpa [good] using hg
    omega
   rw [zD (by simp [hg])]
   refine ⟨1, fun k hk => ?_⟩
   obtain ⟨q, rfl⟩ : ∃ q, k = q + 1 := ⟨k - 1, by omega⟩
   simp only [cubbyref08_line.j3]
   rw [zC (by omega), zC (by omega), hrd]
   by_cases h0 : n < 0
   ·rw [zC h0]; rfl
   ·rw [zD h0, zC (by omega)]; rfl
end
theorem line_ev (w name : ByteArray) (named : Bool) (b : Int) (l : List Int) (hw : w.size ≤ 1000) (hn : name.size ≤ 300) (hl : l.length ≤ 1000) : Ev (fun k => cubbyref08_line.f k w name named b l) (lineR w name named b l) := by
 have no : ∀ g : Nat → Option (ByteArray × Int), (∀ k, g k = cubbyref08_line.j0 k w name named b l true) → w.toList = [] ∨ (named = true ∧ nameOk name = false) → Ev g (lineR w name named b l) := fun g hg hc => by
  have e : lineR w name named b l = (emp, 80) := zC hc
  rw [e]
  exact Ev.congr hg (Ev.step (f := fun _ => some (emp, 80)) (fun k => by simp only [cubbyref08_line.j0, if_true]; rfl) (Ev.now _))
 have yes : ∀ g : Nat → Option (ByteArray × Int), (∀ k, g k = cubbyref08_line.j0 k w name named b l false) → ¬ (w.toList = [] ∨ (named = true ∧ nameOk name = false)) → Ev g (lineR w name named b l) := fun g hg hc => by
  have e : lineR w name named b l = if l.all good = true then (⟨(w.data.toList ++ tailB name named b 0 l ++ [10]).toArray⟩, 0) else (emp, 81) := zD hc
  rw [e]
  exact Ev.congr hg (Ev.step (fun k => by simp only [cubbyref08_line.j0]; rw [zD (by simp)]; rfl) (line_loop hn hl l 0 w rfl (Nat.zero_le _) (by omega)))
 by_cases h0 : w.toList = []
 ·exact no _ (fun k => by unfold cubbyref08_line.f; rw [zC h0]) (.inl h0)
 by_cases h1 : named = true
 ·have hb : Ev (fun k => (cubbyref07_Name.f k name).bind fun t111 => (cubbyref08_line.j0 k w name named b l (!t111))) (lineR w name named b l) := by
   refine Ev.bind (f := fun k t111 => cubbyref08_line.j0 k w name named b l (!t111)) (refname_ev name) ?_
   cases hk : nameOk name with
   | false => exact no _ (fun k => rfl) (.inr ⟨h1, hk⟩)
   | true => exact yes _ (fun k => rfl) (by rintro (h | ⟨_, h⟩); exact h0 h; rw [hk] at h; cases h)
  exact Ev.congr (fun k => by unfold cubbyref08_line.f; rw [zD h0, zC h1]) hb
 ·exact yes _ (fun k => by unfold cubbyref08_line.f; rw [zD h0, zD h1]) (by rintro (h | ⟨h, _⟩); exact h0 h; exact h1 h)
theorem keepE_z (e : Int) : keepE e 0 = e := by unfold keepE; split <;> simp_all
theorem keepE_nz {e : Int} (h : e ≠ 0) (a : Int) : keepE e a = e := zD h
theorem keepE_assoc (a b c : Int) : keepE (keepE a b) c = keepE a (keepE b c) := by
 unfold keepE
 by_cases h : a = 0 <;> simp [h]
theorem errsOf_keep : ∀ (ps : List Part) (e : Int), errsOf e ps = keepE e (errsOf 0 ps)
 | [], e => (keepE_z e).symm
 | p :: ps, e => by
  have h1 : errsOf e (p :: ps) = errsOf (keepE e p.err) ps := rfl
  have h2 : errsOf 0 (p :: ps) = errsOf (keepE 0 p.err) ps := rfl
  rw [h1, h2, errsOf_keep ps, errsOf_keep ps (keepE 0 p.err), keepE_assoc, keepE_assoc]
  congr 1
theorem err_num (n : Int) : Part.err (.num n) = if good n = true then 0 else 81 := by
 show (if n < 0 ∨ 2147483648 ≤ n then (81 : Int) else 0) = _
 unfold good
 by_cases h : 0 ≤ n ∧ n < 2147483648
 ·rw [zD (by omega), zC (by simpa using h)]
 ·rw [zC (by omega), zD (by simpa using h)]
theorem errs_nums : ∀ l : List Int, errsOf 0 (l.map .num) = if l.all good = true then 0 else 81
 | [] => rfl
 | n :: l => by
  have h1 : errsOf 0 ((n :: l).map .num) = errsOf (keepE 0 (Part.err (.num n))) (l.map .num) := rfl
  rw [h1, errsOf_keep, err_num, errs_nums l]
  by_cases hg : good n = true
  ·simp [hg, keepE]
  ·simp [hg, keepE]
theorem join_flat (w : List UInt8) (l : List (List UInt8)) : Lib.join (w :: l) [32] = w ++ l.flatMap (fun t => 32 :: t) := by
 rw [Lib.join_cons]
 unfold Lib.joinTail
 rw [List.flatMap_def]
 rfl
theorem lineBytes_flat (wd : ByteArray) (ps : List Part) : lineBytes wd ps = wd.data.toList ++ ps.flatMap (fun p => 32 :: p.str.data.toList) ++ [10] := by
 unfold lineBytes
 rw [List.map_cons, join_flat, List.map_map, List.flatMap_map]
 rfl
theorem str_num {n : Int} (h : good n = true) : (Part.str (.num n)).data.toList = Lib.decDigits n.toNat := by
 have hg : 0 ≤ n ∧ n < 2147483648 := by simpa [good] using h
 show (⟨(Lib.itoa n).toArray⟩ : ByteArray).data.toList = _
 rw [itoa_num hg.1, num_list]
theorem tail_plain (name : ByteArray) (named : Bool) (b : Int) : ∀ (l : List Int) (i : Int), (named = true → b < i) → l.all good = true → tailB name named b i l = (l.map Part.num).flatMap (fun p => 32 :: p.str.data.toList)
 | [], i, h, hg => by
  unfold tailB
  rw [zD (by rintro ⟨h1, h2⟩; have := h h1; omega)]; rfl
 | n :: l, i, h, hg => by
  simp only [List.all_cons, Bool.and_eq_true] at hg
  unfold tailB
  rw [zD (by rintro ⟨h1, h2⟩; have := h h1; omega), tail_plain name named b l (i + 1) (fun h1 => by have := h h1; omega) hg.2]
  simp [str_num hg.1]
end Go.Proofs.YtniknpjeknmpjaaDoor.PlainText
namespace Go.Proofs.YtniknpjeknmpjaaDoor.Q
open Go.RowKit Go.Shelf Go.Proofs.YtniknpjeknmpjaaDoor.Plain Go.Proofs.YtniknpjeknmpjaaDoorW.PrintWords Go.Proofs.YtniknpjeknmpjaaDoorW.PrintLast Go.Proofs.YtniknpjeknmpjaaDoorW.PrintMore
set_option linter.unusedVariables false
set_option linter.unusedSimpArgs false
def printHead (a0 : ByteArray) (a1 a2 : Int) : List UInt8 × Int := (lineBytes (⟨#[102, 117, 110, 99]⟩ : ByteArray) [.nm a0, .num a1, .num a2], errsOf (if (ir_Name.f a0).getD false then 0 else keepE 0 80) [.nm a0, .num a1, .num a2])
def printS (a0 : ByteArray) (a1 a2 : Int) (l : List (List SIns)) : List UInt8 × Int := blksText false (printHead a0 a1 a2) l
end Go.Proofs.YtniknpjeknmpjaaDoor.Q
