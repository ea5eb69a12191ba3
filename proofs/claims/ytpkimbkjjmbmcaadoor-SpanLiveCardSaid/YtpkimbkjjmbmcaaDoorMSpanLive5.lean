/- SpanLive: parts of the proofs, put together. -/
import Derived.OpenShut
import Derived.Laws.BitsAllLaws
import Derived.Lib.TrailingZeros
import Derived.Test.YtpkimbkjjmbmcaaDoorMSpanLive1
import Derived.Test.YtpkimbkjjmbmcaaDoorMSpanLive2
import Derived.Test.YtpkimbkjjmbmcaaDoorMSpanLive3
import Derived.Test.YtpkimbkjjmbmcaaDoorMSpanLive4
namespace Go.Proofs.YtpkimbkjjmbmcaaDoor.Q
open Go.RowKit Go.Proofs.YtpkimbkjjmbmcaaDoorW.PrintWords Go.Proofs.YtpkimbkjjmbmcaaDoorW.PrintLast Go.Proofs.YtpkimbkjjmbmcaaDoorW.PrintMore
attribute [local go_sem] max2_int min2_int max_two min_two max_three min_three max_four min_four
set_option linter.unusedVariables false
set_option linter.unusedSimpArgs false

mutual
def cubbylaw12_SpanLive.j0 : Nat → Int → Int → List (SSpan) → Bool → ByteArray → Int → Int → List (List (SIns)) → Option (Bool)
 | 0, _, _, _, _, _, _, _, _ => none
 | k + 1, x7, x8, x10, x61, x510000, x510001, x510002, x510003 => if x61 = true then ((cubbyref12_Places.f k x510000 x510001 x510002 x510003).bind fun t520 => (if 0 ≤ x7 then (if x7 < (t520.length : Int) then (some (((rd_LInt t520 x7).length : Int) == 0)) else (none)) else (none))) else ((cubbyref11_Ahead.f k x510000 x510001 x510002 x510003 x7 x8).bind fun t524 => ((cubbyref11_Ahead.f k x510000 x510001 x510002 x510003 x7 (wrap64 (x8 + 1))).bind fun t527 => (if 0 ≤ x7 then (if x7 < (x510003.length : Int) then (if 0 ≤ x8 then (if x8 < ((rd_LIns x510003 x7).length : Int) then ((cubbyref07_Def.f ((rd_TIns (rd_LIns x510003 x7) x8).f0) ((rd_TIns (rd_LIns x510003 x7) x8).f1) ((rd_TIns (rd_LIns x510003 x7) x8).f2) ((rd_TIns (rd_LIns x510003 x7) x8).f3) ((rd_TIns (rd_LIns x510003 x7) x8).f4) ((rd_TIns (rd_LIns x510003 x7) x8).f5)).bind fun t532 => (cubbylaw12_SpanLive.l0 k x10 t524 t527 t532 0 x510000 x510001 x510002 x510003)) else (none)) else (none)) else (none)) else (none))))
def cubbylaw12_SpanLive.l0 : Nat → List (SSpan) → List Int → List Int → Int → Int → ByteArray → Int → Int → List (List (SIns)) → Option (Bool)
 | 0, _, _, _, _, _, _, _, _, _ => none
 | k + 1, x10, x11, x12, x13, x14, x510000, x510001, x510002, x510003 => if x14 < x510002 then (cubbylaw12_SpanLive.l1 k x10 x11 x12 x13 x14 0 x510000 x510001 x510002 x510003) else (some true)
def cubbylaw12_SpanLive.l1 : Nat → List (SSpan) → List Int → List Int → Int → Int → Int → ByteArray → Int → Int → List (List (SIns)) → Option (Bool)
 | 0, _, _, _, _, _, _, _, _, _, _ => none
 | k + 1, x10, x11, x12, x13, x14, x15, x510000, x510001, x510002, x510003 => if x15 < x510002 then ((cubbylaw12_has.f k x11 x14).bind fun t533 => (if t533 = true then ((cubbylaw12_has.f k x11 x15).bind fun t534 => (if t534 = true then (if 0 ≤ x14 then (if x14 < (x10.length : Int) then (if 0 ≤ x15 then (if x15 < (x10.length : Int) then ((span_Meet.f ((rd_TSpan x10 x14).f0) ((rd_TSpan x10 x14).f1) ((rd_TSpan x10 x15).f0) ((rd_TSpan x10 x15).f1)).bind fun t537 => (if t537 = true then (cubbylaw12_SpanLive.l1 k x10 x11 x12 x13 x14 (wrap64 (x15 + 1)) x510000 x510001 x510002 x510003) else (some false))) else (none)) else (none)) else (none)) else (none)) else ((cubbylaw12_has.f k x12 x14).bind fun t538 => (if t538 = true then ((cubbylaw12_has.f k x12 x15).bind fun t539 => (if t539 = true then (if 0 ≤ x14 then (if x14 < (x10.length : Int) then (if 0 ≤ x15 then (if x15 < (x10.length : Int) then ((span_Meet.f ((rd_TSpan x10 x14).f0) ((rd_TSpan x10 x14).f1) ((rd_TSpan x10 x15).f0) ((rd_TSpan x10 x15).f1)).bind fun t542 => (if t542 = true then (cubbylaw12_SpanLive.l1 k x10 x11 x12 x13 x14 (wrap64 (x15 + 1)) x510000 x510001 x510002 x510003) else (some false))) else (none)) else (none)) else (none)) else (none)) else (if x13 = x15 then (if 0 ≤ x14 then (if x14 < (x10.length : Int) then (if 0 ≤ x15 then (if x15 < (x10.length : Int) then ((span_Meet.f ((rd_TSpan x10 x14).f0) ((rd_TSpan x10 x14).f1) ((rd_TSpan x10 x15).f0) ((rd_TSpan x10 x15).f1)).bind fun t545 => (if t545 = true then (cubbylaw12_SpanLive.l1 k x10 x11 x12 x13 x14 (wrap64 (x15 + 1)) x510000 x510001 x510002 x510003) else (some false))) else (none)) else (none)) else (none)) else (none)) else (cubbylaw12_SpanLive.l1 k x10 x11 x12 x13 x14 (wrap64 (x15 + 1)) x510000 x510001 x510002 x510003)))) else (cubbylaw12_SpanLive.l1 k x10 x11 x12 x13 x14 (wrap64 (x15 + 1)) x510000 x510001 x510002 x510003))))) else ((cubbylaw12_has.f k x12 x14).bind fun t546 => (if t546 = true then ((cubbylaw12_has.f k x12 x15).bind fun t547 => (if t547 = true then (if 0 ≤ x14 then (if x14 < (x10.length : Int) then (if 0 ≤ x15 then (if x15 < (x10.length : Int) then ((span_Meet.f ((rd_TSpan x10 x14).f0) ((rd_TSpan x10 x14).f1) ((rd_TSpan x10 x15).f0) ((rd_TSpan x10 x15).f1)).bind fun t550 => (if t550 = true then (cubbylaw12_SpanLive.l1 k x10 x11 x12 x13 x14 (wrap64 (x15 + 1)) x510000 x510001 x510002 x510003) else (some false))) else (none)) else (none)) else (none)) else (none)) else (if x13 = x15 then (if 0 ≤ x14 then (if x14 < (x10.length : Int) then (if 0 ≤ x15 then (if x15 < (x10.length : Int) then ((span_Meet.f ((rd_TSpan x10 x14).f0) ((rd_TSpan x10 x14).f1) ((rd_TSpan x10 x15).f0) ((rd_TSpan x10 x15).f1)).bind fun t553 => (if t553 = true then (cubbylaw12_SpanLive.l1 k x10 x11 x12 x13 x14 (wrap64 (x15 + 1)) x510000 x510001 x510002 x510003) else (some false))) else (none)) else (none)) else (none)) else (none)) else (cubbylaw12_SpanLive.l1 k x10 x11 x12 x13 x14 (wrap64 (x15 + 1)) x510000 x510001 x510002 x510003)))) else (cubbylaw12_SpanLive.l1 k x10 x11 x12 x13 x14 (wrap64 (x15 + 1)) x510000 x510001 x510002 x510003))))) else (cubbylaw12_SpanLive.l0 k x10 x11 x12 x13 (wrap64 (x14 + 1)) x510000 x510001 x510002 x510003)
end
def cubbylaw12_SpanLive.f (k : Nat) (a0_0 : ByteArray) (a0_1 : Int) (a0_2 : Int) (l0_3 : List (List (SIns))) (a1 : Int) (a2 : Int) : Option (Bool) := (cubbylaw12_heavy.f k a0_0 a0_1 a0_2 l0_3).bind fun t510 => (if t510 = true then ((span_Meet.f 1 3 3 3).bind fun t511 => (some t511)) else (if (l0_3.length : Int) = 0 then (none) else (if 0 ≤ (Int.tmod (wrap64 (a1)) (l0_3.length : Int)) then (if (Int.tmod (wrap64 (a1)) (l0_3.length : Int)) < (l0_3.length : Int) then (if ((rd_LIns l0_3 (Int.tmod (wrap64 (a1)) (l0_3.length : Int))).length : Int) = 0 then (none) else ((span_Places.f k a0_0 a0_1 a0_2 l0_3).bind fun t513 => ((span_Spans.f k a0_0 a0_1 a0_2 l0_3).bind fun t516 => (if (t513.length : Int) = (l0_3.length : Int) then (if (t516.length : Int) = a0_2 then (if (Int.tmod (wrap64 (a1)) (l0_3.length : Int)) < (t513.length : Int) then (cubbylaw12_SpanLive.j0 k (Int.tmod (wrap64 (a1)) (l0_3.length : Int)) (Int.tmod (wrap64 (a2)) ((rd_LIns l0_3 (Int.tmod (wrap64 (a1)) (l0_3.length : Int))).length : Int)) t516 (((rd_LInt t513 (Int.tmod (wrap64 (a1)) (l0_3.length : Int))).length : Int) == 0) a0_0 a0_1 a0_2 l0_3) else (none)) else (cubbylaw12_SpanLive.j0 k (Int.tmod (wrap64 (a1)) (l0_3.length : Int)) (Int.tmod (wrap64 (a2)) ((rd_LIns l0_3 (Int.tmod (wrap64 (a1)) (l0_3.length : Int))).length : Int)) t516 true a0_0 a0_1 a0_2 l0_3)) else (cubbylaw12_SpanLive.j0 k (Int.tmod (wrap64 (a1)) (l0_3.length : Int)) (Int.tmod (wrap64 (a2)) ((rd_LIns l0_3 (Int.tmod (wrap64 (a1)) (l0_3.length : Int))).length : Int)) t516 true a0_0 a0_1 a0_2 l0_3))))) else (none)) else (none))))
def cubbylaw12_SpanLive.T19 : Bool × List (List Nat × List Nat) := (true, [([], []), ([0], [0]), ([1], [1]), ([1], [1]), ([2, 3, 1], [1, 2, 3]), ([4, 1], [1, 4]), ([1], [1]), ([1], [1]), ([6, 7, 1], [1, 6, 7]), ([8, 1], [1, 8]), ([5, 9, 1, 1], [1, 5, 9]), ([10, 1], [1, 10]), ([1, 11], [1, 11])])
def cubbylaw12_SpanLive.B19 : List Nat := [0, 1, 3, 3, 15, 31, 3, 3, 195, 451, 1023, 2047, 4095]
theorem cubbylaw12_SpanLive.tab19 : rtab .any (opsOf Tryd.f4 19) = cubbylaw12_SpanLive.T19 := by kernel_rfl
theorem cubbylaw12_SpanLive.bits19 : waitsOk cubbylaw12_SpanLive.T19.2 cubbylaw12_SpanLive.B19 = true := by kernel_rfl
set_option maxHeartbeats 8000000 in
set_option maxRecDepth 100000 in
theorem cubbylaw12_SpanLive.calls (k : Nat) (a0_0 : ByteArray) (a0_1 : Int) (a0_2 : Int) (A0_3 : Option Addr) (c0_3 : Nat) (l0_3 : List (List (SIns))) (a1 : Int) (a2 : Int) (r : Bool) (w : World) (hL : LaidW w) (hr : r = true) (hr0_3 : Kd.C (Kd.slice 38 kIns) w A0_3 l0_3.length l0_3) (hc0_3 : l0_3.length ≤ c0_3) (h : cubbylaw12_SpanLive.f k a0_0 a0_1 a0_2 l0_3 a1 a2 = some r) :
 Calls Tryd.prog 4 #[.agg #[.string a0_0, .int .i64 a0_1, .int .i64 a0_2, .slice A0_3 l0_3.length c0_3], .int .u8 a1, .int .u8 a2] w fun e w' => e = .returned (.bool r) ∧ Below w.heap.size w w' := by
 have hu24 := Tryd.underlying24
 have hu28 := Tryd.underlying28
 have hu38 := Tryd.underlying38
 have HR0_3 := zA hr0_3
 have HC0_3 := zA hc0_3
 clear hr0_3 hc0_3
 have HB := zA (Below.refl w.heap.size w)
 have HLd := zA hL
 clear hL
 have HRt := zA hr
 clear hr
 have H := h; clear h; unfold cubbylaw12_SpanLive.f at H
 replace H := qb H; obtain ⟨t510, A4, H⟩ := H
 by_cases c5 : t510 = true
 ·subst c5
  have H1 : ((span_Meet.f 1 3 3 3).bind fun t511 => (some t511)) = some r := by rw [zC rfl] at H; exact H
  clear H
  have H := H1
  clear H1
  replace H := qb H; obtain ⟨t511, A6, H⟩ := H
  obtain rfl := zI H
  go_enter Tryd.func4, Tryd.ntmps4
  go_wp2_with (first | ((with_reducible refine gate_dst (N := 3) rfl ?_); (try (refine gate_guard (by rfl) ?_; dsimp only)); refine box_event (by rfl) (N := 3) (by rfl) (cs := #[.string a0_0, .int .i64 a0_1, .int .i64 a0_2, .slice A0_3 l0_3.length c0_3]) (t := 24) ?hr ?_; (case hr => go_simp <;> rfl); intro gb509 hg w7 hbox hb; have BK509 := zA (hbox); have GW509 := qG hg; have GE509 := GW509; replace HB := qH hb; clear hb hbox hg; have z8_0 := bk4 BK509.out) | ((with_reducible refine gate_callee (f := 11) rfl ?_); refine goesL_ (some 18) rfl rfl Tryd.func11 (by kernel_rfl) rfl #[.agg #[.string a0_0, .int .i64 a0_1, .int .i64 a0_2, .slice A0_3 l0_3.length c0_3]] rfl qL ?_; (with_reducible refine (cubbylaw12_heavy.calls k a0_0 a0_1 a0_2 _ _ l0_3 true _ ?side1 ?side2 A4.out).mono ?_); (case side1 => exact qCB HR0_3.out); (case side2 => exact HC0_3.out); rintro e w9 ⟨rfl, hb⟩; refine ⟨_, rfl, ?_⟩; replace BK509 := qW BK509 hb; replace HB := qH hb; (try clear hb)) | ((with_reducible refine gate_callee (f := 12) rfl ?_); refine goesL_ (some 21) rfl rfl Tryd.func12 (by kernel_rfl) rfl #[.agg #[.int .i64 1, .int .i64 3], .agg #[.int .i64 3, .int .i64 3]] rfl qL ?_; (with_reducible refine (span_Meet.calls 1 3 3 3 t511 _ A6.out).mono ?_); rintro e w10 ⟨rfl, hb⟩; refine ⟨_, rfl, ?_⟩; replace BK509 := qW BK509 hb; replace HB := qH hb; (try clear hb)))
  go_ret
  exact ⟨qE, qB⟩
 ·replace c5 := Bool.eq_false_iff.mpr c5
  subst c5
  have H1 : (if (l0_3.length : Int) = 0 then (none) else (if 0 ≤ (Int.tmod (wrap64 (a1)) (l0_3.length : Int)) then (if (Int.tmod (wrap64 (a1)) (l0_3.length : Int)) < (l0_3.length : Int) then (if ((rd_LIns l0_3 (Int.tmod (wrap64 (a1)) (l0_3.length : Int))).length : Int) = 0 then (none) else ((span_Places.f k a0_0 a0_1 a0_2 l0_3).bind fun t513 => ((span_Spans.f k a0_0 a0_1 a0_2 l0_3).bind fun t516 => (if (t513.length : Int) = (l0_3.length : Int) then (if (t516.length : Int) = a0_2 then (if (Int.tmod (wrap64 (a1)) (l0_3.length : Int)) < (t513.length : Int) then (cubbylaw12_SpanLive.j0 k (Int.tmod (wrap64 (a1)) (l0_3.length : Int)) (Int.tmod (wrap64 (a2)) ((rd_LIns l0_3 (Int.tmod (wrap64 (a1)) (l0_3.length : Int))).length : Int)) t516 (((rd_LInt t513 (Int.tmod (wrap64 (a1)) (l0_3.length : Int))).length : Int) == 0) a0_0 a0_1 a0_2 l0_3) else (none)) else (cubbylaw12_SpanLive.j0 k (Int.tmod (wrap64 (a1)) (l0_3.length : Int)) (Int.tmod (wrap64 (a2)) ((rd_LIns l0_3 (Int.tmod (wrap64 (a1)) (l0_3.length : Int))).length : Int)) t516 true a0_0 a0_1 a0_2 l0_3)) else (cubbylaw12_SpanLive.j0 k (Int.tmod (wrap64 (a1)) (l0_3.length : Int)) (Int.tmod (wrap64 (a2)) ((rd_LIns l0_3 (Int.tmod (wrap64 (a1)) (l0_3.length : Int))).length : Int)) t516 true a0_0 a0_1 a0_2 l0_3))))) else (none)) else (none))) = some r := by rw [zD (show ¬ (false = true) by decide)] at H; exact H
  clear H
  have H := H1
  clear H1
  by_cases c11 : (l0_3.length : Int) = 0
  ·rw [zC c11] at H
   exact absurd H (by simp)
  ·rw [zD c11] at H
   obtain ⟨c11b0, c11b1⟩ := qn c11
   have c11b2 : ¬ (l0_3 = []) := fun h_ => c11 (by rw [h_]; rfl)
   obtain ⟨ji12, hji12⟩ : ∃ j_ : Int, (Int.tmod (wrap64 (a1)) (l0_3.length : Int)) = j_ := ⟨_, rfl⟩
   replace H : (if 0 ≤ (ji12) then (if (ji12) < (l0_3.length : Int) then (if ((rd_LIns l0_3 (ji12)).length : Int) = 0 then (none) else ((span_Places.f k a0_0 a0_1 a0_2 l0_3).bind fun t513 => ((span_Spans.f k a0_0 a0_1 a0_2 l0_3).bind fun t516 => (if (t513.length : Int) = (l0_3.length : Int) then (if (t516.length : Int) = a0_2 then (if (ji12) < (t513.length : Int) then (cubbylaw12_SpanLive.j0 k ji12 (Int.tmod (wrap64 (a2)) ((rd_LIns l0_3 (ji12)).length : Int)) t516 (((rd_LInt t513 (ji12)).length : Int) == 0) a0_0 a0_1 a0_2 l0_3) else (none)) else (cubbylaw12_SpanLive.j0 k ji12 (Int.tmod (wrap64 (a2)) ((rd_LIns l0_3 (ji12)).length : Int)) t516 true a0_0 a0_1 a0_2 l0_3)) else (cubbylaw12_SpanLive.j0 k ji12 (Int.tmod (wrap64 (a2)) ((rd_LIns l0_3 (ji12)).length : Int)) t516 true a0_0 a0_1 a0_2 l0_3))))) else (none)) else (none)) = some r := by first | (rw [hji12] at H; exact H) | (simp only [hji12] at H ⊢; exact H)
   (try rw [hji12] at A4)
   by_cases c13 : 0 ≤ (ji12)
   ·rw [zC c13] at H
    have c13b0 := zF c13
    clear c13
    by_cases c14 : (ji12) < (l0_3.length : Int)
    ·rw [zC c14] at H
     have c14b0 := zF c14
     clear c14
     by_cases c15 : ((rd_LIns l0_3 (ji12)).length : Int) = 0
     ·rw [zC c15] at H
      exact absurd H (by simp)
     ·rw [zD c15] at H
      obtain ⟨c15b0, c15b1⟩ := qn c15
      have c15b2 : ¬ ((rd_LIns l0_3 (ji12)) = []) := fun h_ => c15 (by rw [h_]; rfl)
      replace H := qb H; obtain ⟨t513, A16, H⟩ := H
      replace H := qb H; obtain ⟨t516, A17, H⟩ := H
      have HC18 := zA H
      clear H
      go_enter Tryd.func4, Tryd.ntmps4
      go_upto_region 7 with (first | ((with_reducible refine gate_dst (N := 3) rfl ?_); (try (refine gate_guard (by rfl) ?_; dsimp only)); refine box_event (by rfl) (N := 3) (by rfl) (cs := #[.string a0_0, .int .i64 a0_1, .int .i64 a0_2, .slice A0_3 l0_3.length c0_3]) (t := 24) ?hr ?_; (case hr => go_simp <;> rfl); intro gb509 hg w19 hbox hb; have BK509 := zA (hbox); have GW509 := qG hg; have GE509 := GW509; replace HB := qH hb; clear hb hbox hg; have z20_0 := bk4 BK509.out) | ((with_reducible refine gate_callee (f := 11) rfl ?_); refine goesL_ (some 18) rfl rfl Tryd.func11 (by kernel_rfl) rfl #[.agg #[.string a0_0, .int .i64 a0_1, .int .i64 a0_2, .slice A0_3 l0_3.length c0_3]] rfl qL ?_; (with_reducible refine (cubbylaw12_heavy.calls k a0_0 a0_1 a0_2 _ _ l0_3 false _ ?side1 ?side2 A4.out).mono ?_); (case side1 => exact qCB HR0_3.out); (case side2 => exact HC0_3.out); rintro e w21 ⟨rfl, hb⟩; refine ⟨_, rfl, ?_⟩; replace BK509 := qW BK509 hb; replace HB := qH hb; (try clear hb); have z22_0 := bk4 BK509.out; have p512 : 0 ≤ ((ji12) : Int) := zB qA; have q512 : (ji12) < (l0_3.length : Int) := zB qA; obtain ⟨ad512, A512_0, c512_0, e512, hx512_0, hl512_0, hi512_0⟩ := at_LIns HR0_3.out (ji12) p512 q512; cases e512; replace hx512_0 := (HB.out.cell (zE w _ hx512_0)).trans hx512_0; have HR512_0 := zA hi512_0; have HC512_0 := zA hl512_0; clear hi512_0 hl512_0; replace p512 := eq_true p512; replace q512 := eq_true q512) | ((with_reducible refine gate_callee (f := 13) rfl ?_); refine goesL_ (some 38) rfl rfl Tryd.func13 (by kernel_rfl) rfl #[.agg #[.string a0_0, .int .i64 a0_1, .int .i64 a0_2, .slice (some ad512) l0_3.length c0_3]] rfl qL ?_; (with_reducible refine (span_Places.calls k a0_0 a0_1 a0_2 _ _ l0_3 t513 _ ?side1 ?side2 A16.out (hL := ?side99)).mono ?_); (case side1 => exact qCB HR0_3.out); (case side2 => exact HC0_3.out); (case side99 => exact LaidW.below HLd.out qB); rintro e w23 ⟨v514, rfl, ho0, hb⟩; refine ⟨_, rfl, ?_⟩; have HO515 := zA (Kd.S_lower ho0 (below_size qB)); replace BK509 := qW BK509 hb; replace HB := qH hb; (try clear hb); (try clear ho0); have z24_0 := bk4 BK509.out) | ((with_reducible refine gate_callee (f := 14) rfl ?_); refine goesL_ (some 40) rfl rfl Tryd.func14 (by kernel_rfl) rfl #[.agg #[.string a0_0, .int .i64 a0_1, .int .i64 a0_2, .slice (some ad512) l0_3.length c0_3]] rfl qL ?_; (with_reducible refine (span_Spans.calls k a0_0 a0_1 a0_2 _ _ l0_3 t516 _ ?side1 ?side2 A17.out (hL := ?side99)).mono ?_); (case side1 => exact qCB HR0_3.out); (case side2 => exact HC0_3.out); (case side99 => exact LaidW.below HLd.out qB); rintro e w25 ⟨v517, rfl, ho0, hb⟩; refine ⟨_, rfl, ?_⟩; replace HO515 := zA (Kd.S_below (qS HO515.out) hb); have HO518 := zA (Kd.R_lower ho0 (below_size qB)); replace BK509 := qW BK509 hb; replace HB := qH hb; (try clear hb); (try clear ho0)))
      (try simp only [Act.put, List.setIfInBounds_toArray, List.set_cons_zero, List.set_cons_succ])
      go_cut [61] (fun v61 wc => ∃ (kq : Nat) (x61_17 : Bool), v61 = .bool x61_17 ∧ Aside0 (cubbylaw12_SpanLive.j0 kq ji12 (Int.tmod (wrap64 (a2)) ((rd_LIns l0_3 (ji12)).length : Int)) t516 x61_17 a0_0 a0_1 a0_2 l0_3 = some r) ∧ Aside0 (kq ≤ k) ∧ Aside0 (Kd.R kSpan 28 wc w.heap.size (fun _ => True) v517 t516) ∧ Aside0 (wc.heap[gb509]? = some (.cells #[.string a0_0, .int .i64 a0_1, .int .i64 a0_2, (.slice (some ad512) l0_3.length c0_3)] 24 (0, 0))) ∧ Aside0 (Below w.heap.size w wc))
      case first =>
       have H := HC18.out
       clear HC18
       by_cases c26 : (t513.length : Int) = (l0_3.length : Int)
       ·rw [zC c26] at H
        obtain ⟨c26b0, c26b1⟩ := qe c26
        have c26b2 : (t513.length == l0_3.length) = true := by first | simpa using c26 | (simp at c26 ⊢; omega)
        clear c26
        (first | rw [c26b0] | (simp only [i64_w, i32_w]; rw [c26b0]) | skip)
        by_cases c27 : (t516.length : Int) = a0_2
        ·rw [zC c27] at H
         obtain ⟨c27b0, c27b1⟩ := qe c27; clear c27
         by_cases c28 : (ji12) < (t513.length : Int)
         ·rw [zC c28] at H
          have c28b0 := zF c28
          clear c28
          have H' := zA H
          clear H
          obtain ⟨Ao29, co29, eo29⟩ := Kd.S_slice HO515.out
          subst eo29
          have z30_0 := bk4 BK509.out
          obtain ⟨Ao31, co31, eo31⟩ := Kd.R_slice HO518.out
          subst eo31
          have p519 : 0 ≤ ((ji12) : Int) := zB qA
          have q519 : (ji12) < (t513.length : Int) := zB qA
          obtain ⟨ad519, A519_0, c519_0, e519, hx519_0, hl519_0, hi519_0⟩ := at_LInt (Kd.S_reads' HO515.out).2.2 (ji12) p519 q519
          cases e519
          obtain ⟨ce519, hce519, hMe519, hcc519⟩ := Kd.S_get HO515.out [] (ji12) p519 (by first | exact q519 | exact zB qA | (have e_ := (Kd.S_reads' HO515.out).1; omega))
          obtain ⟨ve519_0, rfl, ge519_0⟩ := hMe519
          have hv519_0 := hcc519 0 _ rfl
          rw [Nat.add_zero, show ((Kd.slice 3 (Kd.int .i64))).sz = 1 from rfl, Nat.mul_one] at hv519_0
          replace hv519_0 := zI (hv519_0.symm.trans hx519_0)
          rw [hv519_0] at ge519_0
          have HL519_0 := zA (show Kd.R (Kd.int .i64) 3 _ _ _ _ (rd_LInt t513 (ji12)) from ge519_0)
          clear hv519_0 ge519_0
          clear hcc519 hce519
          have HR519_0 := zA hi519_0
          have HC519_0 := zA hl519_0
          clear hi519_0 hl519_0
          replace p519 := eq_true p519
          replace q519 := eq_true q519
          go_wp2
          go_meet
          case rel => exact ⟨_, ((((rd_LInt t513 (ji12)).length : Int) == 0)), (by first | rfl | (simp; done) | (simp only [← hji12] <;> (first | rfl | simp)) | (simp [*]; done)), H', ⟨qO⟩, ⟨qR HO518.out⟩, ⟨qK BK509.out⟩, ⟨qB⟩⟩
         ·rw [zD c28] at H
          exact absurd H (by simp)
        ·rw [zD c27] at H
         obtain ⟨c27b0, c27b1⟩ := qn c27
         have H' := zA H
         clear H
         obtain ⟨Ao32, co32, eo32⟩ := Kd.S_slice HO515.out
         subst eo32
         have z33_0 := bk4 BK509.out
         obtain ⟨Ao34, co34, eo34⟩ := Kd.R_slice HO518.out
         subst eo34
         go_wp2
         go_meet
         case rel => exact ⟨_, (true), qT, H', ⟨qO⟩, ⟨qR HO518.out⟩, ⟨qK BK509.out⟩, ⟨qB⟩⟩
       ·rw [zD c26] at H
        obtain ⟨c26b0, c26b1⟩ := qn c26
        have c26b2 : (t513.length == l0_3.length) = false := by first | simpa using c26 | (simp at c26 ⊢; omega)
        (first | rw [c26b0] | (simp only [i64_w, i32_w]; rw [c26b0]) | skip)
        have H' := zA H
        clear H
        obtain ⟨Ao35, co35, eo35⟩ := Kd.S_slice HO515.out
        subst eo35
        have z36_0 := bk4 BK509.out
        go_wp2
        go_meet
        case rel => exact ⟨_, (true), qT, H', ⟨qO⟩, ⟨qR HO518.out⟩, ⟨qK BK509.out⟩, ⟨qB⟩⟩
      case rest =>
       clear HC18
       obtain ⟨kq, x61_17, rfl, HA, HJ17, HO_10, BK509, HB⟩ := hcut
       cases kq with
       | zero => exact absurd HA.out (by simp [cubbylaw12_SpanLive.j0])
       | succ kj17 =>
        have H := HA.out
        clear HA
        simp only [cubbylaw12_SpanLive.j0] at H
        by_cases c37 : x61_17 = true
        ·subst c37
         have H1 : ((cubbyref12_Places.f kj17 a0_0 a0_1 a0_2 l0_3).bind fun t520 => (if 0 ≤ ji12 then (if ji12 < (t520.length : Int) then (some (((rd_LInt t520 ji12).length : Int) == 0)) else (none)) else (none))) = some r := by rw [zC rfl] at H; exact H
         clear H
         have H := H1
         clear H1
         replace H := qb H; obtain ⟨t520, A38, H⟩ := H
         by_cases c39 : 0 ≤ ji12
         ·rw [zC c39] at H
          have c39b0 := zF c39
          clear c39
          by_cases c40 : ji12 < (t520.length : Int)
          ·rw [zC c40] at H
           have c40b0 := zF c40
           clear c40
           obtain rfl := zI H
           have z41_0 := bk4 BK509.out
           go_wp2_with (first | ((with_reducible refine gate_callee (f := 15) rfl ?_); refine goesL_ (some 63) rfl rfl Tryd.func15 (by kernel_rfl) rfl #[.agg #[.string a0_0, .int .i64 a0_1, .int .i64 a0_2, .slice (some ad512) l0_3.length c0_3]] rfl qL ?_; (with_reducible refine (cubbyref12_Places.calls kj17 a0_0 a0_1 a0_2 _ _ l0_3 t520 _ ?side1 ?side2 A38.out).mono ?_); (case side1 => exact qCB HR0_3.out); (case side2 => exact HC0_3.out); rintro e w42 ⟨v521, rfl, ho0, hb⟩; refine ⟨_, rfl, ?_⟩; replace HO_10 := zA (Kd.R_below (qR HO_10.out) hb); have HO522 := zA (Kd.S_lower ho0 (below_size qB)); replace BK509 := qW BK509 hb; replace HB := qH hb; (try clear hb); (try clear ho0); obtain ⟨Ao43, co43, eo43⟩ := Kd.S_slice HO522.out; subst eo43; have p523 : 0 ≤ (ji12 : Int) := zB qA; have q523 : ji12 < (t520.length : Int) := zB qA; obtain ⟨ad523, A523_0, c523_0, e523, hx523_0, hl523_0, hi523_0⟩ := at_LInt (Kd.S_reads' HO522.out).2.2 ji12 p523 q523; cases e523; obtain ⟨ce523, hce523, hMe523, hcc523⟩ := Kd.S_get HO522.out [] ji12 p523 (by first | exact q523 | exact zB qA | (have e_ := (Kd.S_reads' HO522.out).1; omega)); obtain ⟨ve523_0, rfl, ge523_0⟩ := hMe523; have hv523_0 := hcc523 0 _ rfl; rw [Nat.add_zero, show ((Kd.slice 3 (Kd.int .i64))).sz = 1 from rfl, Nat.mul_one] at hv523_0; replace hv523_0 := zI (hv523_0.symm.trans hx523_0); rw [hv523_0] at ge523_0; have HL523_0 := zA (show Kd.R (Kd.int .i64) 3 _ _ _ _ (rd_LInt t520 ji12) from ge523_0); clear hv523_0 ge523_0; clear hcc523 hce523; have HR523_0 := zA hi523_0; have HC523_0 := zA hl523_0; clear hi523_0 hl523_0; replace p523 := eq_true p523; replace q523 := eq_true q523))
           go_ret
           exact ⟨by first | rfl | (simp [errW_none, errW_some] <;> rfl) | (simp only [← hji12]; first | rfl | (simp [errW_none, errW_some] <;> rfl)) | (simp [*, errW_none, errW_some] <;> rfl), qB⟩
          ·rw [zD c40] at H
           exact absurd H (by simp)
         ·rw [zD c39] at H
          exact absurd H (by simp)
        ·replace c37 := Bool.eq_false_iff.mpr c37
         subst c37
         have H1 : ((cubbyref11_Ahead.f kj17 a0_0 a0_1 a0_2 l0_3 ji12 (Int.tmod (wrap64 (a2)) ((rd_LIns l0_3 (ji12)).length : Int))).bind fun t524 => ((cubbyref11_Ahead.f kj17 a0_0 a0_1 a0_2 l0_3 ji12 (wrap64 ((Int.tmod (wrap64 (a2)) ((rd_LIns l0_3 (ji12)).length : Int)) + 1))).bind fun t527 => (if 0 ≤ ji12 then (if ji12 < (l0_3.length : Int) then (if 0 ≤ (Int.tmod (wrap64 (a2)) ((rd_LIns l0_3 (ji12)).length : Int)) then (if (Int.tmod (wrap64 (a2)) ((rd_LIns l0_3 (ji12)).length : Int)) < ((rd_LIns l0_3 ji12).length : Int) then ((cubbyref07_Def.f ((rd_TIns (rd_LIns l0_3 ji12) (Int.tmod (wrap64 (a2)) ((rd_LIns l0_3 (ji12)).length : Int))).f0) ((rd_TIns (rd_LIns l0_3 ji12) (Int.tmod (wrap64 (a2)) ((rd_LIns l0_3 (ji12)).length : Int))).f1) ((rd_TIns (rd_LIns l0_3 ji12) (Int.tmod (wrap64 (a2)) ((rd_LIns l0_3 (ji12)).length : Int))).f2) ((rd_TIns (rd_LIns l0_3 ji12) (Int.tmod (wrap64 (a2)) ((rd_LIns l0_3 (ji12)).length : Int))).f3) ((rd_TIns (rd_LIns l0_3 ji12) (Int.tmod (wrap64 (a2)) ((rd_LIns l0_3 (ji12)).length : Int))).f4) ((rd_TIns (rd_LIns l0_3 ji12) (Int.tmod (wrap64 (a2)) ((rd_LIns l0_3 (ji12)).length : Int))).f5)).bind fun t532 => (cubbylaw12_SpanLive.l0 kj17 t516 t524 t527 t532 0 a0_0 a0_1 a0_2 l0_3)) else (none)) else (none)) else (none)) else (none)))) = some r := by rw [zD (show ¬ (false = true) by decide)] at H; exact H
         clear H
         have H := H1
         clear H1
         replace H := qb H; obtain ⟨t524, A44, H⟩ := H
         replace H := qb H; obtain ⟨t527, A45, H⟩ := H
         by_cases c46 : 0 ≤ ji12
         ·rw [zC c46] at H
          have c46b0 := zF c46
          clear c46
          by_cases c47 : ji12 < (l0_3.length : Int)
          ·rw [zC c47] at H
           have c47b0 := zF c47
           clear c47
           obtain ⟨ji48, hji48⟩ : ∃ j_ : Int, (Int.tmod (wrap64 (a2)) ((rd_LIns l0_3 (ji12)).length : Int)) = j_ := ⟨_, rfl⟩
           replace H : (if 0 ≤ (ji48) then (if (ji48) < ((rd_LIns l0_3 ji12).length : Int) then ((cubbyref07_Def.f ((rd_TIns (rd_LIns l0_3 ji12) (ji48)).f0) ((rd_TIns (rd_LIns l0_3 ji12) (ji48)).f1) ((rd_TIns (rd_LIns l0_3 ji12) (ji48)).f2) ((rd_TIns (rd_LIns l0_3 ji12) (ji48)).f3) ((rd_TIns (rd_LIns l0_3 ji12) (ji48)).f4) ((rd_TIns (rd_LIns l0_3 ji12) (ji48)).f5)).bind fun t532 => (cubbylaw12_SpanLive.l0 kj17 t516 t524 t527 t532 0 a0_0 a0_1 a0_2 l0_3)) else (none)) else (none)) = some r := by first | (rw [hji48] at H; exact H) | (simp only [hji48] at H ⊢; exact H)
           (try rw [hji48] at A44)
           (try rw [hji48] at A45)
           by_cases c49 : 0 ≤ (ji48)
           ·rw [zC c49] at H
            have c49b0 := zF c49
            clear c49
            by_cases c50 : (ji48) < ((rd_LIns l0_3 ji12).length : Int)
            ·rw [zC c50] at H
             have c50b0 := zF c50
             clear c50
             replace H := qb H; obtain ⟨t532, A51, H⟩ := H
             have H' := zA H
             clear H
             have z52_0 := bk4 BK509.out
             go_wp2_with (first | ((with_reducible refine gate_callee (f := 19) rfl ?_); refine goesL_ (some 72) rfl rfl Tryd.func19 (by kernel_rfl) rfl #[.agg #[.string a0_0, .int .i64 a0_1, .int .i64 a0_2, .slice (some ad512) l0_3.length c0_3], .int .i64 ji12, .int .i64 (ji48)] rfl (by (try simp only [List.map_toArray, List.map_cons, List.map_nil]); first | done | (simp only [hji12, hji48]; rfl) | rfl | (simp only [List.length_drop, List.length_take]; rfl)) ?_; (with_reducible refine (cubbyref11_Ahead.calls kj17 a0_0 a0_1 a0_2 _ _ l0_3 ji12 (ji48) t524 _ ?side1 ?side2 A44.out).mono ?_); (case side1 => exact qCB HR0_3.out); (case side2 => exact HC0_3.out); rintro e w53 ⟨v525, rfl, ho0, hb⟩; refine ⟨_, rfl, ?_⟩; replace HO_10 := zA (Kd.R_below (qR HO_10.out) hb); have HO526 := zA (Kd.R_lower ho0 (below_size qB)); replace BK509 := qW BK509 hb; replace HB := qH hb; (try clear hb); (try clear ho0); have z54_0 := bk4 BK509.out) | ((with_reducible refine gate_callee (f := 19) rfl ?_); refine goesL_ (some 77) rfl rfl Tryd.func19 (by kernel_rfl) rfl #[.agg #[.string a0_0, .int .i64 a0_1, .int .i64 a0_2, .slice (some ad512) l0_3.length c0_3], .int .i64 ji12, .int .i64 (wrap64 ((ji48) + 1))] rfl (by (try simp only [List.map_toArray, List.map_cons, List.map_nil]); first | done | (simp only [hji12, hji48]; rfl) | rfl | (simp only [List.length_drop, List.length_take]; rfl)) ?_; (with_reducible refine (cubbyref11_Ahead.calls kj17 a0_0 a0_1 a0_2 _ _ l0_3 ji12 (wrap64 ((ji48) + 1)) t527 _ ?side1 ?side2 A45.out).mono ?_); (case side1 => exact qCB HR0_3.out); (case side2 => exact HC0_3.out); rintro e w55 ⟨v528, rfl, ho0, hb⟩; refine ⟨_, rfl, ?_⟩; replace HO_10 := zA (Kd.R_below (qR HO_10.out) hb); have HO529 := zA (Kd.R_lower (Kd.R_new' ho0 (Kd.R_lt (qR HO526.out))) (below_size qB)); replace HO526 := zA (Kd.R_elder' (qR HO526.out) (Kd.R_base ho0) hb); replace BK509 := qW BK509 hb; replace HB := qH hb; (try clear hb); (try clear ho0); have z56_0 := bk4 BK509.out; have p530 : 0 ≤ (ji12 : Int) := zB qA; have q530 : ji12 < (l0_3.length : Int) := zB qA; obtain ⟨ad530, A530_0, c530_0, e530, hx530_0, hl530_0, hi530_0⟩ := at_LIns HR0_3.out ji12 p530 q530; obtain rfl : ad512 = ad530 := (by injection e530); replace hx530_0 := (HB.out.cell (zE w _ hx530_0)).trans hx530_0; have HR530_0 := zA hi530_0; have HC530_0 := zA hl530_0; clear hi530_0 hl530_0; replace p530 := eq_true p530; replace q530 := eq_true q530; have p531 : 0 ≤ ((ji48) : Int) := zB qA; have q531 : (ji48) < ((rd_LIns l0_3 ji12).length : Int) := zB qA; obtain ⟨ad531, A531_5, c531_5, e531, hx531_0, hx531_1, hx531_2, hx531_3, hx531_4, hx531_5, hl531_5, hi531_5⟩ := at_TIns HR530_0.out (ji48) p531 q531; cases e531; replace hx531_0 := (HB.out.cell (zE w _ hx531_0)).trans hx531_0; replace hx531_1 := (HB.out.cell (zE w _ hx531_1)).trans hx531_1; replace hx531_2 := (HB.out.cell (zE w _ hx531_2)).trans hx531_2; replace hx531_3 := (HB.out.cell (zE w _ hx531_3)).trans hx531_3; replace hx531_4 := (HB.out.cell (zE w _ hx531_4)).trans hx531_4; replace hx531_5 := (HB.out.cell (zE w _ hx531_5)).trans hx531_5; have HR531_5 := zA hi531_5; have HC531_5 := zA hl531_5; clear hi531_5 hl531_5; replace p531 := eq_true p531; replace q531 := eq_true q531) | ((with_reducible refine gate_callee (f := 18) rfl ?_); refine goesL_ (some 86) rfl rfl Tryd.func18 (by kernel_rfl) rfl #[.agg #[.int .i64 ((rd_TIns (rd_LIns l0_3 ji12) (ji48)).f0), .int .i64 ((rd_TIns (rd_LIns l0_3 ji12) (ji48)).f1), .int .i64 ((rd_TIns (rd_LIns l0_3 ji12) (ji48)).f2), .int .i64 ((rd_TIns (rd_LIns l0_3 ji12) (ji48)).f3), .string ((rd_TIns (rd_LIns l0_3 ji12) (ji48)).f4), .slice A531_5 ((rd_TIns (rd_LIns l0_3 ji12) (ji48)).f5).length c531_5]] rfl (by (try simp only [List.map_toArray, List.map_cons, List.map_nil]); first | done | (simp only [hji12, hji48]; rfl) | rfl | (simp only [List.length_drop, List.length_take]; rfl)) ?_; (with_reducible refine (cubbyref07_Def.calls ((rd_TIns (rd_LIns l0_3 ji12) (ji48)).f0) ((rd_TIns (rd_LIns l0_3 ji12) (ji48)).f1) ((rd_TIns (rd_LIns l0_3 ji12) (ji48)).f2) ((rd_TIns (rd_LIns l0_3 ji12) (ji48)).f3) ((rd_TIns (rd_LIns l0_3 ji12) (ji48)).f4) _ _ ((rd_TIns (rd_LIns l0_3 ji12) (ji48)).f5) t532 _ ?side1 ?side2 A51.out).mono ?_); (case side1 => exact qCB HR531_5.out); (case side2 => exact HC531_5.out); rintro e w57 ⟨rfl, hb⟩; refine ⟨_, rfl, ?_⟩; replace HO_10 := zA (Kd.R_below (qR HO_10.out) hb); replace HO526 := zA (Kd.R_below (qR HO526.out) hb); replace HO529 := zA (Kd.R_below (qR HO529.out) hb); replace BK509 := qW BK509 hb; replace HB := qH hb; (try clear hb)))
             go_loopg [14] kj17 (fun kq v14 w' => ∃ (x14_2 : Int), v14 = .int .i64 x14_2 ∧ Aside0 (cubbylaw12_SpanLive.l0 kq t516 t524 t527 t532 x14_2 a0_0 a0_1 a0_2 l0_3 = some r) ∧ Aside0 (kq ≤ kj17) ∧ Aside0 (Kd.R kSpan 28 w' w.heap.size (fun _ => True) v517 t516) ∧ Aside0 (Kd.R (Kd.int .i64) 3 w' w.heap.size (fun k_ => some k_ ≠ (v528 : Value).ownBlock) v525 t524) ∧ Aside0 (Kd.R (Kd.int .i64) 3 w' w.heap.size (fun k_ => some k_ ≠ (v525 : Value).ownBlock) v528 t527) ∧ Aside0 (w'.heap[gb509]? = some (.cells #[.string a0_0, .int .i64 a0_1, .int .i64 a0_2, (.slice (some ad512) l0_3.length c0_3)] 24 (0, 0))) ∧ Aside0 (Below w.heap.size w w'))
             case atStart => exact ⟨(0), qT, H', ⟨Nat.le_refl _⟩, ⟨qR HO_10.out⟩, ⟨by (with_reducible repeat (first | apply Kd.R_alloc | apply Kd.R_drewN | apply Kd.R_drew)); exact Kd.R_mono HO526.out (fun _ hk => hk.2)⟩, ⟨by (with_reducible repeat (first | apply Kd.R_alloc | apply Kd.R_drewN | apply Kd.R_drew)); exact Kd.R_mono HO529.out (fun _ hk => hk.2)⟩, ⟨qK BK509.out⟩, ⟨qB⟩⟩
             case round =>
              clear H'
              obtain ⟨x14_2, rfl, HA, HK2, HO_10, HO_11, HO_12, BK509, HB⟩ := hrel
              cases gk with
              | zero => exact absurd HA.out (by simp [cubbylaw12_SpanLive.l0])
              | succ k2 =>
               have H := HA.out
               clear HA
               simp only [cubbylaw12_SpanLive.l0] at H
               by_cases c58 : x14_2 < a0_2
               ·rw [zC c58] at H
                have c58b0 := zF c58
                clear c58
                have H' := zA H
                clear H
                have z59_0 := bk4 BK509.out
                go_wp2
                go_loopg [15] k2 (fun kq v15 w' => ∃ (x15_3 : Int), v15 = .int .i64 x15_3 ∧ Aside0 (cubbylaw12_SpanLive.l1 kq t516 t524 t527 t532 x14_2 x15_3 a0_0 a0_1 a0_2 l0_3 = some r) ∧ Aside0 (kq ≤ k2) ∧ Aside0 (Kd.R kSpan 28 w' w.heap.size (fun _ => True) v517 t516) ∧ Aside0 (Kd.R (Kd.int .i64) 3 w' w.heap.size (fun k_ => some k_ ≠ (v528 : Value).ownBlock) v525 t524) ∧ Aside0 (Kd.R (Kd.int .i64) 3 w' w.heap.size (fun k_ => some k_ ≠ (v525 : Value).ownBlock) v528 t527) ∧ Aside0 (w'.heap[gb509]? = some (.cells #[.string a0_0, .int .i64 a0_1, .int .i64 a0_2, (.slice (some ad512) l0_3.length c0_3)] 24 (0, 0))) ∧ Aside0 (Below w.heap.size w w'))
                case atStart => exact ⟨(0), qT, H', ⟨Nat.le_refl _⟩, ⟨qR HO_10.out⟩, ⟨qR HO_11.out⟩, ⟨qR HO_12.out⟩, ⟨qK BK509.out⟩, ⟨qB⟩⟩
                case round =>
                 clear H'
                 obtain ⟨x15_3, rfl, HA, HK3, HO_10, HO_11, HO_12, BK509, HB⟩ := hrel
                 cases gk with
                 | zero => exact absurd HA.out (by simp [cubbylaw12_SpanLive.l1])
                 | succ k3 =>
                  have H := HA.out
                  clear HA
                  simp only [cubbylaw12_SpanLive.l1] at H
                  by_cases c60 : x15_3 < a0_2
                  ·rw [zC c60] at H
                   have c60b0 := zF c60
                   clear c60
                   replace H := qb H; obtain ⟨t533, A61, H⟩ := H
                   by_cases c62 : t533 = true
                   ·subst c62
                    have H1 : ((cubbylaw12_has.f k3 t524 x15_3).bind fun t534 => (if t534 = true then (if 0 ≤ x14_2 then (if x14_2 < (t516.length : Int) then (if 0 ≤ x15_3 then (if x15_3 < (t516.length : Int) then ((span_Meet.f ((rd_TSpan t516 x14_2).f0) ((rd_TSpan t516 x14_2).f1) ((rd_TSpan t516 x15_3).f0) ((rd_TSpan t516 x15_3).f1)).bind fun t537 => (if t537 = true then (cubbylaw12_SpanLive.l1 k3 t516 t524 t527 t532 x14_2 (wrap64 (x15_3 + 1)) a0_0 a0_1 a0_2 l0_3) else (some false))) else (none)) else (none)) else (none)) else (none)) else ((cubbylaw12_has.f k3 t527 x14_2).bind fun t538 => (if t538 = true then ((cubbylaw12_has.f k3 t527 x15_3).bind fun t539 => (if t539 = true then (if 0 ≤ x14_2 then (if x14_2 < (t516.length : Int) then (if 0 ≤ x15_3 then (if x15_3 < (t516.length : Int) then ((span_Meet.f ((rd_TSpan t516 x14_2).f0) ((rd_TSpan t516 x14_2).f1) ((rd_TSpan t516 x15_3).f0) ((rd_TSpan t516 x15_3).f1)).bind fun t542 => (if t542 = true then (cubbylaw12_SpanLive.l1 k3 t516 t524 t527 t532 x14_2 (wrap64 (x15_3 + 1)) a0_0 a0_1 a0_2 l0_3) else (some false))) else (none)) else (none)) else (none)) else (none)) else (if t532 = x15_3 then (if 0 ≤ x14_2 then (if x14_2 < (t516.length : Int) then (if 0 ≤ x15_3 then (if x15_3 < (t516.length : Int) then ((span_Meet.f ((rd_TSpan t516 x14_2).f0) ((rd_TSpan t516 x14_2).f1) ((rd_TSpan t516 x15_3).f0) ((rd_TSpan t516 x15_3).f1)).bind fun t545 => (if t545 = true then (cubbylaw12_SpanLive.l1 k3 t516 t524 t527 t532 x14_2 (wrap64 (x15_3 + 1)) a0_0 a0_1 a0_2 l0_3) else (some false))) else (none)) else (none)) else (none)) else (none)) else (cubbylaw12_SpanLive.l1 k3 t516 t524 t527 t532 x14_2 (wrap64 (x15_3 + 1)) a0_0 a0_1 a0_2 l0_3)))) else (cubbylaw12_SpanLive.l1 k3 t516 t524 t527 t532 x14_2 (wrap64 (x15_3 + 1)) a0_0 a0_1 a0_2 l0_3))))) = some r := by rw [zC rfl] at H; exact H
                    clear H
                    have H := H1
                    clear H1
                    replace H := qb H; obtain ⟨t534, A63, H⟩ := H
                    by_cases c64 : t534 = true
                    ·subst c64
                     have H1 : (if 0 ≤ x14_2 then (if x14_2 < (t516.length : Int) then (if 0 ≤ x15_3 then (if x15_3 < (t516.length : Int) then ((span_Meet.f ((rd_TSpan t516 x14_2).f0) ((rd_TSpan t516 x14_2).f1) ((rd_TSpan t516 x15_3).f0) ((rd_TSpan t516 x15_3).f1)).bind fun t537 => (if t537 = true then (cubbylaw12_SpanLive.l1 k3 t516 t524 t527 t532 x14_2 (wrap64 (x15_3 + 1)) a0_0 a0_1 a0_2 l0_3) else (some false))) else (none)) else (none)) else (none)) else (none)) = some r := by rw [zC rfl] at H; exact H
                     clear H
                     have H := H1
                     clear H1
                     by_cases c65 : 0 ≤ x14_2
                     ·rw [zC c65] at H
                      have c65b0 := zF c65
                      clear c65
                      by_cases c66 : x14_2 < (t516.length : Int)
                      ·rw [zC c66] at H
                       have c66b0 := zF c66
                       clear c66
                       by_cases c67 : 0 ≤ x15_3
                       ·rw [zC c67] at H
                        have c67b0 := zF c67
                        clear c67
                        by_cases c68 : x15_3 < (t516.length : Int)
                        ·rw [zC c68] at H
                         have c68b0 := zF c68
                         clear c68
                         replace H := qb H; obtain ⟨t537, A69, H⟩ := H
                         by_cases c70 : t537 = true
                         ·subst c70
                          have H1 : (cubbylaw12_SpanLive.l1 k3 t516 t524 t527 t532 x14_2 (wrap64 (x15_3 + 1)) a0_0 a0_1 a0_2 l0_3) = some r := by rw [zC rfl] at H; exact H
                          clear H
                          have H := H1
                          clear H1
                          have H' := zA H
                          clear H
                          have z71_0 := bk4 BK509.out
                          obtain ⟨Ao72, co72, eo72⟩ := Kd.R_slice HO_11.out
                          subst eo72
                          try go_wp2_with (first | ((with_reducible refine gate_callee (f := 20) rfl ?_); refine goesL_ (some 101) rfl rfl Tryd.func20 (by kernel_rfl) rfl #[.slice Ao72 t524.length co72, .int .i64 x14_2] rfl qL ?_; (with_reducible refine (cubbylaw12_has.calls k3 _ _ t524 x14_2 true _ ?side1 ?side2 A61.out).mono ?_); (case side1 => repeat (first | exact (Kd.R_reads' HO_11.out).2.2 | (with_reducible refine Kd.C_alloc ?_ _) | (with_reducible refine Kd.C_drewN ?_ _) | (with_reducible refine Kd.C_drew ?_))); (case side2 => exact (Kd.R_reads' HO_11.out).2.1); rintro e w' ⟨rfl, ⟨nd, rfl⟩⟩; refine ⟨_, rfl, ?_⟩) | (go_at_call 20; (with_reducible refine (cubbylaw12_has.calls k3 _ _ t524 x15_3 true _ ?side1 ?side2 A63.out).mono ?_); (case side1 => repeat (first | exact (Kd.R_reads' HO_11.out).2.2 | (with_reducible refine Kd.C_alloc ?_ _) | (with_reducible refine Kd.C_drewN ?_ _) | (with_reducible refine Kd.C_drew ?_))); (case side2 => exact (Kd.R_reads' HO_11.out).2.1); (try clear A63); rintro e w' ⟨rfl, ⟨nd, rfl⟩⟩))
                          (try (rw [drewN_self wr]; generalize hq_ : World.drewN wr _ = wr; have n0_ : Aside0 (Kd.R kSpan 28 wr w.heap.size (fun _ => True) v517 t516) := ⟨by rw [← hq_]; exact (qR HO_10.out)⟩; have n1_ : Aside0 (Kd.R (Kd.int .i64) 3 wr w.heap.size (fun k_ => some k_ ≠ (v528 : Value).ownBlock) (.slice Ao72 t524.length co72) t524) := ⟨by rw [← hq_]; exact (qR HO_11.out)⟩; have n2_ : Aside0 (Kd.R (Kd.int .i64) 3 wr w.heap.size (fun k_ => some k_ ≠ (.slice Ao72 t524.length co72 : Value).ownBlock) v528 t527) := ⟨by rw [← hq_]; exact (qR HO_12.out)⟩; have n3_ : Aside0 (wr.heap[gb509]? = some (.cells #[.string a0_0, .int .i64 a0_1, .int .i64 a0_2, .slice (some ad512) l0_3.length c0_3] 24 (0, 0))) := ⟨by rw [← hq_]; exact (qK BK509.out)⟩; have n4_ : Aside0 (Below w.heap.size w wr) := ⟨by rw [← hq_]; exact qB⟩; clear HO_10 HO_11 HO_12 BK509 HB hq_; have HO_10 := n0_; have HO_11 := n1_; have HO_12 := n2_; have BK509 := n3_; have HB := n4_; clear n0_ n1_ n2_ n3_ n4_))
                          have n0_ := zA (Kd.R_drew HO_10.out)
                          have n1_ := zA (Kd.R_drew HO_11.out)
                          have n2_ := zA (Kd.R_drew HO_12.out)
                          have n3_ := zA (blk_drew BK509.out)
                          have n4_ := zA (below_drew1 HB.out)
                          clear HO_10
                          clear HO_11
                          clear HO_12
                          clear BK509
                          clear HB
                          have HO_10 := n0_
                          have HO_11 := n1_
                          have HO_12 := n2_
                          have BK509 := n3_
                          have HB := n4_
                          clear n0_ n1_ n2_ n3_ n4_
                          obtain ⟨Ao74, co74, eo74⟩ := Kd.R_slice HO_10.out
                          (first | subst eo74 | (injection eo74 with f1_ f2_ f3_; have f4_ := f1_.symm; have f5_ := f3_.symm; clear f1_ f2_ f3_; subst f4_; subst f5_))
                          have p535 : 0 ≤ (x14_2 : Int) := zB qA
                          have q535 : x14_2 < (t516.length : Int) := zB qA
                          obtain ⟨ad535, e535, hx535_0, hx535_1⟩ := at_TSpan (Kd.R_reads' HO_10.out).2.2 x14_2 p535 q535
                          cases e535
                          replace p535 := eq_true p535
                          replace q535 := eq_true q535
                          have p536 : 0 ≤ (x15_3 : Int) := zB qA
                          have q536 : x15_3 < (t516.length : Int) := zB qA
                          obtain ⟨ad536, e536, hx536_0, hx536_1⟩ := at_TSpan (Kd.R_reads' HO_10.out).2.2 x15_3 p536 q536
                          obtain rfl : ad535 = ad536 := (by injection e536)
                          replace p536 := eq_true p536
                          replace q536 := eq_true q536
                          refine start_ (n := 13) (S := fun w' => w'.cell? (ad535.add ((x14_2).toNat * 2)) = some (.int .i64 ((rd_TSpan t516 x14_2).f0)) ∧ w'.cell? ⟨(ad535.add ((x14_2).toNat * 2)).block, (ad535.add ((x14_2).toNat * 2)).off + 1, none⟩ = some (.int .i64 ((rd_TSpan t516 x14_2).f1)) ∧ w'.cell? (ad535.add ((x15_3).toNat * 2)) = some (.int .i64 ((rd_TSpan t516 x15_3).f0)) ∧ w'.cell? ⟨(ad535.add ((x15_3).toNat * 2)).block, (ad535.add ((x15_3).toNat * 2)).off + 1, none⟩ = some (.int .i64 ((rd_TSpan t516 x15_3).f1))) (ds := []) (bA 13 0) (by kernel_rfl) rfl rfl ⟨hx535_0, hx535_1, hx536_0, hx536_1⟩ (fun hHeld => ?_); refine with_tabW cubbylaw12_SpanLive.tab19 cubbylaw12_SpanLive.bits19 (fun HT_ HW_ => ?_)
                          generalize wr.drew = w73 at HO_10 HO_11 HO_12 BK509 HB hx535_0 hx535_1 hx536_0 hx536_1 hHeld ⊢
                          refine pu_ (i := 0) (N := some 122) (bA 13 1) ?_
                          refine pu_ (i := 1) (N := some 123) (bA 13 3) ?_
                          refine pu_ (i := 2) (N := some 124) (bA 13 7) ?_
                          refine pu_ (i := 3) (N := some 125) (bA 13 15) ?_
                          refine pu_ (i := 4) (N := some 126) (bA 13 31) ?_
                          refine pu_ (i := 6) (N := some 128) (bA 13 95) ?_
                          refine pu_ (i := 7) (N := some 129) (bA 13 223) ?_
                          refine pu_ (i := 8) (N := some 130) (bA 13 479) ?_
                          refine tk_ (i := 5) (N := some 127) (bA 13 511) ?_
                          refine tk_ (i := 9) (N := some 131) (bA 13 1023) ?_
                          refine one_ (i := 10) (N := some 132) (bA 13 2047) rfl rfl (one_of HT_.out (by kernel_rfl)) (by decide) (fun K hK => ?_)
                          refine goes_ Tryd.func12 (by kernel_rfl) rfl #[.agg #[.int .i64 ((rd_TSpan t516 x14_2).f0), .int .i64 ((rd_TSpan t516 x14_2).f1)], .agg #[.int .i64 ((rd_TSpan t516 x15_3).f0), .int .i64 ((rd_TSpan t516 x15_3).f1)]] (by rfl) rfl rfl qL ?_
                          with_reducible refine (span_Meet.calls ((rd_TSpan t516 x14_2).f0) ((rd_TSpan t516 x14_2).f1) ((rd_TSpan t516 x15_3).f0) ((rd_TSpan t516 x15_3).f1) true _ A69.out).mono ?_
                          (try clear A69)
                          rintro e w75 ⟨rfl, hb⟩
                          have HS0_ := (hb.cell (zE _ _ (hHeld.1))).trans (hHeld.1)
                          have HS1_ := (hb.cell (zE _ _ (hHeld.2.1))).trans (hHeld.2.1)
                          have HS2_ := (hb.cell (zE _ _ (hHeld.2.2.1))).trans (hHeld.2.2.1)
                          have HS3_ := (hb.cell (zE _ _ (hHeld.2.2.2))).trans (hHeld.2.2.2)
                          refine ⟨_, rfl, ?_⟩
                          have n0_ := zA (Kd.R_below (qR HO_10.out) hb)
                          have n1_ := zA (Kd.R_below (qR HO_11.out) hb)
                          have n2_ := zA (Kd.R_below (qR HO_12.out) hb)
                          have n3_ := qW BK509 hb
                          have n4_ := qH hb
                          clear HO_10
                          clear HO_11
                          clear HO_12
                          clear BK509
                          clear HB
                          have HO_10 := n0_
                          have HO_11 := n1_
                          have HO_12 := n2_
                          have BK509 := n3_
                          have HB := n4_
                          clear n0_ n1_ n2_ n3_ n4_
                          (try clear hb)
                          (try clear hb2)
                          (try clear hk)
                          (try clear hi)
                          refine hK.out _ _ ⟨HS0_, HS1_, HS2_, HS3_⟩ (fun hHeld => ?_)
                          clear hK K
                          refine norm_ (a' := ?_) ?_ ?_
                          rotate_left
                          ·show Act.put _ (some 132) _ = _
                           simp only [Act.put, List.setIfInBounds_toArray, List.set_cons_zero, List.set_cons_succ, i64_w, i32_w]
                           rfl
                          refine pu_ (i := 11) (N := some 133) (bA 13 4095) ?_
                          refine pu_ (i := 12) (N := some 134) (bA 13 8191) ?_
                          refine done_ (done_of HT_.out (by kernel_rfl)) ?_
                          try go_wp2
                          go_roundg k3
                          case measure => have := HJ17.out; have := HK2.out; have := HK3.out; omega
                          case rel => exact ⟨(wrap64 (x15_3 + 1)), qT, H', ⟨by have := HJ17.out; have := HK2.out; have := HK3.out; omega⟩, ⟨qR HO_10.out⟩, ⟨qR HO_11.out⟩, ⟨qR HO_12.out⟩, ⟨qK BK509.out⟩, ⟨qB⟩⟩
                         ·replace c70 := Bool.eq_false_iff.mpr c70
                          subst c70
                          have H1 : (some false) = some r := by rw [zD (show ¬ (false = true) by decide)] at H; exact H
                          clear H
                          have H := H1
                          clear H1
                          exact absurd ((zI H).trans HRt.out) (by decide)
                        ·rw [zD c68] at H
                         exact absurd H (by simp)
                       ·rw [zD c67] at H
                        exact absurd H (by simp)
                      ·rw [zD c66] at H
                       exact absurd H (by simp)
                     ·rw [zD c65] at H
                      exact absurd H (by simp)
                    ·replace c64 := Bool.eq_false_iff.mpr c64
                     subst c64
                     have H1 : ((cubbylaw12_has.f k3 t527 x14_2).bind fun t538 => (if t538 = true then ((cubbylaw12_has.f k3 t527 x15_3).bind fun t539 => (if t539 = true then (if 0 ≤ x14_2 then (if x14_2 < (t516.length : Int) then (if 0 ≤ x15_3 then (if x15_3 < (t516.length : Int) then ((span_Meet.f ((rd_TSpan t516 x14_2).f0) ((rd_TSpan t516 x14_2).f1) ((rd_TSpan t516 x15_3).f0) ((rd_TSpan t516 x15_3).f1)).bind fun t542 => (if t542 = true then (cubbylaw12_SpanLive.l1 k3 t516 t524 t527 t532 x14_2 (wrap64 (x15_3 + 1)) a0_0 a0_1 a0_2 l0_3) else (some false))) else (none)) else (none)) else (none)) else (none)) else (if t532 = x15_3 then (if 0 ≤ x14_2 then (if x14_2 < (t516.length : Int) then (if 0 ≤ x15_3 then (if x15_3 < (t516.length : Int) then ((span_Meet.f ((rd_TSpan t516 x14_2).f0) ((rd_TSpan t516 x14_2).f1) ((rd_TSpan t516 x15_3).f0) ((rd_TSpan t516 x15_3).f1)).bind fun t545 => (if t545 = true then (cubbylaw12_SpanLive.l1 k3 t516 t524 t527 t532 x14_2 (wrap64 (x15_3 + 1)) a0_0 a0_1 a0_2 l0_3) else (some false))) else (none)) else (none)) else (none)) else (none)) else (cubbylaw12_SpanLive.l1 k3 t516 t524 t527 t532 x14_2 (wrap64 (x15_3 + 1)) a0_0 a0_1 a0_2 l0_3)))) else (cubbylaw12_SpanLive.l1 k3 t516 t524 t527 t532 x14_2 (wrap64 (x15_3 + 1)) a0_0 a0_1 a0_2 l0_3))) = some r := by rw [zD (show ¬ (false = true) by decide)] at H; exact H
                     clear H
                     have H := H1
                     clear H1
                     replace H := qb H; obtain ⟨t538, A76, H⟩ := H
                     by_cases c77 : t538 = true
                     ·subst c77
                      have H1 : ((cubbylaw12_has.f k3 t527 x15_3).bind fun t539 => (if t539 = true then (if 0 ≤ x14_2 then (if x14_2 < (t516.length : Int) then (if 0 ≤ x15_3 then (if x15_3 < (t516.length : Int) then ((span_Meet.f ((rd_TSpan t516 x14_2).f0) ((rd_TSpan t516 x14_2).f1) ((rd_TSpan t516 x15_3).f0) ((rd_TSpan t516 x15_3).f1)).bind fun t542 => (if t542 = true then (cubbylaw12_SpanLive.l1 k3 t516 t524 t527 t532 x14_2 (wrap64 (x15_3 + 1)) a0_0 a0_1 a0_2 l0_3) else (some false))) else (none)) else (none)) else (none)) else (none)) else (if t532 = x15_3 then (if 0 ≤ x14_2 then (if x14_2 < (t516.length : Int) then (if 0 ≤ x15_3 then (if x15_3 < (t516.length : Int) then ((span_Meet.f ((rd_TSpan t516 x14_2).f0) ((rd_TSpan t516 x14_2).f1) ((rd_TSpan t516 x15_3).f0) ((rd_TSpan t516 x15_3).f1)).bind fun t545 => (if t545 = true then (cubbylaw12_SpanLive.l1 k3 t516 t524 t527 t532 x14_2 (wrap64 (x15_3 + 1)) a0_0 a0_1 a0_2 l0_3) else (some false))) else (none)) else (none)) else (none)) else (none)) else (cubbylaw12_SpanLive.l1 k3 t516 t524 t527 t532 x14_2 (wrap64 (x15_3 + 1)) a0_0 a0_1 a0_2 l0_3)))) = some r := by rw [zC rfl] at H; exact H
                      clear H
                      have H := H1
                      clear H1
                      replace H := qb H; obtain ⟨t539, A78, H⟩ := H
                      by_cases c79 : t539 = true
                      ·subst c79
                       have H1 : (if 0 ≤ x14_2 then (if x14_2 < (t516.length : Int) then (if 0 ≤ x15_3 then (if x15_3 < (t516.length : Int) then ((span_Meet.f ((rd_TSpan t516 x14_2).f0) ((rd_TSpan t516 x14_2).f1) ((rd_TSpan t516 x15_3).f0) ((rd_TSpan t516 x15_3).f1)).bind fun t542 => (if t542 = true then (cubbylaw12_SpanLive.l1 k3 t516 t524 t527 t532 x14_2 (wrap64 (x15_3 + 1)) a0_0 a0_1 a0_2 l0_3) else (some false))) else (none)) else (none)) else (none)) else (none)) = some r := by rw [zC rfl] at H; exact H
                       clear H
                       have H := H1
                       clear H1
                       by_cases c80 : 0 ≤ x14_2
                       ·rw [zC c80] at H
                        have c80b0 := zF c80
                        clear c80
                        by_cases c81 : x14_2 < (t516.length : Int)
                        ·rw [zC c81] at H
                         have c81b0 := zF c81
                         clear c81
                         by_cases c82 : 0 ≤ x15_3
                         ·rw [zC c82] at H
                          have c82b0 := zF c82
                          clear c82
                          by_cases c83 : x15_3 < (t516.length : Int)
                          ·rw [zC c83] at H
                           have c83b0 := zF c83
                           clear c83
                           replace H := qb H; obtain ⟨t542, A84, H⟩ := H
                           by_cases c85 : t542 = true
                           ·subst c85
                            have H1 : (cubbylaw12_SpanLive.l1 k3 t516 t524 t527 t532 x14_2 (wrap64 (x15_3 + 1)) a0_0 a0_1 a0_2 l0_3) = some r := by rw [zC rfl] at H; exact H
                            clear H
                            have H := H1
                            clear H1
                            have H' := zA H
                            clear H
                            have z86_0 := bk4 BK509.out
                            obtain ⟨Ao87, co87, eo87⟩ := Kd.R_slice HO_11.out
                            subst eo87
                            try go_wp2_with (first | ((with_reducible refine gate_callee (f := 20) rfl ?_); refine goesL_ (some 101) rfl rfl Tryd.func20 (by kernel_rfl) rfl #[.slice Ao87 t524.length co87, .int .i64 x14_2] rfl qL ?_; (with_reducible refine (cubbylaw12_has.calls k3 _ _ t524 x14_2 true _ ?side1 ?side2 A61.out).mono ?_); (case side1 => repeat (first | exact (Kd.R_reads' HO_11.out).2.2 | (with_reducible refine Kd.C_alloc ?_ _) | (with_reducible refine Kd.C_drewN ?_ _) | (with_reducible refine Kd.C_drew ?_))); (case side2 => exact (Kd.R_reads' HO_11.out).2.1); rintro e w' ⟨rfl, ⟨nd, rfl⟩⟩; refine ⟨_, rfl, ?_⟩) | (go_at_call 20; (with_reducible refine (cubbylaw12_has.calls k3 _ _ t524 x15_3 false _ ?side1 ?side2 A63.out).mono ?_); (case side1 => repeat (first | exact (Kd.R_reads' HO_11.out).2.2 | (with_reducible refine Kd.C_alloc ?_ _) | (with_reducible refine Kd.C_drewN ?_ _) | (with_reducible refine Kd.C_drew ?_))); (case side2 => exact (Kd.R_reads' HO_11.out).2.1); (try clear A63); rintro e w' ⟨rfl, ⟨nd, rfl⟩⟩; obtain ⟨Ao88, co88, eo88⟩ := Kd.R_slice HO_12.out; subst eo88) | (go_at_call 20; (with_reducible refine (cubbylaw12_has.calls k3 _ _ t527 x14_2 true _ ?side1 ?side2 A76.out).mono ?_); (case side1 => repeat (first | exact (Kd.R_reads' HO_12.out).2.2 | (with_reducible refine Kd.C_alloc ?_ _) | (with_reducible refine Kd.C_drewN ?_ _) | (with_reducible refine Kd.C_drew ?_))); (case side2 => exact (Kd.R_reads' HO_12.out).2.1); (try clear A76); rintro e w' ⟨rfl, ⟨nd, rfl⟩⟩) | (go_at_call 20; (with_reducible refine (cubbylaw12_has.calls k3 _ _ t527 x15_3 true _ ?side1 ?side2 A78.out).mono ?_); (case side1 => repeat (first | exact (Kd.R_reads' HO_12.out).2.2 | (with_reducible refine Kd.C_alloc ?_ _) | (with_reducible refine Kd.C_drewN ?_ _) | (with_reducible refine Kd.C_drew ?_))); (case side2 => exact (Kd.R_reads' HO_12.out).2.1); (try clear A78); rintro e w' ⟨rfl, ⟨nd, rfl⟩⟩))
                            (try (rw [drewN_self wr]; generalize hq_ : World.drewN wr _ = wr; have n0_ : Aside0 (Kd.R kSpan 28 wr w.heap.size (fun _ => True) v517 t516) := ⟨by rw [← hq_]; exact (qR HO_10.out)⟩; have n1_ : Aside0 (Kd.R (Kd.int .i64) 3 wr w.heap.size (fun k_ => some k_ ≠ (.slice Ao88 t527.length co88 : Value).ownBlock) (.slice Ao87 t524.length co87) t524) := ⟨by rw [← hq_]; exact (qR HO_11.out)⟩; have n2_ : Aside0 (Kd.R (Kd.int .i64) 3 wr w.heap.size (fun k_ => some k_ ≠ (.slice Ao87 t524.length co87 : Value).ownBlock) (.slice Ao88 t527.length co88) t527) := ⟨by rw [← hq_]; exact (qR HO_12.out)⟩; have n3_ : Aside0 (wr.heap[gb509]? = some (.cells #[.string a0_0, .int .i64 a0_1, .int .i64 a0_2, .slice (some ad512) l0_3.length c0_3] 24 (0, 0))) := ⟨by rw [← hq_]; exact (qK BK509.out)⟩; have n4_ : Aside0 (Below w.heap.size w wr) := ⟨by rw [← hq_]; exact qB⟩; clear HO_10 HO_11 HO_12 BK509 HB hq_; have HO_10 := n0_; have HO_11 := n1_; have HO_12 := n2_; have BK509 := n3_; have HB := n4_; clear n0_ n1_ n2_ n3_ n4_))
                            have n0_ := zA (Kd.R_drew HO_10.out)
                            have n1_ := zA (Kd.R_drew HO_11.out)
                            have n2_ := zA (Kd.R_drew HO_12.out)
                            have n3_ := zA (blk_drew BK509.out)
                            have n4_ := zA (below_drew1 HB.out)
                            clear HO_10
                            clear HO_11
                            clear HO_12
                            clear BK509
                            clear HB
                            have HO_10 := n0_
                            have HO_11 := n1_
                            have HO_12 := n2_
                            have BK509 := n3_
                            have HB := n4_
                            clear n0_ n1_ n2_ n3_ n4_
                            obtain ⟨Ao90, co90, eo90⟩ := Kd.R_slice HO_10.out
                            (first | subst eo90 | (injection eo90 with f1_ f2_ f3_; have f4_ := f1_.symm; have f5_ := f3_.symm; clear f1_ f2_ f3_; subst f4_; subst f5_))
                            have p540 : 0 ≤ (x14_2 : Int) := zB qA
                            have q540 : x14_2 < (t516.length : Int) := zB qA
                            obtain ⟨ad540, e540, hx540_0, hx540_1⟩ := at_TSpan (Kd.R_reads' HO_10.out).2.2 x14_2 p540 q540
                            cases e540
                            replace p540 := eq_true p540
                            replace q540 := eq_true q540
                            have p541 : 0 ≤ (x15_3 : Int) := zB qA
                            have q541 : x15_3 < (t516.length : Int) := zB qA
                            obtain ⟨ad541, e541, hx541_0, hx541_1⟩ := at_TSpan (Kd.R_reads' HO_10.out).2.2 x15_3 p541 q541
                            obtain rfl : ad540 = ad541 := (by injection e541)
                            replace p541 := eq_true p541
                            replace q541 := eq_true q541
                            refine start_ (n := 13) (S := fun w' => w'.cell? (ad540.add ((x14_2).toNat * 2)) = some (.int .i64 ((rd_TSpan t516 x14_2).f0)) ∧ w'.cell? ⟨(ad540.add ((x14_2).toNat * 2)).block, (ad540.add ((x14_2).toNat * 2)).off + 1, none⟩ = some (.int .i64 ((rd_TSpan t516 x14_2).f1)) ∧ w'.cell? (ad540.add ((x15_3).toNat * 2)) = some (.int .i64 ((rd_TSpan t516 x15_3).f0)) ∧ w'.cell? ⟨(ad540.add ((x15_3).toNat * 2)).block, (ad540.add ((x15_3).toNat * 2)).off + 1, none⟩ = some (.int .i64 ((rd_TSpan t516 x15_3).f1))) (ds := []) (bA 13 0) (by kernel_rfl) rfl rfl ⟨hx540_0, hx540_1, hx541_0, hx541_1⟩ (fun hHeld => ?_); refine with_tabW cubbylaw12_SpanLive.tab19 cubbylaw12_SpanLive.bits19 (fun HT_ HW_ => ?_)
                            generalize wr.drew = w89 at HO_10 HO_11 HO_12 BK509 HB hx540_0 hx540_1 hx541_0 hx541_1 hHeld ⊢
                            refine pu_ (i := 0) (N := some 122) (bA 13 1) ?_
                            refine pu_ (i := 1) (N := some 123) (bA 13 3) ?_
                            refine pu_ (i := 2) (N := some 124) (bA 13 7) ?_
                            refine pu_ (i := 3) (N := some 125) (bA 13 15) ?_
                            refine pu_ (i := 4) (N := some 126) (bA 13 31) ?_
                            refine pu_ (i := 6) (N := some 128) (bA 13 95) ?_
                            refine pu_ (i := 7) (N := some 129) (bA 13 223) ?_
                            refine pu_ (i := 8) (N := some 130) (bA 13 479) ?_
                            refine tk_ (i := 5) (N := some 127) (bA 13 511) ?_
                            refine tk_ (i := 9) (N := some 131) (bA 13 1023) ?_
                            refine one_ (i := 10) (N := some 132) (bA 13 2047) rfl rfl (one_of HT_.out (by kernel_rfl)) (by decide) (fun K hK => ?_)
                            refine goes_ Tryd.func12 (by kernel_rfl) rfl #[.agg #[.int .i64 ((rd_TSpan t516 x14_2).f0), .int .i64 ((rd_TSpan t516 x14_2).f1)], .agg #[.int .i64 ((rd_TSpan t516 x15_3).f0), .int .i64 ((rd_TSpan t516 x15_3).f1)]] (by rfl) rfl rfl qL ?_
                            with_reducible refine (span_Meet.calls ((rd_TSpan t516 x14_2).f0) ((rd_TSpan t516 x14_2).f1) ((rd_TSpan t516 x15_3).f0) ((rd_TSpan t516 x15_3).f1) true _ A84.out).mono ?_
                            (try clear A84)
                            rintro e w91 ⟨rfl, hb⟩
                            have HS0_ := (hb.cell (zE _ _ (hHeld.1))).trans (hHeld.1)
                            have HS1_ := (hb.cell (zE _ _ (hHeld.2.1))).trans (hHeld.2.1)
                            have HS2_ := (hb.cell (zE _ _ (hHeld.2.2.1))).trans (hHeld.2.2.1)
                            have HS3_ := (hb.cell (zE _ _ (hHeld.2.2.2))).trans (hHeld.2.2.2)
                            refine ⟨_, rfl, ?_⟩
                            have n0_ := zA (Kd.R_below (qR HO_10.out) hb)
                            have n1_ := zA (Kd.R_below (qR HO_11.out) hb)
                            have n2_ := zA (Kd.R_below (qR HO_12.out) hb)
                            have n3_ := qW BK509 hb
                            have n4_ := qH hb
                            clear HO_10
                            clear HO_11
                            clear HO_12
                            clear BK509
                            clear HB
                            have HO_10 := n0_
                            have HO_11 := n1_
                            have HO_12 := n2_
                            have BK509 := n3_
                            have HB := n4_
                            clear n0_ n1_ n2_ n3_ n4_
                            (try clear hb)
                            (try clear hb2)
                            (try clear hk)
                            (try clear hi)
                            refine hK.out _ _ ⟨HS0_, HS1_, HS2_, HS3_⟩ (fun hHeld => ?_)
                            clear hK K
                            refine norm_ (a' := ?_) ?_ ?_
                            rotate_left
                            ·show Act.put _ (some 132) _ = _
                             simp only [Act.put, List.setIfInBounds_toArray, List.set_cons_zero, List.set_cons_succ, i64_w, i32_w]
                             rfl
                            refine pu_ (i := 11) (N := some 133) (bA 13 4095) ?_
                            refine pu_ (i := 12) (N := some 134) (bA 13 8191) ?_
                            refine done_ (done_of HT_.out (by kernel_rfl)) ?_
                            try go_wp2
                            go_roundg k3
                            case measure => have := HJ17.out; have := HK2.out; have := HK3.out; omega
                            case rel => exact ⟨(wrap64 (x15_3 + 1)), qT, H', ⟨by have := HJ17.out; have := HK2.out; have := HK3.out; omega⟩, ⟨qR HO_10.out⟩, ⟨qR HO_11.out⟩, ⟨qR HO_12.out⟩, ⟨qK BK509.out⟩, ⟨qB⟩⟩
                           ·replace c85 := Bool.eq_false_iff.mpr c85
                            subst c85
                            have H1 : (some false) = some r := by rw [zD (show ¬ (false = true) by decide)] at H; exact H
                            clear H
                            have H := H1
                            clear H1
                            exact absurd ((zI H).trans HRt.out) (by decide)
                          ·rw [zD c83] at H
                           exact absurd H (by simp)
                         ·rw [zD c82] at H
                          exact absurd H (by simp)
                        ·rw [zD c81] at H
                         exact absurd H (by simp)
                       ·rw [zD c80] at H
                        exact absurd H (by simp)
                      ·replace c79 := Bool.eq_false_iff.mpr c79
                       subst c79
                       have H1 : (if t532 = x15_3 then (if 0 ≤ x14_2 then (if x14_2 < (t516.length : Int) then (if 0 ≤ x15_3 then (if x15_3 < (t516.length : Int) then ((span_Meet.f ((rd_TSpan t516 x14_2).f0) ((rd_TSpan t516 x14_2).f1) ((rd_TSpan t516 x15_3).f0) ((rd_TSpan t516 x15_3).f1)).bind fun t545 => (if t545 = true then (cubbylaw12_SpanLive.l1 k3 t516 t524 t527 t532 x14_2 (wrap64 (x15_3 + 1)) a0_0 a0_1 a0_2 l0_3) else (some false))) else (none)) else (none)) else (none)) else (none)) else (cubbylaw12_SpanLive.l1 k3 t516 t524 t527 t532 x14_2 (wrap64 (x15_3 + 1)) a0_0 a0_1 a0_2 l0_3)) = some r := by rw [zD (show ¬ (false = true) by decide)] at H; exact H
                       clear H
                       have H := H1
                       clear H1
                       by_cases c92 : t532 = x15_3
                       ·rw [zC c92] at H
                        obtain ⟨c92b0, c92b1⟩ := qe c92; clear c92
                        by_cases c93 : 0 ≤ x14_2
                        ·rw [zC c93] at H
                         have c93b0 := zF c93
                         clear c93
                         by_cases c94 : x14_2 < (t516.length : Int)
                         ·rw [zC c94] at H
                          have c94b0 := zF c94
                          clear c94
                          by_cases c95 : 0 ≤ x15_3
                          ·rw [zC c95] at H
                           have c95b0 := zF c95
                           clear c95
                           by_cases c96 : x15_3 < (t516.length : Int)
                           ·rw [zC c96] at H
                            have c96b0 := zF c96
                            clear c96
                            replace H := qb H; obtain ⟨t545, A97, H⟩ := H
                            by_cases c98 : t545 = true
                            ·subst c98
                             have H1 : (cubbylaw12_SpanLive.l1 k3 t516 t524 t527 t532 x14_2 (wrap64 (x15_3 + 1)) a0_0 a0_1 a0_2 l0_3) = some r := by rw [zC rfl] at H; exact H
                             clear H
                             have H := H1
                             clear H1
                             have H' := zA H
                             clear H
                             have z99_0 := bk4 BK509.out
                             obtain ⟨Ao100, co100, eo100⟩ := Kd.R_slice HO_11.out
                             subst eo100
                             try go_wp2_with (first | ((with_reducible refine gate_callee (f := 20) rfl ?_); refine goesL_ (some 101) rfl rfl Tryd.func20 (by kernel_rfl) rfl #[.slice Ao100 t524.length co100, .int .i64 x14_2] rfl qL ?_; (with_reducible refine (cubbylaw12_has.calls k3 _ _ t524 x14_2 true _ ?side1 ?side2 A61.out).mono ?_); (case side1 => repeat (first | exact (Kd.R_reads' HO_11.out).2.2 | (with_reducible refine Kd.C_alloc ?_ _) | (with_reducible refine Kd.C_drewN ?_ _) | (with_reducible refine Kd.C_drew ?_))); (case side2 => exact (Kd.R_reads' HO_11.out).2.1); rintro e w' ⟨rfl, ⟨nd, rfl⟩⟩; refine ⟨_, rfl, ?_⟩) | (go_at_call 20; (with_reducible refine (cubbylaw12_has.calls k3 _ _ t524 x15_3 false _ ?side1 ?side2 A63.out).mono ?_); (case side1 => repeat (first | exact (Kd.R_reads' HO_11.out).2.2 | (with_reducible refine Kd.C_alloc ?_ _) | (with_reducible refine Kd.C_drewN ?_ _) | (with_reducible refine Kd.C_drew ?_))); (case side2 => exact (Kd.R_reads' HO_11.out).2.1); (try clear A63); rintro e w' ⟨rfl, ⟨nd, rfl⟩⟩; obtain ⟨Ao101, co101, eo101⟩ := Kd.R_slice HO_12.out; subst eo101) | (go_at_call 20; (with_reducible refine (cubbylaw12_has.calls k3 _ _ t527 x14_2 true _ ?side1 ?side2 A76.out).mono ?_); (case side1 => repeat (first | exact (Kd.R_reads' HO_12.out).2.2 | (with_reducible refine Kd.C_alloc ?_ _) | (with_reducible refine Kd.C_drewN ?_ _) | (with_reducible refine Kd.C_drew ?_))); (case side2 => exact (Kd.R_reads' HO_12.out).2.1); (try clear A76); rintro e w' ⟨rfl, ⟨nd, rfl⟩⟩) | (go_at_call 20; (with_reducible refine (cubbylaw12_has.calls k3 _ _ t527 x15_3 false _ ?side1 ?side2 A78.out).mono ?_); (case side1 => repeat (first | exact (Kd.R_reads' HO_12.out).2.2 | (with_reducible refine Kd.C_alloc ?_ _) | (with_reducible refine Kd.C_drewN ?_ _) | (with_reducible refine Kd.C_drew ?_))); (case side2 => exact (Kd.R_reads' HO_12.out).2.1); (try clear A78); rintro e w' ⟨rfl, ⟨nd, rfl⟩⟩))
                             (try (rw [drewN_self wr]; generalize hq_ : World.drewN wr _ = wr; have n0_ : Aside0 (Kd.R kSpan 28 wr w.heap.size (fun _ => True) v517 t516) := ⟨by rw [← hq_]; exact (qR HO_10.out)⟩; have n1_ : Aside0 (Kd.R (Kd.int .i64) 3 wr w.heap.size (fun k_ => some k_ ≠ (.slice Ao101 t527.length co101 : Value).ownBlock) (.slice Ao100 t524.length co100) t524) := ⟨by rw [← hq_]; exact (qR HO_11.out)⟩; have n2_ : Aside0 (Kd.R (Kd.int .i64) 3 wr w.heap.size (fun k_ => some k_ ≠ (.slice Ao100 t524.length co100 : Value).ownBlock) (.slice Ao101 t527.length co101) t527) := ⟨by rw [← hq_]; exact (qR HO_12.out)⟩; have n3_ : Aside0 (wr.heap[gb509]? = some (.cells #[.string a0_0, .int .i64 a0_1, .int .i64 a0_2, .slice (some ad512) l0_3.length c0_3] 24 (0, 0))) := ⟨by rw [← hq_]; exact (qK BK509.out)⟩; have n4_ : Aside0 (Below w.heap.size w wr) := ⟨by rw [← hq_]; exact qB⟩; clear HO_10 HO_11 HO_12 BK509 HB hq_; have HO_10 := n0_; have HO_11 := n1_; have HO_12 := n2_; have BK509 := n3_; have HB := n4_; clear n0_ n1_ n2_ n3_ n4_))
                             have n0_ := zA (Kd.R_drew HO_10.out)
                             have n1_ := zA (Kd.R_drew HO_11.out)
                             have n2_ := zA (Kd.R_drew HO_12.out)
                             have n3_ := zA (blk_drew BK509.out)
                             have n4_ := zA (below_drew1 HB.out)
                             clear HO_10
                             clear HO_11
                             clear HO_12
                             clear BK509
                             clear HB
                             have HO_10 := n0_
                             have HO_11 := n1_
                             have HO_12 := n2_
                             have BK509 := n3_
                             have HB := n4_
                             clear n0_ n1_ n2_ n3_ n4_
                             obtain ⟨Ao103, co103, eo103⟩ := Kd.R_slice HO_10.out
                             (first | subst eo103 | (injection eo103 with f1_ f2_ f3_; have f4_ := f1_.symm; have f5_ := f3_.symm; clear f1_ f2_ f3_; subst f4_; subst f5_))
                             have p543 : 0 ≤ (x14_2 : Int) := zB qA
                             have q543 : x14_2 < (t516.length : Int) := zB qA
                             obtain ⟨ad543, e543, hx543_0, hx543_1⟩ := at_TSpan (Kd.R_reads' HO_10.out).2.2 x14_2 p543 q543
                             cases e543
                             replace p543 := eq_true p543
                             replace q543 := eq_true q543
                             have p544 : 0 ≤ (x15_3 : Int) := zB qA
                             have q544 : x15_3 < (t516.length : Int) := zB qA
                             obtain ⟨ad544, e544, hx544_0, hx544_1⟩ := at_TSpan (Kd.R_reads' HO_10.out).2.2 x15_3 p544 q544
                             obtain rfl : ad543 = ad544 := (by injection e544)
                             replace p544 := eq_true p544
                             replace q544 := eq_true q544
                             refine start_ (n := 13) (S := fun w' => w'.cell? (ad543.add ((x14_2).toNat * 2)) = some (.int .i64 ((rd_TSpan t516 x14_2).f0)) ∧ w'.cell? ⟨(ad543.add ((x14_2).toNat * 2)).block, (ad543.add ((x14_2).toNat * 2)).off + 1, none⟩ = some (.int .i64 ((rd_TSpan t516 x14_2).f1)) ∧ w'.cell? (ad543.add ((x15_3).toNat * 2)) = some (.int .i64 ((rd_TSpan t516 x15_3).f0)) ∧ w'.cell? ⟨(ad543.add ((x15_3).toNat * 2)).block, (ad543.add ((x15_3).toNat * 2)).off + 1, none⟩ = some (.int .i64 ((rd_TSpan t516 x15_3).f1))) (ds := []) (bA 13 0) (by kernel_rfl) rfl rfl ⟨hx543_0, hx543_1, hx544_0, hx544_1⟩ (fun hHeld => ?_); refine with_tabW cubbylaw12_SpanLive.tab19 cubbylaw12_SpanLive.bits19 (fun HT_ HW_ => ?_)
                             generalize wr.drew = w102 at HO_10 HO_11 HO_12 BK509 HB hx543_0 hx543_1 hx544_0 hx544_1 hHeld ⊢
                             refine pu_ (i := 0) (N := some 122) (bA 13 1) ?_
                             refine pu_ (i := 1) (N := some 123) (bA 13 3) ?_
                             refine pu_ (i := 2) (N := some 124) (bA 13 7) ?_
                             refine pu_ (i := 3) (N := some 125) (bA 13 15) ?_
                             refine pu_ (i := 4) (N := some 126) (bA 13 31) ?_
                             refine pu_ (i := 6) (N := some 128) (bA 13 95) ?_
                             refine pu_ (i := 7) (N := some 129) (bA 13 223) ?_
                             refine pu_ (i := 8) (N := some 130) (bA 13 479) ?_
                             refine tk_ (i := 5) (N := some 127) (bA 13 511) ?_
                             refine tk_ (i := 9) (N := some 131) (bA 13 1023) ?_
                             refine one_ (i := 10) (N := some 132) (bA 13 2047) rfl rfl (one_of HT_.out (by kernel_rfl)) (by decide) (fun K hK => ?_)
                             refine goes_ Tryd.func12 (by kernel_rfl) rfl #[.agg #[.int .i64 ((rd_TSpan t516 x14_2).f0), .int .i64 ((rd_TSpan t516 x14_2).f1)], .agg #[.int .i64 ((rd_TSpan t516 x15_3).f0), .int .i64 ((rd_TSpan t516 x15_3).f1)]] (by rfl) rfl rfl qL ?_
                             with_reducible refine (span_Meet.calls ((rd_TSpan t516 x14_2).f0) ((rd_TSpan t516 x14_2).f1) ((rd_TSpan t516 x15_3).f0) ((rd_TSpan t516 x15_3).f1) true _ A97.out).mono ?_
                             (try clear A97)
                             rintro e w104 ⟨rfl, hb⟩
                             have HS0_ := (hb.cell (zE _ _ (hHeld.1))).trans (hHeld.1)
                             have HS1_ := (hb.cell (zE _ _ (hHeld.2.1))).trans (hHeld.2.1)
                             have HS2_ := (hb.cell (zE _ _ (hHeld.2.2.1))).trans (hHeld.2.2.1)
                             have HS3_ := (hb.cell (zE _ _ (hHeld.2.2.2))).trans (hHeld.2.2.2)
                             refine ⟨_, rfl, ?_⟩
                             have n0_ := zA (Kd.R_below (qR HO_10.out) hb)
                             have n1_ := zA (Kd.R_below (qR HO_11.out) hb)
                             have n2_ := zA (Kd.R_below (qR HO_12.out) hb)
                             have n3_ := qW BK509 hb
                             have n4_ := qH hb
                             clear HO_10
                             clear HO_11
                             clear HO_12
                             clear BK509
                             clear HB
                             have HO_10 := n0_
                             have HO_11 := n1_
                             have HO_12 := n2_
                             have BK509 := n3_
                             have HB := n4_
                             clear n0_ n1_ n2_ n3_ n4_
                             (try clear hb)
                             (try clear hb2)
                             (try clear hk)
                             (try clear hi)
                             refine hK.out _ _ ⟨HS0_, HS1_, HS2_, HS3_⟩ (fun hHeld => ?_)
                             clear hK K
                             refine norm_ (a' := ?_) ?_ ?_
                             rotate_left
                             ·show Act.put _ (some 132) _ = _
                              simp only [Act.put, List.setIfInBounds_toArray, List.set_cons_zero, List.set_cons_succ, i64_w, i32_w]
                              rfl
                             refine pu_ (i := 11) (N := some 133) (bA 13 4095) ?_
                             refine pu_ (i := 12) (N := some 134) (bA 13 8191) ?_
                             refine done_ (done_of HT_.out (by kernel_rfl)) ?_
                             try go_wp2
                             go_roundg k3
                             case measure => have := HJ17.out; have := HK2.out; have := HK3.out; omega
                             case rel => exact ⟨(wrap64 (x15_3 + 1)), qT, H', ⟨by have := HJ17.out; have := HK2.out; have := HK3.out; omega⟩, ⟨qR HO_10.out⟩, ⟨qR HO_11.out⟩, ⟨qR HO_12.out⟩, ⟨qK BK509.out⟩, ⟨qB⟩⟩
                            ·replace c98 := Bool.eq_false_iff.mpr c98
                             subst c98
                             have H1 : (some false) = some r := by rw [zD (show ¬ (false = true) by decide)] at H; exact H
                             clear H
                             have H := H1
                             clear H1
                             exact absurd ((zI H).trans HRt.out) (by decide)
                           ·rw [zD c96] at H
                            exact absurd H (by simp)
                          ·rw [zD c95] at H
                           exact absurd H (by simp)
                         ·rw [zD c94] at H
                          exact absurd H (by simp)
                        ·rw [zD c93] at H
                         exact absurd H (by simp)
                       ·rw [zD c92] at H
                        obtain ⟨c92b0, c92b1⟩ := qn c92
                        have H' := zA H
                        clear H
                        have z105_0 := bk4 BK509.out
                        obtain ⟨Ao106, co106, eo106⟩ := Kd.R_slice HO_11.out
                        subst eo106
                        try go_wp2_with (first | ((with_reducible refine gate_callee (f := 20) rfl ?_); refine goesL_ (some 101) rfl rfl Tryd.func20 (by kernel_rfl) rfl #[.slice Ao106 t524.length co106, .int .i64 x14_2] rfl qL ?_; (with_reducible refine (cubbylaw12_has.calls k3 _ _ t524 x14_2 true _ ?side1 ?side2 A61.out).mono ?_); (case side1 => repeat (first | exact (Kd.R_reads' HO_11.out).2.2 | (with_reducible refine Kd.C_alloc ?_ _) | (with_reducible refine Kd.C_drewN ?_ _) | (with_reducible refine Kd.C_drew ?_))); (case side2 => exact (Kd.R_reads' HO_11.out).2.1); rintro e w' ⟨rfl, ⟨nd, rfl⟩⟩; refine ⟨_, rfl, ?_⟩) | (go_at_call 20; (with_reducible refine (cubbylaw12_has.calls k3 _ _ t524 x15_3 false _ ?side1 ?side2 A63.out).mono ?_); (case side1 => repeat (first | exact (Kd.R_reads' HO_11.out).2.2 | (with_reducible refine Kd.C_alloc ?_ _) | (with_reducible refine Kd.C_drewN ?_ _) | (with_reducible refine Kd.C_drew ?_))); (case side2 => exact (Kd.R_reads' HO_11.out).2.1); (try clear A63); rintro e w' ⟨rfl, ⟨nd, rfl⟩⟩; obtain ⟨Ao107, co107, eo107⟩ := Kd.R_slice HO_12.out; subst eo107) | (go_at_call 20; (with_reducible refine (cubbylaw12_has.calls k3 _ _ t527 x14_2 true _ ?side1 ?side2 A76.out).mono ?_); (case side1 => repeat (first | exact (Kd.R_reads' HO_12.out).2.2 | (with_reducible refine Kd.C_alloc ?_ _) | (with_reducible refine Kd.C_drewN ?_ _) | (with_reducible refine Kd.C_drew ?_))); (case side2 => exact (Kd.R_reads' HO_12.out).2.1); (try clear A76); rintro e w' ⟨rfl, ⟨nd, rfl⟩⟩) | (go_at_call 20; (with_reducible refine (cubbylaw12_has.calls k3 _ _ t527 x15_3 false _ ?side1 ?side2 A78.out).mono ?_); (case side1 => repeat (first | exact (Kd.R_reads' HO_12.out).2.2 | (with_reducible refine Kd.C_alloc ?_ _) | (with_reducible refine Kd.C_drewN ?_ _) | (with_reducible refine Kd.C_drew ?_))); (case side2 => exact (Kd.R_reads' HO_12.out).2.1); (try clear A78); rintro e w' ⟨rfl, ⟨nd, rfl⟩⟩))
                        (try (rw [drewN_self wr]; generalize hq_ : World.drewN wr _ = wr; have n0_ : Aside0 (Kd.R kSpan 28 wr w.heap.size (fun _ => True) v517 t516) := ⟨by rw [← hq_]; exact (qR HO_10.out)⟩; have n1_ : Aside0 (Kd.R (Kd.int .i64) 3 wr w.heap.size (fun k_ => some k_ ≠ (.slice Ao107 t527.length co107 : Value).ownBlock) (.slice Ao106 t524.length co106) t524) := ⟨by rw [← hq_]; exact (qR HO_11.out)⟩; have n2_ : Aside0 (Kd.R (Kd.int .i64) 3 wr w.heap.size (fun k_ => some k_ ≠ (.slice Ao106 t524.length co106 : Value).ownBlock) (.slice Ao107 t527.length co107) t527) := ⟨by rw [← hq_]; exact (qR HO_12.out)⟩; have n3_ : Aside0 (wr.heap[gb509]? = some (.cells #[.string a0_0, .int .i64 a0_1, .int .i64 a0_2, .slice (some ad512) l0_3.length c0_3] 24 (0, 0))) := ⟨by rw [← hq_]; exact (qK BK509.out)⟩; have n4_ : Aside0 (Below w.heap.size w wr) := ⟨by rw [← hq_]; exact qB⟩; clear HO_10 HO_11 HO_12 BK509 HB hq_; have HO_10 := n0_; have HO_11 := n1_; have HO_12 := n2_; have BK509 := n3_; have HB := n4_; clear n0_ n1_ n2_ n3_ n4_))
                        have n0_ := zA (Kd.R_drew HO_10.out)
                        have n1_ := zA (Kd.R_drew HO_11.out)
                        have n2_ := zA (Kd.R_drew HO_12.out)
                        have n3_ := zA (blk_drew BK509.out)
                        have n4_ := zA (below_drew1 HB.out)
                        clear HO_10
                        clear HO_11
                        clear HO_12
                        clear BK509
                        clear HB
                        have HO_10 := n0_
                        have HO_11 := n1_
                        have HO_12 := n2_
                        have BK509 := n3_
                        have HB := n4_
                        clear n0_ n1_ n2_ n3_ n4_
                        refine start_ (n := 13) (S := fun w' => True) (ds := []) (bA 13 0) (by kernel_rfl) rfl rfl trivial (fun hHeld => ?_); refine with_tabW cubbylaw12_SpanLive.tab19 cubbylaw12_SpanLive.bits19 (fun HT_ HW_ => ?_)
                        generalize wr.drew = w108 at HO_10 HO_11 HO_12 BK509 HB hHeld ⊢
                        refine pu_ (i := 0) (N := some 122) (bA 13 1) ?_
                        refine pu_ (i := 1) (N := some 123) (bA 13 3) ?_
                        refine pure_ (i := 2) (N := some 124) (v := undef) (a' := ?_) (bA 13 7) rfl rfl (any_of HT_.out (by kernel_rfl)) (fun _ _ _ h => h) (Or.inr ⟨by rfl, rfl⟩) ?_ ?_
                        rotate_left
                        ·simp only [Act.put, List.setIfInBounds_toArray, List.set_cons_zero, List.set_cons_succ, i64_w, i32_w]
                         rfl
                        refine pure_ (i := 3) (N := some 125) (v := undef) (a' := ?_) (bA 13 15) rfl rfl (any_of HT_.out (by kernel_rfl)) (fun _ _ _ h => h) (Or.inr ⟨by rfl, rfl⟩) ?_ ?_
                        rotate_left
                        ·simp only [Act.put, List.setIfInBounds_toArray, List.set_cons_zero, List.set_cons_succ, i64_w, i32_w]
                         rfl
                        refine pure_ (i := 4) (N := some 126) (v := undef) (a' := ?_) (bA 13 31) rfl rfl (any_of HT_.out (by kernel_rfl)) (fun _ _ _ h => h) (Or.inr ⟨by rfl, rfl⟩) ?_ ?_
                        rotate_left
                        ·simp only [Act.put, List.setIfInBounds_toArray, List.set_cons_zero, List.set_cons_succ, i64_w, i32_w]
                         rfl
                        refine pure_ (i := 5) (N := some 127) (v := undef) (a' := ?_) (bA 13 63) rfl rfl (any_of HT_.out (by kernel_rfl)) (fun _ _ _ h => h) (Or.inr ⟨by rfl, rfl⟩) ?_ ?_
                        rotate_left
                        ·simp only [Act.put, List.setIfInBounds_toArray, List.set_cons_zero, List.set_cons_succ, i64_w, i32_w]
                         rfl
                        refine pure_ (i := 6) (N := some 128) (v := undef) (a' := ?_) (bA 13 127) rfl rfl (any_of HT_.out (by kernel_rfl)) (fun _ _ _ h => h) (Or.inr ⟨by rfl, rfl⟩) ?_ ?_
                        rotate_left
                        ·simp only [Act.put, List.setIfInBounds_toArray, List.set_cons_zero, List.set_cons_succ, i64_w, i32_w]
                         rfl
                        refine pure_ (i := 7) (N := some 129) (v := undef) (a' := ?_) (bA 13 255) rfl rfl (any_of HT_.out (by kernel_rfl)) (fun _ _ _ h => h) (Or.inr ⟨by rfl, rfl⟩) ?_ ?_
                        rotate_left
                        ·simp only [Act.put, List.setIfInBounds_toArray, List.set_cons_zero, List.set_cons_succ, i64_w, i32_w]
                         rfl
                        refine pure_ (i := 8) (N := some 130) (v := undef) (a' := ?_) (bA 13 511) rfl rfl (any_of HT_.out (by kernel_rfl)) (fun _ _ _ h => h) (Or.inr ⟨by rfl, rfl⟩) ?_ ?_
                        rotate_left
                        ·simp only [Act.put, List.setIfInBounds_toArray, List.set_cons_zero, List.set_cons_succ, i64_w, i32_w]
                         rfl
                        refine pure_ (i := 9) (N := some 131) (v := undef) (a' := ?_) (bA 13 1023) rfl rfl (any_of HT_.out (by kernel_rfl)) (fun _ _ _ h => h) (Or.inr ⟨by rfl, rfl⟩) ?_ ?_
                        rotate_left
                        ·simp only [Act.put, List.setIfInBounds_toArray, List.set_cons_zero, List.set_cons_succ, i64_w, i32_w]
                         rfl
                        refine pure_ (i := 10) (N := some 132) (v := undef) (a' := ?_) (bA 13 2047) rfl rfl (any_of HT_.out (by kernel_rfl)) (fun _ _ _ h => h) (Or.inr ⟨by rfl, rfl⟩) ?_ ?_
                        rotate_left
                        ·simp only [Act.put, List.setIfInBounds_toArray, List.set_cons_zero, List.set_cons_succ, i64_w, i32_w]
                         rfl
                        refine pure_ (i := 11) (N := some 133) (v := undef) (a' := ?_) (bA 13 4095) rfl rfl (any_of HT_.out (by kernel_rfl)) (fun _ _ _ h => h) (Or.inr ⟨by rfl, rfl⟩) ?_ ?_
                        rotate_left
                        ·simp only [Act.put, List.setIfInBounds_toArray, List.set_cons_zero, List.set_cons_succ, i64_w, i32_w]
                         rfl
                        refine pu_ (i := 12) (N := some 134) (bA 13 8191) ?_
                        refine done_ (done_of HT_.out (by kernel_rfl)) ?_
                        try go_wp2
                        go_roundg k3
                        case measure => have := HJ17.out; have := HK2.out; have := HK3.out; omega
                        case rel => exact ⟨(wrap64 (x15_3 + 1)), qT, H', ⟨by have := HJ17.out; have := HK2.out; have := HK3.out; omega⟩, ⟨qR HO_10.out⟩, ⟨qR HO_11.out⟩, ⟨qR HO_12.out⟩, ⟨qK BK509.out⟩, ⟨qB⟩⟩
                     ·replace c77 := Bool.eq_false_iff.mpr c77
                      subst c77
                      have H1 : (cubbylaw12_SpanLive.l1 k3 t516 t524 t527 t532 x14_2 (wrap64 (x15_3 + 1)) a0_0 a0_1 a0_2 l0_3) = some r := by rw [zD (show ¬ (false = true) by decide)] at H; exact H
                      clear H
                      have H := H1
                      clear H1
                      have H' := zA H
                      clear H
                      have z109_0 := bk4 BK509.out
                      obtain ⟨Ao110, co110, eo110⟩ := Kd.R_slice HO_11.out
                      subst eo110
                      try go_wp2_with (first | ((with_reducible refine gate_callee (f := 20) rfl ?_); refine goesL_ (some 101) rfl rfl Tryd.func20 (by kernel_rfl) rfl #[.slice Ao110 t524.length co110, .int .i64 x14_2] rfl qL ?_; (with_reducible refine (cubbylaw12_has.calls k3 _ _ t524 x14_2 true _ ?side1 ?side2 A61.out).mono ?_); (case side1 => repeat (first | exact (Kd.R_reads' HO_11.out).2.2 | (with_reducible refine Kd.C_alloc ?_ _) | (with_reducible refine Kd.C_drewN ?_ _) | (with_reducible refine Kd.C_drew ?_))); (case side2 => exact (Kd.R_reads' HO_11.out).2.1); rintro e w' ⟨rfl, ⟨nd, rfl⟩⟩; refine ⟨_, rfl, ?_⟩) | (go_at_call 20; (with_reducible refine (cubbylaw12_has.calls k3 _ _ t524 x15_3 false _ ?side1 ?side2 A63.out).mono ?_); (case side1 => repeat (first | exact (Kd.R_reads' HO_11.out).2.2 | (with_reducible refine Kd.C_alloc ?_ _) | (with_reducible refine Kd.C_drewN ?_ _) | (with_reducible refine Kd.C_drew ?_))); (case side2 => exact (Kd.R_reads' HO_11.out).2.1); (try clear A63); rintro e w' ⟨rfl, ⟨nd, rfl⟩⟩; obtain ⟨Ao111, co111, eo111⟩ := Kd.R_slice HO_12.out; subst eo111) | (go_at_call 20; (with_reducible refine (cubbylaw12_has.calls k3 _ _ t527 x14_2 false _ ?side1 ?side2 A76.out).mono ?_); (case side1 => repeat (first | exact (Kd.R_reads' HO_12.out).2.2 | (with_reducible refine Kd.C_alloc ?_ _) | (with_reducible refine Kd.C_drewN ?_ _) | (with_reducible refine Kd.C_drew ?_))); (case side2 => exact (Kd.R_reads' HO_12.out).2.1); (try clear A76); rintro e w' ⟨rfl, ⟨nd, rfl⟩⟩))
                      (try (rw [drewN_self wr]; generalize hq_ : World.drewN wr _ = wr; have n0_ : Aside0 (Kd.R kSpan 28 wr w.heap.size (fun _ => True) v517 t516) := ⟨by rw [← hq_]; exact (qR HO_10.out)⟩; have n1_ : Aside0 (Kd.R (Kd.int .i64) 3 wr w.heap.size (fun k_ => some k_ ≠ (.slice Ao111 t527.length co111 : Value).ownBlock) (.slice Ao110 t524.length co110) t524) := ⟨by rw [← hq_]; exact (qR HO_11.out)⟩; have n2_ : Aside0 (Kd.R (Kd.int .i64) 3 wr w.heap.size (fun k_ => some k_ ≠ (.slice Ao110 t524.length co110 : Value).ownBlock) (.slice Ao111 t527.length co111) t527) := ⟨by rw [← hq_]; exact (qR HO_12.out)⟩; have n3_ : Aside0 (wr.heap[gb509]? = some (.cells #[.string a0_0, .int .i64 a0_1, .int .i64 a0_2, .slice (some ad512) l0_3.length c0_3] 24 (0, 0))) := ⟨by rw [← hq_]; exact (qK BK509.out)⟩; have n4_ : Aside0 (Below w.heap.size w wr) := ⟨by rw [← hq_]; exact qB⟩; clear HO_10 HO_11 HO_12 BK509 HB hq_; have HO_10 := n0_; have HO_11 := n1_; have HO_12 := n2_; have BK509 := n3_; have HB := n4_; clear n0_ n1_ n2_ n3_ n4_))
                      have n0_ := zA (Kd.R_drew HO_10.out)
                      have n1_ := zA (Kd.R_drew HO_11.out)
                      have n2_ := zA (Kd.R_drew HO_12.out)
                      have n3_ := zA (blk_drew BK509.out)
                      have n4_ := zA (below_drew1 HB.out)
                      clear HO_10
                      clear HO_11
                      clear HO_12
                      clear BK509
                      clear HB
                      have HO_10 := n0_
                      have HO_11 := n1_
                      have HO_12 := n2_
                      have BK509 := n3_
                      have HB := n4_
                      clear n0_ n1_ n2_ n3_ n4_
                      refine start_ (n := 13) (S := fun w' => True) (ds := []) (bA 13 0) (by kernel_rfl) rfl rfl trivial (fun hHeld => ?_); refine with_tabW cubbylaw12_SpanLive.tab19 cubbylaw12_SpanLive.bits19 (fun HT_ HW_ => ?_)
                      generalize wr.drew = w112 at HO_10 HO_11 HO_12 BK509 HB hHeld ⊢
                      refine pu_ (i := 0) (N := some 122) (bA 13 1) ?_
                      refine pu_ (i := 1) (N := some 123) (bA 13 3) ?_
                      refine pure_ (i := 2) (N := some 124) (v := undef) (a' := ?_) (bA 13 7) rfl rfl (any_of HT_.out (by kernel_rfl)) (fun _ _ _ h => h) (Or.inr ⟨by rfl, rfl⟩) ?_ ?_
                      rotate_left
                      ·simp only [Act.put, List.setIfInBounds_toArray, List.set_cons_zero, List.set_cons_succ, i64_w, i32_w]
                       rfl
                      refine pure_ (i := 3) (N := some 125) (v := undef) (a' := ?_) (bA 13 15) rfl rfl (any_of HT_.out (by kernel_rfl)) (fun _ _ _ h => h) (Or.inr ⟨by rfl, rfl⟩) ?_ ?_
                      rotate_left
                      ·simp only [Act.put, List.setIfInBounds_toArray, List.set_cons_zero, List.set_cons_succ, i64_w, i32_w]
                       rfl
                      refine pure_ (i := 4) (N := some 126) (v := undef) (a' := ?_) (bA 13 31) rfl rfl (any_of HT_.out (by kernel_rfl)) (fun _ _ _ h => h) (Or.inr ⟨by rfl, rfl⟩) ?_ ?_
                      rotate_left
                      ·simp only [Act.put, List.setIfInBounds_toArray, List.set_cons_zero, List.set_cons_succ, i64_w, i32_w]
                       rfl
                      refine pure_ (i := 5) (N := some 127) (v := undef) (a' := ?_) (bA 13 63) rfl rfl (any_of HT_.out (by kernel_rfl)) (fun _ _ _ h => h) (Or.inr ⟨by rfl, rfl⟩) ?_ ?_
                      rotate_left
                      ·simp only [Act.put, List.setIfInBounds_toArray, List.set_cons_zero, List.set_cons_succ, i64_w, i32_w]
                       rfl
                      refine pure_ (i := 6) (N := some 128) (v := undef) (a' := ?_) (bA 13 127) rfl rfl (any_of HT_.out (by kernel_rfl)) (fun _ _ _ h => h) (Or.inr ⟨by rfl, rfl⟩) ?_ ?_
                      rotate_left
                      ·simp only [Act.put, List.setIfInBounds_toArray, List.set_cons_zero, List.set_cons_succ, i64_w, i32_w]
                       rfl
                      refine pure_ (i := 7) (N := some 129) (v := undef) (a' := ?_) (bA 13 255) rfl rfl (any_of HT_.out (by kernel_rfl)) (fun _ _ _ h => h) (Or.inr ⟨by rfl, rfl⟩) ?_ ?_
                      rotate_left
                      ·simp only [Act.put, List.setIfInBounds_toArray, List.set_cons_zero, List.set_cons_succ, i64_w, i32_w]
                       rfl
                      refine pure_ (i := 8) (N := some 130) (v := undef) (a' := ?_) (bA 13 511) rfl rfl (any_of HT_.out (by kernel_rfl)) (fun _ _ _ h => h) (Or.inr ⟨by rfl, rfl⟩) ?_ ?_
                      rotate_left
                      ·simp only [Act.put, List.setIfInBounds_toArray, List.set_cons_zero, List.set_cons_succ, i64_w, i32_w]
                       rfl
                      refine pure_ (i := 9) (N := some 131) (v := undef) (a' := ?_) (bA 13 1023) rfl rfl (any_of HT_.out (by kernel_rfl)) (fun _ _ _ h => h) (Or.inr ⟨by rfl, rfl⟩) ?_ ?_
                      rotate_left
                      ·simp only [Act.put, List.setIfInBounds_toArray, List.set_cons_zero, List.set_cons_succ, i64_w, i32_w]
                       rfl
                      refine pure_ (i := 10) (N := some 132) (v := undef) (a' := ?_) (bA 13 2047) rfl rfl (any_of HT_.out (by kernel_rfl)) (fun _ _ _ h => h) (Or.inr ⟨by rfl, rfl⟩) ?_ ?_
                      rotate_left
                      ·simp only [Act.put, List.setIfInBounds_toArray, List.set_cons_zero, List.set_cons_succ, i64_w, i32_w]
                       rfl
                      refine pure_ (i := 11) (N := some 133) (v := undef) (a' := ?_) (bA 13 4095) rfl rfl (any_of HT_.out (by kernel_rfl)) (fun _ _ _ h => h) (Or.inr ⟨by rfl, rfl⟩) ?_ ?_
                      rotate_left
                      ·simp only [Act.put, List.setIfInBounds_toArray, List.set_cons_zero, List.set_cons_succ, i64_w, i32_w]
                       rfl
                      refine pu_ (i := 12) (N := some 134) (bA 13 8191) ?_
                      refine done_ (done_of HT_.out (by kernel_rfl)) ?_
                      try go_wp2
                      go_roundg k3
                      case measure => have := HJ17.out; have := HK2.out; have := HK3.out; omega
                      case rel => exact ⟨(wrap64 (x15_3 + 1)), qT, H', ⟨by have := HJ17.out; have := HK2.out; have := HK3.out; omega⟩, ⟨qR HO_10.out⟩, ⟨qR HO_11.out⟩, ⟨qR HO_12.out⟩, ⟨qK BK509.out⟩, ⟨qB⟩⟩
                   ·replace c62 := Bool.eq_false_iff.mpr c62
                    subst c62
                    have H1 : ((cubbylaw12_has.f k3 t527 x14_2).bind fun t546 => (if t546 = true then ((cubbylaw12_has.f k3 t527 x15_3).bind fun t547 => (if t547 = true then (if 0 ≤ x14_2 then (if x14_2 < (t516.length : Int) then (if 0 ≤ x15_3 then (if x15_3 < (t516.length : Int) then ((span_Meet.f ((rd_TSpan t516 x14_2).f0) ((rd_TSpan t516 x14_2).f1) ((rd_TSpan t516 x15_3).f0) ((rd_TSpan t516 x15_3).f1)).bind fun t550 => (if t550 = true then (cubbylaw12_SpanLive.l1 k3 t516 t524 t527 t532 x14_2 (wrap64 (x15_3 + 1)) a0_0 a0_1 a0_2 l0_3) else (some false))) else (none)) else (none)) else (none)) else (none)) else (if t532 = x15_3 then (if 0 ≤ x14_2 then (if x14_2 < (t516.length : Int) then (if 0 ≤ x15_3 then (if x15_3 < (t516.length : Int) then ((span_Meet.f ((rd_TSpan t516 x14_2).f0) ((rd_TSpan t516 x14_2).f1) ((rd_TSpan t516 x15_3).f0) ((rd_TSpan t516 x15_3).f1)).bind fun t553 => (if t553 = true then (cubbylaw12_SpanLive.l1 k3 t516 t524 t527 t532 x14_2 (wrap64 (x15_3 + 1)) a0_0 a0_1 a0_2 l0_3) else (some false))) else (none)) else (none)) else (none)) else (none)) else (cubbylaw12_SpanLive.l1 k3 t516 t524 t527 t532 x14_2 (wrap64 (x15_3 + 1)) a0_0 a0_1 a0_2 l0_3)))) else (cubbylaw12_SpanLive.l1 k3 t516 t524 t527 t532 x14_2 (wrap64 (x15_3 + 1)) a0_0 a0_1 a0_2 l0_3))) = some r := by rw [zD (show ¬ (false = true) by decide)] at H; exact H
                    clear H
                    have H := H1
                    clear H1
                    replace H := qb H; obtain ⟨t546, A113, H⟩ := H
                    by_cases c114 : t546 = true
                    ·subst c114
                     have H1 : ((cubbylaw12_has.f k3 t527 x15_3).bind fun t547 => (if t547 = true then (if 0 ≤ x14_2 then (if x14_2 < (t516.length : Int) then (if 0 ≤ x15_3 then (if x15_3 < (t516.length : Int) then ((span_Meet.f ((rd_TSpan t516 x14_2).f0) ((rd_TSpan t516 x14_2).f1) ((rd_TSpan t516 x15_3).f0) ((rd_TSpan t516 x15_3).f1)).bind fun t550 => (if t550 = true then (cubbylaw12_SpanLive.l1 k3 t516 t524 t527 t532 x14_2 (wrap64 (x15_3 + 1)) a0_0 a0_1 a0_2 l0_3) else (some false))) else (none)) else (none)) else (none)) else (none)) else (if t532 = x15_3 then (if 0 ≤ x14_2 then (if x14_2 < (t516.length : Int) then (if 0 ≤ x15_3 then (if x15_3 < (t516.length : Int) then ((span_Meet.f ((rd_TSpan t516 x14_2).f0) ((rd_TSpan t516 x14_2).f1) ((rd_TSpan t516 x15_3).f0) ((rd_TSpan t516 x15_3).f1)).bind fun t553 => (if t553 = true then (cubbylaw12_SpanLive.l1 k3 t516 t524 t527 t532 x14_2 (wrap64 (x15_3 + 1)) a0_0 a0_1 a0_2 l0_3) else (some false))) else (none)) else (none)) else (none)) else (none)) else (cubbylaw12_SpanLive.l1 k3 t516 t524 t527 t532 x14_2 (wrap64 (x15_3 + 1)) a0_0 a0_1 a0_2 l0_3)))) = some r := by rw [zC rfl] at H; exact H
                     clear H
                     have H := H1
                     clear H1
                     replace H := qb H; obtain ⟨t547, A115, H⟩ := H
                     by_cases c116 : t547 = true
                     ·subst c116
                      have H1 : (if 0 ≤ x14_2 then (if x14_2 < (t516.length : Int) then (if 0 ≤ x15_3 then (if x15_3 < (t516.length : Int) then ((span_Meet.f ((rd_TSpan t516 x14_2).f0) ((rd_TSpan t516 x14_2).f1) ((rd_TSpan t516 x15_3).f0) ((rd_TSpan t516 x15_3).f1)).bind fun t550 => (if t550 = true then (cubbylaw12_SpanLive.l1 k3 t516 t524 t527 t532 x14_2 (wrap64 (x15_3 + 1)) a0_0 a0_1 a0_2 l0_3) else (some false))) else (none)) else (none)) else (none)) else (none)) = some r := by rw [zC rfl] at H; exact H
                      clear H
                      have H := H1
                      clear H1
                      by_cases c117 : 0 ≤ x14_2
                      ·rw [zC c117] at H
                       have c117b0 := zF c117
                       clear c117
                       by_cases c118 : x14_2 < (t516.length : Int)
                       ·rw [zC c118] at H
                        have c118b0 := zF c118
                        clear c118
                        by_cases c119 : 0 ≤ x15_3
                        ·rw [zC c119] at H
                         have c119b0 := zF c119
                         clear c119
                         by_cases c120 : x15_3 < (t516.length : Int)
                         ·rw [zC c120] at H
                          have c120b0 := zF c120
                          clear c120
                          replace H := qb H; obtain ⟨t550, A121, H⟩ := H
                          by_cases c122 : t550 = true
                          ·subst c122
                           have H1 : (cubbylaw12_SpanLive.l1 k3 t516 t524 t527 t532 x14_2 (wrap64 (x15_3 + 1)) a0_0 a0_1 a0_2 l0_3) = some r := by rw [zC rfl] at H; exact H
                           clear H
                           have H := H1
                           clear H1
                           have H' := zA H
                           clear H
                           have z123_0 := bk4 BK509.out
                           obtain ⟨Ao124, co124, eo124⟩ := Kd.R_slice HO_11.out
                           subst eo124
                           try go_wp2_with (first | ((with_reducible refine gate_callee (f := 20) rfl ?_); refine goesL_ (some 101) rfl rfl Tryd.func20 (by kernel_rfl) rfl #[.slice Ao124 t524.length co124, .int .i64 x14_2] rfl qL ?_; (with_reducible refine (cubbylaw12_has.calls k3 _ _ t524 x14_2 false _ ?side1 ?side2 A61.out).mono ?_); (case side1 => repeat (first | exact (Kd.R_reads' HO_11.out).2.2 | (with_reducible refine Kd.C_alloc ?_ _) | (with_reducible refine Kd.C_drewN ?_ _) | (with_reducible refine Kd.C_drew ?_))); (case side2 => exact (Kd.R_reads' HO_11.out).2.1); rintro e w' ⟨rfl, ⟨nd, rfl⟩⟩; refine ⟨_, rfl, ?_⟩; obtain ⟨Ao125, co125, eo125⟩ := Kd.R_slice HO_12.out; subst eo125) | (go_at_call 20; (with_reducible refine (cubbylaw12_has.calls k3 _ _ t527 x14_2 true _ ?side1 ?side2 A113.out).mono ?_); (case side1 => repeat (first | exact (Kd.R_reads' HO_12.out).2.2 | (with_reducible refine Kd.C_alloc ?_ _) | (with_reducible refine Kd.C_drewN ?_ _) | (with_reducible refine Kd.C_drew ?_))); (case side2 => exact (Kd.R_reads' HO_12.out).2.1); (try clear A113); rintro e w' ⟨rfl, ⟨nd, rfl⟩⟩) | (go_at_call 20; (with_reducible refine (cubbylaw12_has.calls k3 _ _ t527 x15_3 true _ ?side1 ?side2 A115.out).mono ?_); (case side1 => repeat (first | exact (Kd.R_reads' HO_12.out).2.2 | (with_reducible refine Kd.C_alloc ?_ _) | (with_reducible refine Kd.C_drewN ?_ _) | (with_reducible refine Kd.C_drew ?_))); (case side2 => exact (Kd.R_reads' HO_12.out).2.1); (try clear A115); rintro e w' ⟨rfl, ⟨nd, rfl⟩⟩))
                           (try (rw [drewN_self wr]; generalize hq_ : World.drewN wr _ = wr; have n0_ : Aside0 (Kd.R kSpan 28 wr w.heap.size (fun _ => True) v517 t516) := ⟨by rw [← hq_]; exact (qR HO_10.out)⟩; have n1_ : Aside0 (Kd.R (Kd.int .i64) 3 wr w.heap.size (fun k_ => some k_ ≠ (.slice Ao125 t527.length co125 : Value).ownBlock) (.slice Ao124 t524.length co124) t524) := ⟨by rw [← hq_]; exact (qR HO_11.out)⟩; have n2_ : Aside0 (Kd.R (Kd.int .i64) 3 wr w.heap.size (fun k_ => some k_ ≠ (.slice Ao124 t524.length co124 : Value).ownBlock) (.slice Ao125 t527.length co125) t527) := ⟨by rw [← hq_]; exact (qR HO_12.out)⟩; have n3_ : Aside0 (wr.heap[gb509]? = some (.cells #[.string a0_0, .int .i64 a0_1, .int .i64 a0_2, .slice (some ad512) l0_3.length c0_3] 24 (0, 0))) := ⟨by rw [← hq_]; exact (qK BK509.out)⟩; have n4_ : Aside0 (Below w.heap.size w wr) := ⟨by rw [← hq_]; exact qB⟩; clear HO_10 HO_11 HO_12 BK509 HB hq_; have HO_10 := n0_; have HO_11 := n1_; have HO_12 := n2_; have BK509 := n3_; have HB := n4_; clear n0_ n1_ n2_ n3_ n4_))
                           have n0_ := zA (Kd.R_drew HO_10.out)
                           have n1_ := zA (Kd.R_drew HO_11.out)
                           have n2_ := zA (Kd.R_drew HO_12.out)
                           have n3_ := zA (blk_drew BK509.out)
                           have n4_ := zA (below_drew1 HB.out)
                           clear HO_10
                           clear HO_11
                           clear HO_12
                           clear BK509
                           clear HB
                           have HO_10 := n0_
                           have HO_11 := n1_
                           have HO_12 := n2_
                           have BK509 := n3_
                           have HB := n4_
                           clear n0_ n1_ n2_ n3_ n4_
                           obtain ⟨Ao127, co127, eo127⟩ := Kd.R_slice HO_10.out
                           (first | subst eo127 | (injection eo127 with f1_ f2_ f3_; have f4_ := f1_.symm; have f5_ := f3_.symm; clear f1_ f2_ f3_; subst f4_; subst f5_))
                           have p548 : 0 ≤ (x14_2 : Int) := zB qA
                           have q548 : x14_2 < (t516.length : Int) := zB qA
                           obtain ⟨ad548, e548, hx548_0, hx548_1⟩ := at_TSpan (Kd.R_reads' HO_10.out).2.2 x14_2 p548 q548
                           cases e548
                           replace p548 := eq_true p548
                           replace q548 := eq_true q548
                           have p549 : 0 ≤ (x15_3 : Int) := zB qA
                           have q549 : x15_3 < (t516.length : Int) := zB qA
                           obtain ⟨ad549, e549, hx549_0, hx549_1⟩ := at_TSpan (Kd.R_reads' HO_10.out).2.2 x15_3 p549 q549
                           obtain rfl : ad548 = ad549 := (by injection e549)
                           replace p549 := eq_true p549
                           replace q549 := eq_true q549
                           refine start_ (n := 13) (S := fun w' => w'.cell? (ad548.add ((x14_2).toNat * 2)) = some (.int .i64 ((rd_TSpan t516 x14_2).f0)) ∧ w'.cell? ⟨(ad548.add ((x14_2).toNat * 2)).block, (ad548.add ((x14_2).toNat * 2)).off + 1, none⟩ = some (.int .i64 ((rd_TSpan t516 x14_2).f1)) ∧ w'.cell? (ad548.add ((x15_3).toNat * 2)) = some (.int .i64 ((rd_TSpan t516 x15_3).f0)) ∧ w'.cell? ⟨(ad548.add ((x15_3).toNat * 2)).block, (ad548.add ((x15_3).toNat * 2)).off + 1, none⟩ = some (.int .i64 ((rd_TSpan t516 x15_3).f1))) (ds := []) (bA 13 0) (by kernel_rfl) rfl rfl ⟨hx548_0, hx548_1, hx549_0, hx549_1⟩ (fun hHeld => ?_); refine with_tabW cubbylaw12_SpanLive.tab19 cubbylaw12_SpanLive.bits19 (fun HT_ HW_ => ?_)
                           generalize wr.drew = w126 at HO_10 HO_11 HO_12 BK509 HB hx548_0 hx548_1 hx549_0 hx549_1 hHeld ⊢
                           refine pu_ (i := 0) (N := some 122) (bA 13 1) ?_
                           refine pu_ (i := 1) (N := some 123) (bA 13 3) ?_
                           refine pu_ (i := 2) (N := some 124) (bA 13 7) ?_
                           refine pu_ (i := 3) (N := some 125) (bA 13 15) ?_
                           refine pu_ (i := 4) (N := some 126) (bA 13 31) ?_
                           refine pu_ (i := 6) (N := some 128) (bA 13 95) ?_
                           refine pu_ (i := 7) (N := some 129) (bA 13 223) ?_
                           refine pu_ (i := 8) (N := some 130) (bA 13 479) ?_
                           refine tk_ (i := 5) (N := some 127) (bA 13 511) ?_
                           refine tk_ (i := 9) (N := some 131) (bA 13 1023) ?_
                           refine one_ (i := 10) (N := some 132) (bA 13 2047) rfl rfl (one_of HT_.out (by kernel_rfl)) (by decide) (fun K hK => ?_)
                           refine goes_ Tryd.func12 (by kernel_rfl) rfl #[.agg #[.int .i64 ((rd_TSpan t516 x14_2).f0), .int .i64 ((rd_TSpan t516 x14_2).f1)], .agg #[.int .i64 ((rd_TSpan t516 x15_3).f0), .int .i64 ((rd_TSpan t516 x15_3).f1)]] (by rfl) rfl rfl qL ?_
                           with_reducible refine (span_Meet.calls ((rd_TSpan t516 x14_2).f0) ((rd_TSpan t516 x14_2).f1) ((rd_TSpan t516 x15_3).f0) ((rd_TSpan t516 x15_3).f1) true _ A121.out).mono ?_
                           (try clear A121)
                           rintro e w128 ⟨rfl, hb⟩
                           have HS0_ := (hb.cell (zE _ _ (hHeld.1))).trans (hHeld.1)
                           have HS1_ := (hb.cell (zE _ _ (hHeld.2.1))).trans (hHeld.2.1)
                           have HS2_ := (hb.cell (zE _ _ (hHeld.2.2.1))).trans (hHeld.2.2.1)
                           have HS3_ := (hb.cell (zE _ _ (hHeld.2.2.2))).trans (hHeld.2.2.2)
                           refine ⟨_, rfl, ?_⟩
                           have n0_ := zA (Kd.R_below (qR HO_10.out) hb)
                           have n1_ := zA (Kd.R_below (qR HO_11.out) hb)
                           have n2_ := zA (Kd.R_below (qR HO_12.out) hb)
                           have n3_ := qW BK509 hb
                           have n4_ := qH hb
                           clear HO_10
                           clear HO_11
                           clear HO_12
                           clear BK509
                           clear HB
                           have HO_10 := n0_
                           have HO_11 := n1_
                           have HO_12 := n2_
                           have BK509 := n3_
                           have HB := n4_
                           clear n0_ n1_ n2_ n3_ n4_
                           (try clear hb)
                           (try clear hb2)
                           (try clear hk)
                           (try clear hi)
                           refine hK.out _ _ ⟨HS0_, HS1_, HS2_, HS3_⟩ (fun hHeld => ?_)
                           clear hK K
                           refine norm_ (a' := ?_) ?_ ?_
                           rotate_left
                           ·show Act.put _ (some 132) _ = _
                            simp only [Act.put, List.setIfInBounds_toArray, List.set_cons_zero, List.set_cons_succ, i64_w, i32_w]
                            rfl
                           refine pu_ (i := 11) (N := some 133) (bA 13 4095) ?_
                           refine pu_ (i := 12) (N := some 134) (bA 13 8191) ?_
                           refine done_ (done_of HT_.out (by kernel_rfl)) ?_
                           try go_wp2
                           go_roundg k3
                           case measure => have := HJ17.out; have := HK2.out; have := HK3.out; omega
                           case rel => exact ⟨(wrap64 (x15_3 + 1)), qT, H', ⟨by have := HJ17.out; have := HK2.out; have := HK3.out; omega⟩, ⟨qR HO_10.out⟩, ⟨qR HO_11.out⟩, ⟨qR HO_12.out⟩, ⟨qK BK509.out⟩, ⟨qB⟩⟩
                          ·replace c122 := Bool.eq_false_iff.mpr c122
                           subst c122
                           have H1 : (some false) = some r := by rw [zD (show ¬ (false = true) by decide)] at H; exact H
                           clear H
                           have H := H1
                           clear H1
                           exact absurd ((zI H).trans HRt.out) (by decide)
                         ·rw [zD c120] at H
                          exact absurd H (by simp)
                        ·rw [zD c119] at H
                         exact absurd H (by simp)
                       ·rw [zD c118] at H
                        exact absurd H (by simp)
                      ·rw [zD c117] at H
                       exact absurd H (by simp)
                     ·replace c116 := Bool.eq_false_iff.mpr c116
                      subst c116
                      have H1 : (if t532 = x15_3 then (if 0 ≤ x14_2 then (if x14_2 < (t516.length : Int) then (if 0 ≤ x15_3 then (if x15_3 < (t516.length : Int) then ((span_Meet.f ((rd_TSpan t516 x14_2).f0) ((rd_TSpan t516 x14_2).f1) ((rd_TSpan t516 x15_3).f0) ((rd_TSpan t516 x15_3).f1)).bind fun t553 => (if t553 = true then (cubbylaw12_SpanLive.l1 k3 t516 t524 t527 t532 x14_2 (wrap64 (x15_3 + 1)) a0_0 a0_1 a0_2 l0_3) else (some false))) else (none)) else (none)) else (none)) else (none)) else (cubbylaw12_SpanLive.l1 k3 t516 t524 t527 t532 x14_2 (wrap64 (x15_3 + 1)) a0_0 a0_1 a0_2 l0_3)) = some r := by rw [zD (show ¬ (false = true) by decide)] at H; exact H
                      clear H
                      have H := H1
                      clear H1
                      by_cases c129 : t532 = x15_3
                      ·rw [zC c129] at H
                       obtain ⟨c129b0, c129b1⟩ := qe c129; clear c129
                       by_cases c130 : 0 ≤ x14_2
                       ·rw [zC c130] at H
                        have c130b0 := zF c130
                        clear c130
                        by_cases c131 : x14_2 < (t516.length : Int)
                        ·rw [zC c131] at H
                         have c131b0 := zF c131
                         clear c131
                         by_cases c132 : 0 ≤ x15_3
                         ·rw [zC c132] at H
                          have c132b0 := zF c132
                          clear c132
                          by_cases c133 : x15_3 < (t516.length : Int)
                          ·rw [zC c133] at H
                           have c133b0 := zF c133
                           clear c133
                           replace H := qb H; obtain ⟨t553, A134, H⟩ := H
                           by_cases c135 : t553 = true
                           ·subst c135
                            have H1 : (cubbylaw12_SpanLive.l1 k3 t516 t524 t527 t532 x14_2 (wrap64 (x15_3 + 1)) a0_0 a0_1 a0_2 l0_3) = some r := by rw [zC rfl] at H; exact H
                            clear H
                            have H := H1
                            clear H1
                            have H' := zA H
                            clear H
                            have z136_0 := bk4 BK509.out
                            obtain ⟨Ao137, co137, eo137⟩ := Kd.R_slice HO_11.out
                            subst eo137
                            try go_wp2_with (first | ((with_reducible refine gate_callee (f := 20) rfl ?_); refine goesL_ (some 101) rfl rfl Tryd.func20 (by kernel_rfl) rfl #[.slice Ao137 t524.length co137, .int .i64 x14_2] rfl qL ?_; (with_reducible refine (cubbylaw12_has.calls k3 _ _ t524 x14_2 false _ ?side1 ?side2 A61.out).mono ?_); (case side1 => repeat (first | exact (Kd.R_reads' HO_11.out).2.2 | (with_reducible refine Kd.C_alloc ?_ _) | (with_reducible refine Kd.C_drewN ?_ _) | (with_reducible refine Kd.C_drew ?_))); (case side2 => exact (Kd.R_reads' HO_11.out).2.1); rintro e w' ⟨rfl, ⟨nd, rfl⟩⟩; refine ⟨_, rfl, ?_⟩; obtain ⟨Ao138, co138, eo138⟩ := Kd.R_slice HO_12.out; subst eo138) | (go_at_call 20; (with_reducible refine (cubbylaw12_has.calls k3 _ _ t527 x14_2 true _ ?side1 ?side2 A113.out).mono ?_); (case side1 => repeat (first | exact (Kd.R_reads' HO_12.out).2.2 | (with_reducible refine Kd.C_alloc ?_ _) | (with_reducible refine Kd.C_drewN ?_ _) | (with_reducible refine Kd.C_drew ?_))); (case side2 => exact (Kd.R_reads' HO_12.out).2.1); (try clear A113); rintro e w' ⟨rfl, ⟨nd, rfl⟩⟩) | (go_at_call 20; (with_reducible refine (cubbylaw12_has.calls k3 _ _ t527 x15_3 false _ ?side1 ?side2 A115.out).mono ?_); (case side1 => repeat (first | exact (Kd.R_reads' HO_12.out).2.2 | (with_reducible refine Kd.C_alloc ?_ _) | (with_reducible refine Kd.C_drewN ?_ _) | (with_reducible refine Kd.C_drew ?_))); (case side2 => exact (Kd.R_reads' HO_12.out).2.1); (try clear A115); rintro e w' ⟨rfl, ⟨nd, rfl⟩⟩))
                            (try (rw [drewN_self wr]; generalize hq_ : World.drewN wr _ = wr; have n0_ : Aside0 (Kd.R kSpan 28 wr w.heap.size (fun _ => True) v517 t516) := ⟨by rw [← hq_]; exact (qR HO_10.out)⟩; have n1_ : Aside0 (Kd.R (Kd.int .i64) 3 wr w.heap.size (fun k_ => some k_ ≠ (.slice Ao138 t527.length co138 : Value).ownBlock) (.slice Ao137 t524.length co137) t524) := ⟨by rw [← hq_]; exact (qR HO_11.out)⟩; have n2_ : Aside0 (Kd.R (Kd.int .i64) 3 wr w.heap.size (fun k_ => some k_ ≠ (.slice Ao137 t524.length co137 : Value).ownBlock) (.slice Ao138 t527.length co138) t527) := ⟨by rw [← hq_]; exact (qR HO_12.out)⟩; have n3_ : Aside0 (wr.heap[gb509]? = some (.cells #[.string a0_0, .int .i64 a0_1, .int .i64 a0_2, .slice (some ad512) l0_3.length c0_3] 24 (0, 0))) := ⟨by rw [← hq_]; exact (qK BK509.out)⟩; have n4_ : Aside0 (Below w.heap.size w wr) := ⟨by rw [← hq_]; exact qB⟩; clear HO_10 HO_11 HO_12 BK509 HB hq_; have HO_10 := n0_; have HO_11 := n1_; have HO_12 := n2_; have BK509 := n3_; have HB := n4_; clear n0_ n1_ n2_ n3_ n4_))
                            have n0_ := zA (Kd.R_drew HO_10.out)
                            have n1_ := zA (Kd.R_drew HO_11.out)
                            have n2_ := zA (Kd.R_drew HO_12.out)
                            have n3_ := zA (blk_drew BK509.out)
                            have n4_ := zA (below_drew1 HB.out)
                            clear HO_10
                            clear HO_11
                            clear HO_12
                            clear BK509
                            clear HB
                            have HO_10 := n0_
                            have HO_11 := n1_
                            have HO_12 := n2_
                            have BK509 := n3_
                            have HB := n4_
                            clear n0_ n1_ n2_ n3_ n4_
                            obtain ⟨Ao140, co140, eo140⟩ := Kd.R_slice HO_10.out
                            (first | subst eo140 | (injection eo140 with f1_ f2_ f3_; have f4_ := f1_.symm; have f5_ := f3_.symm; clear f1_ f2_ f3_; subst f4_; subst f5_))
                            have p551 : 0 ≤ (x14_2 : Int) := zB qA
                            have q551 : x14_2 < (t516.length : Int) := zB qA
                            obtain ⟨ad551, e551, hx551_0, hx551_1⟩ := at_TSpan (Kd.R_reads' HO_10.out).2.2 x14_2 p551 q551
                            cases e551
                            replace p551 := eq_true p551
                            replace q551 := eq_true q551
                            have p552 : 0 ≤ (x15_3 : Int) := zB qA
                            have q552 : x15_3 < (t516.length : Int) := zB qA
                            obtain ⟨ad552, e552, hx552_0, hx552_1⟩ := at_TSpan (Kd.R_reads' HO_10.out).2.2 x15_3 p552 q552
                            obtain rfl : ad551 = ad552 := (by injection e552)
                            replace p552 := eq_true p552
                            replace q552 := eq_true q552
                            refine start_ (n := 13) (S := fun w' => w'.cell? (ad551.add ((x14_2).toNat * 2)) = some (.int .i64 ((rd_TSpan t516 x14_2).f0)) ∧ w'.cell? ⟨(ad551.add ((x14_2).toNat * 2)).block, (ad551.add ((x14_2).toNat * 2)).off + 1, none⟩ = some (.int .i64 ((rd_TSpan t516 x14_2).f1)) ∧ w'.cell? (ad551.add ((x15_3).toNat * 2)) = some (.int .i64 ((rd_TSpan t516 x15_3).f0)) ∧ w'.cell? ⟨(ad551.add ((x15_3).toNat * 2)).block, (ad551.add ((x15_3).toNat * 2)).off + 1, none⟩ = some (.int .i64 ((rd_TSpan t516 x15_3).f1))) (ds := []) (bA 13 0) (by kernel_rfl) rfl rfl ⟨hx551_0, hx551_1, hx552_0, hx552_1⟩ (fun hHeld => ?_); refine with_tabW cubbylaw12_SpanLive.tab19 cubbylaw12_SpanLive.bits19 (fun HT_ HW_ => ?_)
                            generalize wr.drew = w139 at HO_10 HO_11 HO_12 BK509 HB hx551_0 hx551_1 hx552_0 hx552_1 hHeld ⊢
                            refine pu_ (i := 0) (N := some 122) (bA 13 1) ?_
                            refine pu_ (i := 1) (N := some 123) (bA 13 3) ?_
                            refine pu_ (i := 2) (N := some 124) (bA 13 7) ?_
                            refine pu_ (i := 3) (N := some 125) (bA 13 15) ?_
                            refine pu_ (i := 4) (N := some 126) (bA 13 31) ?_
                            refine pu_ (i := 6) (N := some 128) (bA 13 95) ?_
                            refine pu_ (i := 7) (N := some 129) (bA 13 223) ?_
                            refine pu_ (i := 8) (N := some 130) (bA 13 479) ?_
                            refine tk_ (i := 5) (N := some 127) (bA 13 511) ?_
                            refine tk_ (i := 9) (N := some 131) (bA 13 1023) ?_
                            refine one_ (i := 10) (N := some 132) (bA 13 2047) rfl rfl (one_of HT_.out (by kernel_rfl)) (by decide) (fun K hK => ?_)
                            refine goes_ Tryd.func12 (by kernel_rfl) rfl #[.agg #[.int .i64 ((rd_TSpan t516 x14_2).f0), .int .i64 ((rd_TSpan t516 x14_2).f1)], .agg #[.int .i64 ((rd_TSpan t516 x15_3).f0), .int .i64 ((rd_TSpan t516 x15_3).f1)]] (by rfl) rfl rfl qL ?_
                            with_reducible refine (span_Meet.calls ((rd_TSpan t516 x14_2).f0) ((rd_TSpan t516 x14_2).f1) ((rd_TSpan t516 x15_3).f0) ((rd_TSpan t516 x15_3).f1) true _ A134.out).mono ?_
                            (try clear A134)
                            rintro e w141 ⟨rfl, hb⟩
                            have HS0_ := (hb.cell (zE _ _ (hHeld.1))).trans (hHeld.1)
                            have HS1_ := (hb.cell (zE _ _ (hHeld.2.1))).trans (hHeld.2.1)
                            have HS2_ := (hb.cell (zE _ _ (hHeld.2.2.1))).trans (hHeld.2.2.1)
                            have HS3_ := (hb.cell (zE _ _ (hHeld.2.2.2))).trans (hHeld.2.2.2)
                            refine ⟨_, rfl, ?_⟩
                            have n0_ := zA (Kd.R_below (qR HO_10.out) hb)
                            have n1_ := zA (Kd.R_below (qR HO_11.out) hb)
                            have n2_ := zA (Kd.R_below (qR HO_12.out) hb)
                            have n3_ := qW BK509 hb
                            have n4_ := qH hb
                            clear HO_10
                            clear HO_11
                            clear HO_12
                            clear BK509
                            clear HB
                            have HO_10 := n0_
                            have HO_11 := n1_
                            have HO_12 := n2_
                            have BK509 := n3_
                            have HB := n4_
                            clear n0_ n1_ n2_ n3_ n4_
                            (try clear hb)
                            (try clear hb2)
                            (try clear hk)
                            (try clear hi)
                            refine hK.out _ _ ⟨HS0_, HS1_, HS2_, HS3_⟩ (fun hHeld => ?_)
                            clear hK K
                            refine norm_ (a' := ?_) ?_ ?_
                            rotate_left
                            ·show Act.put _ (some 132) _ = _
                             simp only [Act.put, List.setIfInBounds_toArray, List.set_cons_zero, List.set_cons_succ, i64_w, i32_w]
                             rfl
                            refine pu_ (i := 11) (N := some 133) (bA 13 4095) ?_
                            refine pu_ (i := 12) (N := some 134) (bA 13 8191) ?_
                            refine done_ (done_of HT_.out (by kernel_rfl)) ?_
                            try go_wp2
                            go_roundg k3
                            case measure => have := HJ17.out; have := HK2.out; have := HK3.out; omega
                            case rel => exact ⟨(wrap64 (x15_3 + 1)), qT, H', ⟨by have := HJ17.out; have := HK2.out; have := HK3.out; omega⟩, ⟨qR HO_10.out⟩, ⟨qR HO_11.out⟩, ⟨qR HO_12.out⟩, ⟨qK BK509.out⟩, ⟨qB⟩⟩
                           ·replace c135 := Bool.eq_false_iff.mpr c135
                            subst c135
                            have H1 : (some false) = some r := by rw [zD (show ¬ (false = true) by decide)] at H; exact H
                            clear H
                            have H := H1
                            clear H1
                            exact absurd ((zI H).trans HRt.out) (by decide)
                          ·rw [zD c133] at H
                           exact absurd H (by simp)
                         ·rw [zD c132] at H
                          exact absurd H (by simp)
                        ·rw [zD c131] at H
                         exact absurd H (by simp)
                       ·rw [zD c130] at H
                        exact absurd H (by simp)
                      ·rw [zD c129] at H
                       obtain ⟨c129b0, c129b1⟩ := qn c129
                       have H' := zA H
                       clear H
                       have z142_0 := bk4 BK509.out
                       obtain ⟨Ao143, co143, eo143⟩ := Kd.R_slice HO_11.out
                       subst eo143
                       try go_wp2_with (first | ((with_reducible refine gate_callee (f := 20) rfl ?_); refine goesL_ (some 101) rfl rfl Tryd.func20 (by kernel_rfl) rfl #[.slice Ao143 t524.length co143, .int .i64 x14_2] rfl qL ?_; (with_reducible refine (cubbylaw12_has.calls k3 _ _ t524 x14_2 false _ ?side1 ?side2 A61.out).mono ?_); (case side1 => repeat (first | exact (Kd.R_reads' HO_11.out).2.2 | (with_reducible refine Kd.C_alloc ?_ _) | (with_reducible refine Kd.C_drewN ?_ _) | (with_reducible refine Kd.C_drew ?_))); (case side2 => exact (Kd.R_reads' HO_11.out).2.1); rintro e w' ⟨rfl, ⟨nd, rfl⟩⟩; refine ⟨_, rfl, ?_⟩; obtain ⟨Ao144, co144, eo144⟩ := Kd.R_slice HO_12.out; subst eo144) | (go_at_call 20; (with_reducible refine (cubbylaw12_has.calls k3 _ _ t527 x14_2 true _ ?side1 ?side2 A113.out).mono ?_); (case side1 => repeat (first | exact (Kd.R_reads' HO_12.out).2.2 | (with_reducible refine Kd.C_alloc ?_ _) | (with_reducible refine Kd.C_drewN ?_ _) | (with_reducible refine Kd.C_drew ?_))); (case side2 => exact (Kd.R_reads' HO_12.out).2.1); (try clear A113); rintro e w' ⟨rfl, ⟨nd, rfl⟩⟩) | (go_at_call 20; (with_reducible refine (cubbylaw12_has.calls k3 _ _ t527 x15_3 false _ ?side1 ?side2 A115.out).mono ?_); (case side1 => repeat (first | exact (Kd.R_reads' HO_12.out).2.2 | (with_reducible refine Kd.C_alloc ?_ _) | (with_reducible refine Kd.C_drewN ?_ _) | (with_reducible refine Kd.C_drew ?_))); (case side2 => exact (Kd.R_reads' HO_12.out).2.1); (try clear A115); rintro e w' ⟨rfl, ⟨nd, rfl⟩⟩))
                       (try (rw [drewN_self wr]; generalize hq_ : World.drewN wr _ = wr; have n0_ : Aside0 (Kd.R kSpan 28 wr w.heap.size (fun _ => True) v517 t516) := ⟨by rw [← hq_]; exact (qR HO_10.out)⟩; have n1_ : Aside0 (Kd.R (Kd.int .i64) 3 wr w.heap.size (fun k_ => some k_ ≠ (.slice Ao144 t527.length co144 : Value).ownBlock) (.slice Ao143 t524.length co143) t524) := ⟨by rw [← hq_]; exact (qR HO_11.out)⟩; have n2_ : Aside0 (Kd.R (Kd.int .i64) 3 wr w.heap.size (fun k_ => some k_ ≠ (.slice Ao143 t524.length co143 : Value).ownBlock) (.slice Ao144 t527.length co144) t527) := ⟨by rw [← hq_]; exact (qR HO_12.out)⟩; have n3_ : Aside0 (wr.heap[gb509]? = some (.cells #[.string a0_0, .int .i64 a0_1, .int .i64 a0_2, .slice (some ad512) l0_3.length c0_3] 24 (0, 0))) := ⟨by rw [← hq_]; exact (qK BK509.out)⟩; have n4_ : Aside0 (Below w.heap.size w wr) := ⟨by rw [← hq_]; exact qB⟩; clear HO_10 HO_11 HO_12 BK509 HB hq_; have HO_10 := n0_; have HO_11 := n1_; have HO_12 := n2_; have BK509 := n3_; have HB := n4_; clear n0_ n1_ n2_ n3_ n4_))
                       have n0_ := zA (Kd.R_drew HO_10.out)
                       have n1_ := zA (Kd.R_drew HO_11.out)
                       have n2_ := zA (Kd.R_drew HO_12.out)
                       have n3_ := zA (blk_drew BK509.out)
                       have n4_ := zA (below_drew1 HB.out)
                       clear HO_10
                       clear HO_11
                       clear HO_12
                       clear BK509
                       clear HB
                       have HO_10 := n0_
                       have HO_11 := n1_
                       have HO_12 := n2_
                       have BK509 := n3_
                       have HB := n4_
                       clear n0_ n1_ n2_ n3_ n4_
                       refine start_ (n := 13) (S := fun w' => True) (ds := []) (bA 13 0) (by kernel_rfl) rfl rfl trivial (fun hHeld => ?_); refine with_tabW cubbylaw12_SpanLive.tab19 cubbylaw12_SpanLive.bits19 (fun HT_ HW_ => ?_)
                       generalize wr.drew = w145 at HO_10 HO_11 HO_12 BK509 HB hHeld ⊢
                       refine pu_ (i := 0) (N := some 122) (bA 13 1) ?_
                       refine pu_ (i := 1) (N := some 123) (bA 13 3) ?_
                       refine pure_ (i := 2) (N := some 124) (v := undef) (a' := ?_) (bA 13 7) rfl rfl (any_of HT_.out (by kernel_rfl)) (fun _ _ _ h => h) (Or.inr ⟨by rfl, rfl⟩) ?_ ?_
                       rotate_left
                       ·simp only [Act.put, List.setIfInBounds_toArray, List.set_cons_zero, List.set_cons_succ, i64_w, i32_w]
                        rfl
                       refine pure_ (i := 3) (N := some 125) (v := undef) (a' := ?_) (bA 13 15) rfl rfl (any_of HT_.out (by kernel_rfl)) (fun _ _ _ h => h) (Or.inr ⟨by rfl, rfl⟩) ?_ ?_
                       rotate_left
                       ·simp only [Act.put, List.setIfInBounds_toArray, List.set_cons_zero, List.set_cons_succ, i64_w, i32_w]
                        rfl
                       refine pure_ (i := 4) (N := some 126) (v := undef) (a' := ?_) (bA 13 31) rfl rfl (any_of HT_.out (by kernel_rfl)) (fun _ _ _ h => h) (Or.inr ⟨by rfl, rfl⟩) ?_ ?_
                       rotate_left
                       ·simp only [Act.put, List.setIfInBounds_toArray, List.set_cons_zero, List.set_cons_succ, i64_w, i32_w]
                        rfl
                       refine pure_ (i := 5) (N := some 127) (v := undef) (a' := ?_) (bA 13 63) rfl rfl (any_of HT_.out (by kernel_rfl)) (fun _ _ _ h => h) (Or.inr ⟨by rfl, rfl⟩) ?_ ?_
                       rotate_left
                       ·simp only [Act.put, List.setIfInBounds_toArray, List.set_cons_zero, List.set_cons_succ, i64_w, i32_w]
                        rfl
                       refine pure_ (i := 6) (N := some 128) (v := undef) (a' := ?_) (bA 13 127) rfl rfl (any_of HT_.out (by kernel_rfl)) (fun _ _ _ h => h) (Or.inr ⟨by rfl, rfl⟩) ?_ ?_
                       rotate_left
                       ·simp only [Act.put, List.setIfInBounds_toArray, List.set_cons_zero, List.set_cons_succ, i64_w, i32_w]
                        rfl
                       refine pure_ (i := 7) (N := some 129) (v := undef) (a' := ?_) (bA 13 255) rfl rfl (any_of HT_.out (by kernel_rfl)) (fun _ _ _ h => h) (Or.inr ⟨by rfl, rfl⟩) ?_ ?_
                       rotate_left
                       ·simp only [Act.put, List.setIfInBounds_toArray, List.set_cons_zero, List.set_cons_succ, i64_w, i32_w]
                        rfl
                       refine pure_ (i := 8) (N := some 130) (v := undef) (a' := ?_) (bA 13 511) rfl rfl (any_of HT_.out (by kernel_rfl)) (fun _ _ _ h => h) (Or.inr ⟨by rfl, rfl⟩) ?_ ?_
                       rotate_left
                       ·simp only [Act.put, List.setIfInBounds_toArray, List.set_cons_zero, List.set_cons_succ, i64_w, i32_w]
                        rfl
                       refine pure_ (i := 9) (N := some 131) (v := undef) (a' := ?_) (bA 13 1023) rfl rfl (any_of HT_.out (by kernel_rfl)) (fun _ _ _ h => h) (Or.inr ⟨by rfl, rfl⟩) ?_ ?_
                       rotate_left
                       ·simp only [Act.put, List.setIfInBounds_toArray, List.set_cons_zero, List.set_cons_succ, i64_w, i32_w]
                        rfl
                       refine pure_ (i := 10) (N := some 132) (v := undef) (a' := ?_) (bA 13 2047) rfl rfl (any_of HT_.out (by kernel_rfl)) (fun _ _ _ h => h) (Or.inr ⟨by rfl, rfl⟩) ?_ ?_
                       rotate_left
                       ·simp only [Act.put, List.setIfInBounds_toArray, List.set_cons_zero, List.set_cons_succ, i64_w, i32_w]
                        rfl
                       refine pure_ (i := 11) (N := some 133) (v := undef) (a' := ?_) (bA 13 4095) rfl rfl (any_of HT_.out (by kernel_rfl)) (fun _ _ _ h => h) (Or.inr ⟨by rfl, rfl⟩) ?_ ?_
                       rotate_left
                       ·simp only [Act.put, List.setIfInBounds_toArray, List.set_cons_zero, List.set_cons_succ, i64_w, i32_w]
                        rfl
                       refine pu_ (i := 12) (N := some 134) (bA 13 8191) ?_
                       refine done_ (done_of HT_.out (by kernel_rfl)) ?_
                       try go_wp2
                       go_roundg k3
                       case measure => have := HJ17.out; have := HK2.out; have := HK3.out; omega
                       case rel => exact ⟨(wrap64 (x15_3 + 1)), qT, H', ⟨by have := HJ17.out; have := HK2.out; have := HK3.out; omega⟩, ⟨qR HO_10.out⟩, ⟨qR HO_11.out⟩, ⟨qR HO_12.out⟩, ⟨qK BK509.out⟩, ⟨qB⟩⟩
                    ·replace c114 := Bool.eq_false_iff.mpr c114
                     subst c114
                     have H1 : (cubbylaw12_SpanLive.l1 k3 t516 t524 t527 t532 x14_2 (wrap64 (x15_3 + 1)) a0_0 a0_1 a0_2 l0_3) = some r := by rw [zD (show ¬ (false = true) by decide)] at H; exact H
                     clear H
                     have H := H1
                     clear H1
                     have H' := zA H
                     clear H
                     have z146_0 := bk4 BK509.out
                     obtain ⟨Ao147, co147, eo147⟩ := Kd.R_slice HO_11.out
                     subst eo147
                     try go_wp2_with (first | ((with_reducible refine gate_callee (f := 20) rfl ?_); refine goesL_ (some 101) rfl rfl Tryd.func20 (by kernel_rfl) rfl #[.slice Ao147 t524.length co147, .int .i64 x14_2] rfl qL ?_; (with_reducible refine (cubbylaw12_has.calls k3 _ _ t524 x14_2 false _ ?side1 ?side2 A61.out).mono ?_); (case side1 => repeat (first | exact (Kd.R_reads' HO_11.out).2.2 | (with_reducible refine Kd.C_alloc ?_ _) | (with_reducible refine Kd.C_drewN ?_ _) | (with_reducible refine Kd.C_drew ?_))); (case side2 => exact (Kd.R_reads' HO_11.out).2.1); rintro e w' ⟨rfl, ⟨nd, rfl⟩⟩; refine ⟨_, rfl, ?_⟩; obtain ⟨Ao148, co148, eo148⟩ := Kd.R_slice HO_12.out; subst eo148) | (go_at_call 20; (with_reducible refine (cubbylaw12_has.calls k3 _ _ t527 x14_2 false _ ?side1 ?side2 A113.out).mono ?_); (case side1 => repeat (first | exact (Kd.R_reads' HO_12.out).2.2 | (with_reducible refine Kd.C_alloc ?_ _) | (with_reducible refine Kd.C_drewN ?_ _) | (with_reducible refine Kd.C_drew ?_))); (case side2 => exact (Kd.R_reads' HO_12.out).2.1); (try clear A113); rintro e w' ⟨rfl, ⟨nd, rfl⟩⟩))
                     (try (rw [drewN_self wr]; generalize hq_ : World.drewN wr _ = wr; have n0_ : Aside0 (Kd.R kSpan 28 wr w.heap.size (fun _ => True) v517 t516) := ⟨by rw [← hq_]; exact (qR HO_10.out)⟩; have n1_ : Aside0 (Kd.R (Kd.int .i64) 3 wr w.heap.size (fun k_ => some k_ ≠ (.slice Ao148 t527.length co148 : Value).ownBlock) (.slice Ao147 t524.length co147) t524) := ⟨by rw [← hq_]; exact (qR HO_11.out)⟩; have n2_ : Aside0 (Kd.R (Kd.int .i64) 3 wr w.heap.size (fun k_ => some k_ ≠ (.slice Ao147 t524.length co147 : Value).ownBlock) (.slice Ao148 t527.length co148) t527) := ⟨by rw [← hq_]; exact (qR HO_12.out)⟩; have n3_ : Aside0 (wr.heap[gb509]? = some (.cells #[.string a0_0, .int .i64 a0_1, .int .i64 a0_2, .slice (some ad512) l0_3.length c0_3] 24 (0, 0))) := ⟨by rw [← hq_]; exact (qK BK509.out)⟩; have n4_ : Aside0 (Below w.heap.size w wr) := ⟨by rw [← hq_]; exact qB⟩; clear HO_10 HO_11 HO_12 BK509 HB hq_; have HO_10 := n0_; have HO_11 := n1_; have HO_12 := n2_; have BK509 := n3_; have HB := n4_; clear n0_ n1_ n2_ n3_ n4_))
                     have n0_ := zA (Kd.R_drew HO_10.out)
                     have n1_ := zA (Kd.R_drew HO_11.out)
                     have n2_ := zA (Kd.R_drew HO_12.out)
                     have n3_ := zA (blk_drew BK509.out)
                     have n4_ := zA (below_drew1 HB.out)
                     clear HO_10
                     clear HO_11
                     clear HO_12
                     clear BK509
                     clear HB
                     have HO_10 := n0_
                     have HO_11 := n1_
                     have HO_12 := n2_
                     have BK509 := n3_
                     have HB := n4_
                     clear n0_ n1_ n2_ n3_ n4_
                     refine start_ (n := 13) (S := fun w' => True) (ds := []) (bA 13 0) (by kernel_rfl) rfl rfl trivial (fun hHeld => ?_); refine with_tabW cubbylaw12_SpanLive.tab19 cubbylaw12_SpanLive.bits19 (fun HT_ HW_ => ?_)
                     generalize wr.drew = w149 at HO_10 HO_11 HO_12 BK509 HB hHeld ⊢
                     refine pu_ (i := 0) (N := some 122) (bA 13 1) ?_
                     refine pu_ (i := 1) (N := some 123) (bA 13 3) ?_
                     refine pure_ (i := 2) (N := some 124) (v := undef) (a' := ?_) (bA 13 7) rfl rfl (any_of HT_.out (by kernel_rfl)) (fun _ _ _ h => h) (Or.inr ⟨by rfl, rfl⟩) ?_ ?_
                     rotate_left
                     ·simp only [Act.put, List.setIfInBounds_toArray, List.set_cons_zero, List.set_cons_succ, i64_w, i32_w]
                      rfl
                     refine pure_ (i := 3) (N := some 125) (v := undef) (a' := ?_) (bA 13 15) rfl rfl (any_of HT_.out (by kernel_rfl)) (fun _ _ _ h => h) (Or.inr ⟨by rfl, rfl⟩) ?_ ?_
                     rotate_left
                     ·simp only [Act.put, List.setIfInBounds_toArray, List.set_cons_zero, List.set_cons_succ, i64_w, i32_w]
                      rfl
                     refine pure_ (i := 4) (N := some 126) (v := undef) (a' := ?_) (bA 13 31) rfl rfl (any_of HT_.out (by kernel_rfl)) (fun _ _ _ h => h) (Or.inr ⟨by rfl, rfl⟩) ?_ ?_
                     rotate_left
                     ·simp only [Act.put, List.setIfInBounds_toArray, List.set_cons_zero, List.set_cons_succ, i64_w, i32_w]
                      rfl
                     refine pure_ (i := 5) (N := some 127) (v := undef) (a' := ?_) (bA 13 63) rfl rfl (any_of HT_.out (by kernel_rfl)) (fun _ _ _ h => h) (Or.inr ⟨by rfl, rfl⟩) ?_ ?_
                     rotate_left
                     ·simp only [Act.put, List.setIfInBounds_toArray, List.set_cons_zero, List.set_cons_succ, i64_w, i32_w]
                      rfl
                     refine pure_ (i := 6) (N := some 128) (v := undef) (a' := ?_) (bA 13 127) rfl rfl (any_of HT_.out (by kernel_rfl)) (fun _ _ _ h => h) (Or.inr ⟨by rfl, rfl⟩) ?_ ?_
                     rotate_left
                     ·simp only [Act.put, List.setIfInBounds_toArray, List.set_cons_zero, List.set_cons_succ, i64_w, i32_w]
                      rfl
                     refine pure_ (i := 7) (N := some 129) (v := undef) (a' := ?_) (bA 13 255) rfl rfl (any_of HT_.out (by kernel_rfl)) (fun _ _ _ h => h) (Or.inr ⟨by rfl, rfl⟩) ?_ ?_
                     rotate_left
                     ·simp only [Act.put, List.setIfInBounds_toArray, List.set_cons_zero, List.set_cons_succ, i64_w, i32_w]
                      rfl
                     refine pure_ (i := 8) (N := some 130) (v := undef) (a' := ?_) (bA 13 511) rfl rfl (any_of HT_.out (by kernel_rfl)) (fun _ _ _ h => h) (Or.inr ⟨by rfl, rfl⟩) ?_ ?_
                     rotate_left
                     ·simp only [Act.put, List.setIfInBounds_toArray, List.set_cons_zero, List.set_cons_succ, i64_w, i32_w]
                      rfl
                     refine pure_ (i := 9) (N := some 131) (v := undef) (a' := ?_) (bA 13 1023) rfl rfl (any_of HT_.out (by kernel_rfl)) (fun _ _ _ h => h) (Or.inr ⟨by rfl, rfl⟩) ?_ ?_
                     rotate_left
                     ·simp only [Act.put, List.setIfInBounds_toArray, List.set_cons_zero, List.set_cons_succ, i64_w, i32_w]
                      rfl
                     refine pure_ (i := 10) (N := some 132) (v := undef) (a' := ?_) (bA 13 2047) rfl rfl (any_of HT_.out (by kernel_rfl)) (fun _ _ _ h => h) (Or.inr ⟨by rfl, rfl⟩) ?_ ?_
                     rotate_left
                     ·simp only [Act.put, List.setIfInBounds_toArray, List.set_cons_zero, List.set_cons_succ, i64_w, i32_w]
                      rfl
                     refine pure_ (i := 11) (N := some 133) (v := undef) (a' := ?_) (bA 13 4095) rfl rfl (any_of HT_.out (by kernel_rfl)) (fun _ _ _ h => h) (Or.inr ⟨by rfl, rfl⟩) ?_ ?_
                     rotate_left
                     ·simp only [Act.put, List.setIfInBounds_toArray, List.set_cons_zero, List.set_cons_succ, i64_w, i32_w]
                      rfl
                     refine pu_ (i := 12) (N := some 134) (bA 13 8191) ?_
                     refine done_ (done_of HT_.out (by kernel_rfl)) ?_
                     try go_wp2
                     go_roundg k3
                     case measure => have := HJ17.out; have := HK2.out; have := HK3.out; omega
                     case rel => exact ⟨(wrap64 (x15_3 + 1)), qT, H', ⟨by have := HJ17.out; have := HK2.out; have := HK3.out; omega⟩, ⟨qR HO_10.out⟩, ⟨qR HO_11.out⟩, ⟨qR HO_12.out⟩, ⟨qK BK509.out⟩, ⟨qB⟩⟩
                  ·rw [zD c60] at H
                   have c60b0 := zG c60
                   clear c60
                   have H' := zA H
                   clear H
                   have z150_0 := bk4 BK509.out
                   go_wp2
                   go_roundg k3
                   case measure => have := HJ17.out; have := HK2.out; have := HK3.out; omega
                   case rel => exact ⟨(wrap64 (x14_2 + 1)), qT, H', ⟨by have := HJ17.out; have := HK2.out; have := HK3.out; omega⟩, ⟨qR HO_10.out⟩, ⟨qR HO_11.out⟩, ⟨qR HO_12.out⟩, ⟨qK BK509.out⟩, ⟨qB⟩⟩
               ·rw [zD c58] at H
                have c58b0 := zG c58
                clear c58
                obtain rfl := zI H
                have z151_0 := bk4 BK509.out
                go_wp2
                go_ret
                exact ⟨by first | rfl | (simp [errW_none, errW_some] <;> rfl) | (simp only [← hji12, ← hji48]; first | rfl | (simp [errW_none, errW_some] <;> rfl)) | (simp [*, errW_none, errW_some] <;> rfl), qB⟩
            ·rw [zD c50] at H
             exact absurd H (by simp)
           ·rw [zD c49] at H
            exact absurd H (by simp)
          ·rw [zD c47] at H
           exact absurd H (by simp)
         ·rw [zD c46] at H
          exact absurd H (by simp)
    ·rw [zD c14] at H
     exact absurd H (by simp)
   ·rw [zD c13] at H
    exact absurd H (by simp)
end Go.Proofs.YtpkimbkjjmbmcaaDoor.Q
namespace Go.Proofs.YtpkimbkjjmbmcaaDoor.RSpanLive
open Go Go.RowKit Go.Proofs.YtpkimbkjjmbmcaaDoorW.PrintWords Go.Proofs.YtpkimbkjjmbmcaaDoor.Q
set_option linter.unusedVariables false
def GIns (x : SIns) : Prop := (Lit.int .i64 (x.f0)).wf = true ∧ (Lit.int .i64 (x.f1)).wf = true ∧ (Lit.int .i64 (x.f2)).wf = true ∧ (Lit.int .i64 (x.f3)).wf = true ∧ (x.f4).size ≤ 140737488351232 ∧ ((x.f5).length * 8 ≤ 140737488351232 ∧ (x.f5).length ≤ maxLen ∧ ∀ y1 ∈ (x.f5), (Lit.int .i64 (y1)).wf = true)
def SpanLive.Pure : Prop := ∀ (a0_0 : ByteArray) (a0_1 : Int) (a0_2 : Int) (l0_3 : List (List (SIns))) (a1 : Int) (a2 : Int), (a0_0).size ≤ 140737488351232 → (Lit.int .i64 (a0_1)).wf = true → (Lit.int .i64 (a0_2)).wf = true → ((l0_3).length * 24 ≤ 140737488351232 ∧ (l0_3).length ≤ maxLen ∧ ∀ y1 ∈ (l0_3), ((y1).length * 72 ≤ 140737488351232 ∧ (y1).length ≤ maxLen ∧ ∀ y2 ∈ (y1), GIns (y2))) → (Lit.int .u8 (a1)).wf = true → (Lit.int .u8 (a2)).wf = true → ∃ k, cubbylaw12_SpanLive.f k a0_0 a0_1 a0_2 l0_3 a1 a2 = some true
end Go.Proofs.YtpkimbkjjmbmcaaDoor.RSpanLive
namespace Go.Proofs.YtpkimbkjjmbmcaaDoor.Plain
open Go Go.RowKit Go.Proofs.YtpkimbkjjmbmcaaDoorW.PrintWords Go.Proofs.YtpkimbkjjmbmcaaDoorW.PrintMore
theorem wrap_nat {j : Nat} (h : j ≤ 4611686018427387904) : wrap64 ((j : Int) + 1) = ((j + 1 : Nat) : Int) := by
 unfold wrap64
 omega
theorem wrap_pred {j : Nat} (h0 : 0 < j) (h : j ≤ 4611686018427387904) : wrap64 ((j : Int) - 1) = ((j - 1 : Nat) : Int) := by
 unfold wrap64
 omega
theorem wrap_id {i : Int} (h0 : -4611686018427387904 ≤ i) (h : i ≤ 4611686018427387904) : wrap64 i = i := by
 unfold wrap64
 omega
theorem rd_nat (l : List Int) (j : Nat) : rd l (j : Int) = l.getD j 0 := rfl
theorem rd_get {l : List Int} {j : Nat} (h : j < l.length) : rd l (j : Int) = l[j] := by
 rw [rd_nat, List.getD_eq_getElem?_getD, List.getElem?_eq_getElem h]
 rfl
theorem drop_cons {α : Type} {l : List α} {j : Nat} (h : j < l.length) : l.drop j = l[j] :: l.drop (j + 1) := by
 rw [List.drop_eq_getElem_cons h]
theorem loop_eq (bs : ByteArray) : ∀ (n i : Nat) (r : List UInt8), bs.size - i = n → ByteArray.toList.loop bs i r = r.reverse ++ bs.data.toList.drop i := by
 intro n
 induction n with
 | zero =>
  intro i r h
  unfold ByteArray.toList.loop
  rw [zD (by omega), List.drop_eq_nil_of_le (by simp; have : bs.data.size = bs.size := rfl; omega), List.append_nil]
 | succ n ih =>
  intro i r h
  unfold ByteArray.toList.loop
  have hs : bs.data.size = bs.size := rfl
  rw [zC (by omega), ih (i + 1) _ (by omega), List.drop_eq_getElem_cons (i := i) (by simp; omega)]
  have : bs.get! i = bs.data.toList[i]'(by simp; omega) := by
   show bs.data[i]! = _
   rw [getElem!_pos bs.data i (by omega)]
   simp
  rw [this]
  simp
theorem toList_data (bs : ByteArray) : bs.toList = bs.data.toList := by
 unfold ByteArray.toList
 rw [loop_eq bs _ 0 [] rfl]
 simp
end Go.Proofs.YtpkimbkjjmbmcaaDoor.Plain
namespace Go.Proofs.YtpkimbkjjmbmcaaDoor.PlainIr
open Go Go.RowKit Go.Proofs.YtpkimbkjjmbmcaaDoorW.PrintWords Go.Proofs.YtpkimbkjjmbmcaaDoorW.PrintMore Go.Proofs.YtpkimbkjjmbmcaaDoor.Q Go.Proofs.YtpkimbkjjmbmcaaDoor.Plain
set_option linter.unusedVariables false
set_option linter.unusedSimpArgs false
theorem op_cases {op : Int} (h : 1 ≤ op ∧ op ≤ 14) : op = 1 ∨ op = 2 ∨ op = 3 ∨ op = 4 ∨ op = 5 ∨ op = 6 ∨ op = 7 ∨ op = 8 ∨ op = 9 ∨ op = 10 ∨ op = 11 ∨ op = 12 ∨ op = 13 ∨ op = 14 := by omega
theorem shape_none {op : Int} (h : ¬ (1 ≤ op ∧ op ≤ 14)) : ir_shape.f op = some ⟨#[]⟩ := by
 unfold ir_shape.f
 split
 ·have : op = 0 := by omega
  subst this
  rfl
 ·rfl
theorem nil_toList : (⟨#[]⟩ : ByteArray).toList = [] := by decide +kernel
def uses (op a b : Int) (args : List Int) : List Int :=
 if op = 2 ∨ op = 8 ∨ op = 10 ∨ op = 13 ∨ op = 14 then [a] else if (3 ≤ op ∧ op ≤ 7) ∨ op = 9 then [a, b] else if op = 11 then args else []
def defOf (op d : Int) : Int := if (1 ≤ op ∧ op ≤ 8) ∨ op = 11 then d else -1
def lastOp (op : Int) : Bool := decide (12 ≤ op ∧ op ≤ 14)
def targets7 (op d a b : Int) : List Int := if op = 12 then [a] else if op = 13 then [b, d] else []
structure Sh (op : Int) (s : ByteArray) : Prop where
 ne : ¬ s.toList = []
 size : s.size = 3
 b0 : bt s 0 = 114 ↔ ((1 ≤ op ∧ op ≤ 8) ∨ op = 11)
 b1 : bt s 1 = 114 ↔ ((2 ≤ op ∧ op ≤ 10) ∨ op = 13 ∨ op = 14)
 b2 : bt s 2 = 114 ↔ ((3 ≤ op ∧ op ≤ 7) ∨ op = 9)
 f0 : bt s 0 = 32 ↔ (op = 9 ∨ op = 10 ∨ op = 12 ∨ op = 14)
 f1 : bt s 1 = 32 ↔ op = 11
 f2 : bt s 2 = 32 ↔ (op = 1 ∨ op = 2 ∨ op = 8 ∨ op = 10 ∨ op = 11 ∨ op = 12 ∨ op = 14)
 n0 : ¬ bt s 0 = 110
 n1 : bt s 1 = 110 ↔ op = 1
 n2 : ¬ bt s 2 = 110
theorem shape_some {op : Int} (h : 1 ≤ op ∧ op ≤ 14) : ∃ s, ir_shape.f op = some s ∧ Sh op s := by
 rcases op_cases h with rfl | rfl | rfl | rfl | rfl | rfl | rfl | rfl | rfl | rfl | rfl | rfl | rfl | rfl
 all_goals exact ⟨_, rfl, by decide +kernel, rfl, by decide +kernel, by decide +kernel, by decide +kernel, by decide +kernel, by decide +kernel, by decide +kernel, by decide +kernel, by decide +kernel, by decide +kernel⟩
theorem def_eq (op d a b : Int) (nm : ByteArray) (args : List Int) : ir_Def.f op d a b nm args = some (defOf op d) := by
 unfold ir_Def.f defOf
 by_cases h : 1 ≤ op ∧ op ≤ 14
 ·obtain ⟨s, hs, S⟩ := shape_some h
  rw [hs, zJ, zD S.ne, zC (by rw [S.size]; decide)]
  by_cases h0 : (1 ≤ op ∧ op ≤ 8) ∨ op = 11
  ·rw [zC (S.b0.2 h0), zC h0]
  ·rw [zD (fun h => h0 (S.b0.1 h)), zD h0]
 ·rw [shape_none h, zJ, zC nil_toList, zD (by omega)]
theorem refdef_eq (op d a b : Int) (nm : ByteArray) (args : List Int) : cubbyref07_Def.f op d a b nm args = some (defOf op d) := by
 unfold cubbyref07_Def.f defOf
 by_cases h : (1 ≤ op ∧ op ≤ 8) ∨ op = 11
 ·rw [zC h]
  repeat' split
  all_goals first | rfl | omega
 ·rw [zD h]
  repeat' split
  all_goals first | rfl | omega
theorem last_eq (op : Int) : ir_Last.f op = some (lastOp op) := by
 unfold ir_Last.f lastOp
 split
 ·rw [Option.some.injEq, decide_eq_decide]
  omega
 ·rw [zG (by omega)]
theorem reflast_eq (op : Int) : cubbyref07_Last.f op = some (lastOp op) := by
 unfold cubbyref07_Last.f lastOp
 split
 ·rw [zF (by omega)]
 ·split
  ·rw [zF (by omega)]
  ·by_cases h : op = 14
   ·rw [zF (by omega), beq_iff_eq.2 h]
   ·rw [zG (by omega), beq_eq_false_iff_ne.2 h]
theorem targets_eq (op d a b : Int) (nm : ByteArray) (args : List Int) : ir_Targets.f op d a b nm args = some (targets7 op d a b) := by
 unfold ir_Targets.f targets7
 split
 ·rfl
 ·split <;> rfl
theorem reftargets_eq (op d a b : Int) (nm : ByteArray) (args : List Int) : cubbyref07_Targets.f op d a b nm args = some (targets7 op d a b) := by
 unfold cubbyref07_Targets.f targets7
 simp only [zJ]
 split
 ·rw [zC (by simp)]; rfl
 ·split
  ·rw [zC (by simp)]; rfl
  ·rfl
theorem refuses_j1 (k : Nat) (op : Int) (c : Bool) (d a b : Int) (nm : ByteArray) (args : List Int) (ha : args.length ≤ 17592186043904) (hc : c = decide ((3 ≤ op ∧ op ≤ 7) ∨ op = 9)) (h : ¬ (op = 2 ∨ op = 8 ∨ op = 10 ∨ op = 13 ∨ op = 14)) :
 cubbyref07_Uses.j1 (k + 1) [] op c op d a b nm args = some (uses op a b args) := by
 simp only [cubbyref07_Uses.j1, zJ]
 unfold uses
 rw [zD h]
 by_cases h2 : (3 ≤ op ∧ op ≤ 7) ∨ op = 9
 ·rw [zC (by rw [hc]; exact zF h2), zC (by simp), zC h2]
  rfl
 ·rw [zD (by rw [hc]; simpa using h2), zD h2]
  split
  ·rw [zC (by simp; omega)]
   rfl
  ·rfl
theorem refuses_ev (op d a b : Int) (nm : ByteArray) (args : List Int) (ha : args.length ≤ 17592186043904) : Ev (fun k => cubbyref07_Uses.f k op d a b nm args) (uses op a b args) := by
 refine ⟨2, fun k hk => ?_⟩
 obtain ⟨k, rfl⟩ : ∃ m, k = m + 2 := ⟨k - 2, by omega⟩
 show cubbyref07_Uses.f (k + 2) op d a b nm args = some (uses op a b args)
 unfold cubbyref07_Uses.f
 simp only [zJ]
 have yes : (op = 2 ∨ op = 8 ∨ op = 10 ∨ op = 13 ∨ op = 14) → cubbyref07_Uses.j0 (k + 2) [] op true op d a b nm args = some (uses op a b args) := fun h => by
  simp only [cubbyref07_Uses.j0, if_true]
  rw [zC (by simp)]
  unfold uses
  rw [zC h]
  rfl
 by_cases h1 : op = 2
 ·rw [zC h1, beq_iff_eq.2 h1]
  exact yes (.inl h1)
 rw [zD h1]
 by_cases h2 : op = 8
 ·rw [zC h2, beq_iff_eq.2 h2]
  exact yes (by omega)
 rw [zD h2]
 by_cases h3 : op = 10
 ·rw [zC h3, beq_iff_eq.2 h3]
  exact yes (by omega)
 rw [zD h3]
 by_cases h4 : op = 14
 ·rw [zC h4, beq_iff_eq.2 h4]
  exact yes (by omega)
 rw [zD h4]
 by_cases h5 : op = 13
 ·rw [beq_iff_eq.2 h5]
  exact yes (by omega)
 rw [beq_eq_false_iff_ne.2 h5]
 simp only [cubbyref07_Uses.j0]
 rw [zD (by simp)]
 have g : ∀ c, c = decide ((3 ≤ op ∧ op ≤ 7) ∨ op = 9) → cubbyref07_Uses.j1 (k + 1) [] op c op d a b nm args = some (uses op a b args) := fun c hc => refuses_j1 k op c d a b nm args ha hc (by omega)
 repeat' split
 all_goals
  refine g _ ?_
  first
  | (rename_i h; rw [beq_iff_eq.2 h, zF (by omega)])
  | (by_cases h9 : op = 9
     ·rw [beq_iff_eq.2 h9, zF (by omega)]
     ·rw [beq_eq_false_iff_ne.2 h9, zG (by omega)])
theorem uses_j (k : Nat) (out : List Int) (s : ByteArray) (op d a b : Int) (nm : ByteArray) (args : List Int) (ho : out.length ≤ 1) (ha : args.length ≤ 17592186043904) (hs : s.size = 3) :
 ir_Uses.j0 (k + 1) out s op d a b nm args = some (out ++ (if bt s 2 = 114 then [b] else []) ++ (if op = 11 then args else [])) := by
 simp only [ir_Uses.j0]
 rw [zC (by rw [hs]; decide)]
 split
 ·rw [zC (by omega), zJ]
  split
  ·rw [zC (by simp; omega)]
  ·rw [List.append_nil]
 ·split
  ·rw [zC (by omega)]
   simp
  ·simp
theorem uses_ev (op d a b : Int) (nm : ByteArray) (args : List Int) (ha : args.length ≤ 17592186043904) : Ev (fun k => ir_Uses.f k op d a b nm args) (uses op a b args) := by
 refine ⟨1, fun k hk => ?_⟩
 obtain ⟨k, rfl⟩ : ∃ m, k = m + 1 := ⟨k - 1, by omega⟩
 show ir_Uses.f (k + 1) op d a b nm args = some (uses op a b args)
 unfold ir_Uses.f
 by_cases h : 1 ≤ op ∧ op ≤ 14
 ·obtain ⟨s, hs, S⟩ := shape_some h
  rw [hs, zJ, zD S.ne, zC (by rw [S.size]; decide)]
  have hb2 : (if bt s 2 = 114 then [b] else []) = if (3 ≤ op ∧ op ≤ 7) ∨ op = 9 then [b] else [] := by
   by_cases h2 : (3 ≤ op ∧ op ≤ 7) ∨ op = 9
   ·rw [zC (S.b2.2 h2), zC h2]
   ·rw [zD (fun h => h2 (S.b2.1 h)), zD h2]
  by_cases h1 : (2 ≤ op ∧ op ≤ 10) ∨ op = 13 ∨ op = 14
  ·rw [zC (S.b1.2 h1), zC (by simp), uses_j k _ s op d a b nm args (by simp) ha S.size, hb2]
   unfold uses
   by_cases h2 : (3 ≤ op ∧ op ≤ 7) ∨ op = 9
   ·rw [zC h2, zD (by omega), zD (by omega), zC h2]
    rfl
   ·rw [zD h2, zD (by omega), zC (by omega)]
    rfl
  ·rw [zD (fun h => h1 (S.b1.1 h)), uses_j k _ s op d a b nm args (by simp) ha S.size, hb2]
   unfold uses
   rw [zD (show ¬ ((3 ≤ op ∧ op ≤ 7) ∨ op = 9) by omega), zD (show ¬ (op = 2 ∨ op = 8 ∨ op = 10 ∨ op = 13 ∨ op = 14) by omega), zD (show ¬ ((3 ≤ op ∧ op ≤ 7) ∨ op = 9) by omega)]
   simp
 ·rw [shape_none h, zJ, zC nil_toList]
  unfold uses
  rw [zD (by omega), zD (by omega), zD (by omega)]
end Go.Proofs.YtpkimbkjjmbmcaaDoor.PlainIr
namespace Go.Proofs.YtpkimbkjjmbmcaaDoor.Plain
open Go Go.RowKit Go.Proofs.YtpkimbkjjmbmcaaDoorW.PrintWords Go.Proofs.YtpkimbkjjmbmcaaDoorW.PrintMore
theorem scan {α : Type} (g : Nat → Nat → Option α) (n : Nat) (R : Nat → α) (hend : Ev (fun k => g k n) (R n)) (hstep : ∀ i, i < n → Ev (fun k => g k (i + 1)) (R (i + 1)) → Ev (fun k => g k i) (R i)) : ∀ i, i ≤ n → Ev (fun k => g k i) (R i) := by
 have h : ∀ d i, i + d = n → Ev (fun k => g k i) (R i) := by
  intro d
  induction d with
  | zero =>
   intro i hi
   obtain rfl : i = n := by omega
   exact hend
  | succ d ih =>
   intro i hi
   exact hstep i (by omega) (ih (i + 1) (by omega))
 intro i hi
 exact h (n - i) i (by omega)
theorem seek {α : Type} (g : Nat → Nat → Option α) (n : Nat) (bad : Nat → Prop) (e r : α) (hbad : ∀ i, i < n → bad i → Ev (fun k => g k i) e) (hgo : ∀ i, i < n → ¬ bad i → ∀ r', Ev (fun k => g k (i + 1)) r' → Ev (fun k => g k i) r')
 (hr : (∃ i, i < n ∧ bad i) → r = e) (hend : (∀ i, i < n → ¬ bad i) → Ev (fun k => g k n) r) : Ev (fun k => g k 0) r := by
 by_cases h : ∃ i, i < n ∧ bad i
 ·obtain rfl := hr h
  obtain ⟨m, hm, hb⟩ := h
  refine scan g m (fun _ => r) (hbad m hm hb) ?_ 0 (Nat.zero_le _)
  intro i hi hE
  by_cases c : bad i
  ·exact hbad i (by omega) c
  ·exact hgo i (by omega) c _ hE
 ·have hn : ∀ i, i < n → ¬ bad i := fun i hi hb => h ⟨i, hi, hb⟩
  refine scan g n (fun _ => r) (hend hn) ?_ 0 (Nat.zero_le _)
  intro i hi hE
  exact hgo i hi (hn i hi) _ hE
end Go.Proofs.YtpkimbkjjmbmcaaDoor.Plain
namespace Go.Proofs.YtpkimbkjjmbmcaaDoor.PlainBits
open Go Go.RowKit Go.Proofs.YtpkimbkjjmbmcaaDoorW.PrintWords Go.Proofs.YtpkimbkjjmbmcaaDoorW.PrintMore Go.Proofs.YtpkimbkjjmbmcaaDoor.Plain
set_option linter.unusedVariables false
set_option linter.unusedSimpArgs false
theorem shl_one {r : Nat} (h : r < 64) : shl .u64 1 (IntKind.u64.wrap (r : Int)) = ((2 ^ r : Nat) : Int) := by
 have hp : 2 ^ r < 18446744073709551616 := by
  have := Nat.pow_lt_pow_right (a := 2) (by omega) h
  omega
 unfold shl
 rw [IntKind.wrap_u64, IntKind.wrap_u64]
 have h1 : ((r : Int) % 18446744073709551616).toNat = r := by omega
 rw [h1, show IntKind.u64.bits = 64 from rfl, Nat.min_eq_left (by omega), Int.one_mul]
 rw [show ((2 : Int) ^ r) = ((2 ^ r : Nat) : Int) by simp]
 generalize 2 ^ r = q at hp ⊢
 omega
def withB (s r : Nat) : Nat := s ||| 2 ^ r
def withoutB (s r : Nat) : Nat := s &&& (18446744073709551615 - 2 ^ r)
theorem withB_bit (s r i : Nat) : (withB s r).testBit i = (s.testBit i || decide (i = r)) := by
 unfold withB
 rw [Nat.testBit_or, Nat.testBit_two_pow]
 congr 1
 apply decide_eq_decide.2
 exact eq_comm
theorem withoutB_bit {s r i : Nat} (hr : r < 64) (hs : s < 2 ^ 64) : (withoutB s r).testBit i = (s.testBit i && decide (i ≠ r)) := by
 unfold withoutB
 have hp : 2 ^ r < 2 ^ 64 := Nat.pow_lt_pow_right (by omega) hr
 rw [Nat.testBit_and, show 18446744073709551615 - 2 ^ r = 2 ^ 64 - (2 ^ r + 1) by omega, Nat.testBit_two_pow_sub_succ hp, Nat.testBit_two_pow]
 by_cases hi : i < 64
 ·rw [zF hi, Bool.true_and]
  congr 1
  by_cases c : r = i
  ·subst c
   simp
  ·have : i ≠ r := fun e => c e.symm
   simp [c, this]
 ·have : s.testBit i = false := Nat.testBit_lt_two_pow (Nat.lt_of_lt_of_le hs (Nat.pow_le_pow_right (by omega) (by omega)))
  rw [this]
  simp
theorem withB_lt {s r R : Nat} (hr : r < R) (hs : s < 2 ^ R) : withB s r < 2 ^ R := Nat.or_lt_two_pow hs (Nat.pow_lt_pow_right (by omega) hr)
theorem withoutB_lt {s r R : Nat} (hs : s < 2 ^ R) : withoutB s r < 2 ^ R := Nat.lt_of_le_of_lt Nat.and_le_left hs
theorem bits_with {s r : Nat} (hr : r < 64) (hs : s < 2 ^ 64) : Go.bits .or .u64 (s : Int) (shl .u64 1 (IntKind.u64.wrap (r : Int))) = (withB s r : Int) := by
 have hp : 2 ^ r < 2 ^ 64 := Nat.pow_lt_pow_right (by omega) hr
 rw [shl_one hr, u64_or_nat _ _ (by omega) (by omega)]
 rfl
theorem bits_without {s r : Nat} (hr : r < 64) (hs : s < 2 ^ 64) : Go.bits .andNot .u64 (s : Int) (shl .u64 1 (IntKind.u64.wrap (r : Int))) = (withoutB s r : Int) := by
 have hp : 2 ^ r < 2 ^ 64 := Nat.pow_lt_pow_right (by omega) hr
 rw [shl_one hr, u64_andNot_nat _ _ (by omega) (by omega)]
 rfl
theorem wrap_nonneg (n : Int) : 0 ≤ IntKind.u64.wrap n := by
 rw [IntKind.wrap_u64]
 omega
def toN (R s : Nat) : List Nat := (List.range R).filter (fun r => s.testBit r)
def toL (R s : Nat) : List Int := (toN R s).map (fun n : Nat => (n : Int))
theorem mem_toN {R s r : Nat} : r ∈ toN R s ↔ r < R ∧ s.testBit r = true := by
 unfold toN
 simp
theorem filter_first (p : Nat → Bool) (c : Nat) : ∀ (n s : Nat), s ≤ c → c < s + n → (∀ i, s ≤ i → i < c → p i = false) → p c = true → (List.range' s n).filter p = c :: (List.range' s n).filter (fun i => p i && decide (i ≠ c)) := by
 intro n
 induction n with
 | zero =>
  intro s h1 h2
  omega
 | succ n ih =>
  intro s h1 h2 h3 h4
  rw [List.range'_succ]
  by_cases c1 : s = c
  ·subst c1
   rw [List.filter_cons_of_pos h4, List.filter_cons_of_neg (by simp)]
   congr 1
   apply List.filter_congr
   intro i hi
   have := List.mem_range'_1.1 hi
   have : i ≠ s := by omega
   simp [this]
  ·rw [List.filter_cons_of_neg (by rw [h3 s (by omega) (by omega)]; simp), List.filter_cons_of_neg (by rw [h3 s (by omega) (by omega)]; simp)]
   exact ih (s + 1) (by omega) (by omega) (fun i hi hc => h3 i (by omega) hc) h4
theorem low_bit {x : Nat} (h0 : 0 < x) (h : x < 2 ^ 64) : Lib.ctz 64 x < 64 ∧ x.testBit (Lib.ctz 64 x) = true ∧ (∀ i, i < Lib.ctz 64 x → x.testBit i = false) ∧ (∀ i, (x &&& (x - 1)).testBit i = (x.testBit i && decide (i ≠ Lib.ctz 64 x))) := by
 have hc : Lib.ctz 64 x = Lib.ctzFrom 64 x := by
  unfold Lib.ctz
  rw [zD (by omega)]
 rw [hc]
 obtain ⟨m, hm, hlt⟩ := Lib.ctzFrom_spec 64 x h0 h
 generalize Lib.ctzFrom 64 x = c at *
 have hb : ∀ i, x.testBit i = (decide (c ≤ i) && (2 * m + 1).testBit (i - c)) := by
  intro i
  rw [hm, Nat.testBit_two_pow_mul]
 have hp : 0 < 2 ^ c := Nat.pos_of_ne_zero (by simp)
 have hx1 : x - 1 = 2 ^ c * (2 * m) + (2 ^ c - 1) := by
  rw [hm, Nat.mul_add, Nat.mul_one]
  omega
 have hb1 : ∀ i, (x - 1).testBit i = if i < c then (2 ^ c - 1).testBit i else (2 * m).testBit (i - c) := by
  intro i
  rw [hx1, Nat.testBit_two_pow_mul_add _ (by omega)]
 refine ⟨hlt, ?_, ?_, ?_⟩
 ·rw [hb]
  simp
 ·intro i hi
  rw [hb, zG (by omega)]
  rfl
 ·intro i
  rw [Nat.testBit_and, hb1]
  by_cases c1 : i < c
  ·rw [hb, zG (by omega)]
   rfl
  ·rw [zD c1, hb, zF (by omega), Bool.true_and]
   by_cases c2 : i = c
   ·subst c2
    simp
   ·rw [zF c2, Bool.and_true]
    obtain ⟨d, hd⟩ : ∃ d, i - c = d + 1 := ⟨i - c - 1, by omega⟩
    rw [hd, Nat.testBit_succ, Nat.testBit_succ, show (2 * m + 1) / 2 = m by omega, show (2 * m) / 2 = m by omega, Bool.and_self]
theorem toN_low {R x : Nat} (h0 : 0 < x) (h : x < 2 ^ R) (hR : R ≤ 64) : toN R x = Lib.ctz 64 x :: toN R (x &&& (x - 1)) := by
 have h64 : x < 2 ^ 64 := Nat.lt_of_lt_of_le h (Nat.pow_le_pow_right (by omega) hR)
 obtain ⟨h1, h2, h3, h4⟩ := low_bit h0 h64
 have hcR : Lib.ctz 64 x < R := by
  apply Decidable.byContradiction
  intro hn
  have : x.testBit (Lib.ctz 64 x) = false := Nat.testBit_lt_two_pow (Nat.lt_of_lt_of_le h (Nat.pow_le_pow_right (by omega) (by omega)))
  rw [this] at h2
  exact absurd h2 (by simp)
 unfold toN
 rw [List.range_eq_range', filter_first _ (Lib.ctz 64 x) R 0 (by omega) (by omega) (fun i _ hi => h3 i hi) h2]
 congr 1
 apply List.filter_congr
 intro i _
 rw [h4]
theorem toN_zero (R : Nat) : toN R 0 = [] := by
 unfold toN
 rw [List.filter_eq_nil_iff]
 intro a _
 simp
theorem toN_len (R s : Nat) : (toN R s).length ≤ R := by
 unfold toN
 have := List.length_filter_le (fun r => s.testBit r) (List.range R)
 rw [List.length_range] at this
 exact this
theorem toN_ext {R s t : Nat} (hs : s < 2 ^ R) (ht : t < 2 ^ R) (h : ∀ r, r < R → s.testBit r = t.testBit r) : s = t := by
 apply Nat.eq_of_testBit_eq
 intro i
 by_cases c : i < R
 ·exact h i c
 ·rw [Nat.testBit_lt_two_pow (Nat.lt_of_lt_of_le hs (Nat.pow_le_pow_right (by omega) (by omega))), Nat.testBit_lt_two_pow (Nat.lt_of_lt_of_le ht (Nat.pow_le_pow_right (by omega) (by omega)))]
def Sub (s t : Nat) : Prop := ∀ r, s.testBit r = true → t.testBit r = true
theorem filter_mono {p q : Nat → Bool} : ∀ (l : List Nat), (∀ i ∈ l, p i = true → q i = true) → (l.filter p).length ≤ (l.filter q).length ∧ ((l.filter p).length = (l.filter q).length → ∀ i ∈ l, p i = q i)
 | [], _ => by simp
 | a :: l, h => by
  obtain ⟨h1, h2⟩ := filter_mono l (fun i hi => h i (List.mem_cons_of_mem _ hi))
  have ha := h a List.mem_cons_self
  cases hp : p a <;> cases hq : q a
  ·rw [List.filter_cons_of_neg (by simp [hp]), List.filter_cons_of_neg (by simp [hq])]
   refine ⟨h1, fun e i hi => ?_⟩
   rcases List.mem_cons.1 hi with rfl | hi
   ·rw [hp, hq]
   ·exact h2 e i hi
  ·rw [List.filter_cons_of_neg (by simp [hp]), List.filter_cons_of_pos hq, List.length_cons]
   exact ⟨by omega, fun e => by omega⟩
  ·rw [hp, hq] at ha
   exact absurd (ha rfl) (by simp)
  ·rw [List.filter_cons_of_pos hp, List.filter_cons_of_pos hq, List.length_cons, List.length_cons]
   refine ⟨by omega, fun e i hi => ?_⟩
   rcases List.mem_cons.1 hi with rfl | hi
   ·rw [hp, hq]
   ·exact h2 (by omega) i hi
theorem toN_mono {R s t : Nat} (h : Sub s t) : (toN R s).length ≤ (toN R t).length := (filter_mono _ (fun i _ => h i)).1
theorem toN_eq {R s t : Nat} (h : Sub s t) (hs : s < 2 ^ R) (ht : t < 2 ^ R) (e : (toN R s).length = (toN R t).length) : s = t :=
 toN_ext hs ht fun r hr => (filter_mono _ (fun i _ => h i)).2 e r (List.mem_range.2 hr)
end Go.Proofs.YtpkimbkjjmbmcaaDoor.PlainBits
namespace Go.Proofs.YtpkimbkjjmbmcaaDoor.PlainFix
open Go.Proofs.YtpkimbkjjmbmcaaDoor.PlainBits
set_option linter.unusedVariables false
set_option linter.unusedSimpArgs false
def at_ (x : List Nat) (b : Nat) : Nat := x.getD b 0
def LE (x y : List Nat) : Prop := ∀ b, Sub (at_ x b) (at_ y b)
theorem LE.refl (x : List Nat) : LE x x := fun _ _ h => h
theorem LE.trans {x y z : List Nat} (h : LE x y) (k : LE y z) : LE x z := fun b r hr => k b r (h b r hr)
structure Eqs (n R : Nat) (A : List Nat → Nat → Nat) : Prop where
 mono : ∀ x y, LE x y → ∀ b, b < n → Sub (A x b) (A y b)
 lt : ∀ x, (∀ b, at_ x b < 2 ^ R) → ∀ b, b < n → A x b < 2 ^ R
theorem at_map {n : Nat} {f : Nat → Nat} {b : Nat} : at_ ((List.range n).map f) b = if b < n then f b else 0 := by
 unfold at_
 rw [List.getD_eq_getElem?_getD]
 split
 ·next h =>
  rw [List.getElem?_map, List.getElem?_range h]
  rfl
 ·next h =>
  rw [List.getElem?_eq_none (by simp; omega)]
  rfl
theorem at_set {x : List Nat} {b c v : Nat} (hb : b < x.length) : at_ (x.set b v) c = if c = b then v else at_ x c := by
 unfold at_
 rw [List.getD_eq_getElem?_getD, List.getD_eq_getElem?_getD, List.getElem?_set]
 by_cases h : b = c
 ·subst h
  rw [zC rfl, zC rfl, zC hb]
  rfl
 ·rw [zD h, zD (fun e => h e.symm)]
theorem at_out {x : List Nat} {b : Nat} (h : x.length ≤ b) : at_ x b = 0 := by
 unfold at_
 rw [List.getD_eq_getElem?_getD, List.getElem?_eq_none h]
 rfl
theorem at_zero (n b : Nat) : at_ (List.replicate n 0) b = 0 := by
 unfold at_
 rw [List.getD_eq_getElem?_getD, List.getElem?_replicate]
 split <;> rfl
theorem zero_LE (n : Nat) (y : List Nat) : LE (List.replicate n 0) y := by
 intro b r h
 rw [at_zero] at h
 simp at h
theorem list_ext {n R : Nat} {x y : List Nat} (hx : x.length = n) (hy : y.length = n) (h : ∀ b, b < n → at_ x b = at_ y b) : x = y := by
 apply List.ext_getElem (by omega)
 intro i h1 h2
 have := h i (by omega)
 unfold at_ at this
 rw [List.getD_eq_getElem?_getD, List.getD_eq_getElem?_getD, List.getElem?_eq_getElem h1, List.getElem?_eq_getElem h2] at this
 exact this
section
variable {n R : Nat} {A : List Nat → Nat → Nat}
def Pre (n : Nat) (A : List Nat → Nat → Nat) (z : List Nat) : Prop := ∀ b, b < n → Sub (A z b) (at_ z b)
structure On (n R : Nat) (A : List Nat → Nat → Nat) (y : List Nat) : Prop where
 len : y.length = n
 lt : ∀ b, at_ y b < 2 ^ R
 up : ∀ b, b < n → Sub (at_ y b) (A y b)
 least : ∀ z, Pre n A z → LE y z
theorem on_zero : On n R A (List.replicate n 0) := by
 refine ⟨List.length_replicate, fun b => ?_, fun b _ r h => ?_, fun z _ => zero_LE n z⟩
 ·rw [at_zero]
  exact Nat.pos_of_ne_zero (by simp)
 ·rw [at_zero] at h
  simp at h
theorem on_eq {x y : List Nat} (hx : On n R A x) (hy : On n R A y) (px : ∀ b, b < n → A x b = at_ x b) (py : ∀ b, b < n → A y b = at_ y b) : x = y := by
 refine list_ext (R := R) hx.len hy.len fun b hb => ?_
 refine toN_ext (hx.lt b) (hy.lt b) fun r _ => ?_
 have h1 := hx.least y (fun c hc r hr => by rw [← py c hc]; exact hr) b r
 have h2 := hy.least x (fun c hc r hr => by rw [← px c hc]; exact hr) b r
 cases e1 : (at_ x b).testBit r <;> cases e2 : (at_ y b).testBit r
 ·rfl
 ·exact absurd (h2 e2) (by rw [e1]; simp)
 ·exact absurd (h1 e1) (by rw [e2]; simp)
 ·rfl
variable (E : Eqs n R A)
include E
theorem on_set {y : List Nat} (h : On n R A y) {b : Nat} (hb : b < n) : On n R A (y.set b (A y b)) ∧ LE y (y.set b (A y b)) := by
 have hlen := h.len
 have hle : LE y (y.set b (A y b)) := by
  intro c r hr
  rw [at_set (by omega)]
  split
  ·next e =>
   subst e
   exact h.up c hb r hr
  ·exact hr
 refine ⟨⟨by rw [List.length_set]; exact hlen, fun c => ?_, fun c hc r hr => ?_, fun z hz c r hr => ?_⟩, hle⟩
 ·rw [at_set (by omega)]
  split
  ·exact E.lt y h.lt b hb
  ·exact h.lt c
 ·apply E.mono _ _ hle c hc
  rw [at_set (by omega)] at hr
  split at hr
  ·next e =>
   subst e
   exact hr
  ·exact h.up c hc r hr
 ·rw [at_set (by omega)] at hr
  split at hr
  ·next e =>
   subst e
   exact hz c hb r (E.mono _ _ (h.least z hz) c hb r hr)
  ·exact h.least z hz c r hr
theorem on_all {y : List Nat} (h : On n R A y) : On n R A ((List.range n).map (A y)) ∧ LE y ((List.range n).map (A y)) := by
 have hlen := h.len
 have hle : LE y ((List.range n).map (A y)) := by
  intro c r hr
  rw [at_map]
  split
  ·next e => exact h.up c e r hr
  ·next e =>
   rw [at_out (by omega)] at hr
   simp at hr
 refine ⟨⟨by simp, fun c => ?_, fun c hc r hr => ?_, fun z hz c r hr => ?_⟩, hle⟩
 ·rw [at_map]
  split
  ·next e => exact E.lt y h.lt c e
  ·exact Nat.pos_of_ne_zero (by simp)
 ·apply E.mono _ _ hle c hc
  rw [at_map, zC hc] at hr
  exact hr
 ·rw [at_map] at hr
  split at hr
  ·next e => exact hz c e r (E.mono _ _ (h.least z hz) c e r hr)
  ·simp at hr
end

def card (R : Nat) : List Nat → Nat
 | [] => 0
 | s :: l => (toN R s).length + card R l
theorem card_le (R : Nat) : ∀ l : List Nat, card R l ≤ l.length * R
 | [] => by simp [card]
 | s :: l => by
  have := card_le R l
  have := toN_len R s
  unfold card
  rw [List.length_cons, Nat.succ_mul]
  omega
theorem card_mono (R : Nat) : ∀ {x y : List Nat}, x.length = y.length → (∀ b, Sub (at_ x b) (at_ y b)) → card R x ≤ card R y
 | [], [], _, _ => Nat.le_refl _
 | [], _ :: _, h, _ => by simp at h
 | _ :: _, [], h, _ => by simp at h
 | s :: x, t :: y, h, hs => by
  have h1 := toN_mono (R := R) (hs 0)
  have h2 := card_mono R (x := x) (y := y) (by simpa using h) (fun b => hs (b + 1))
  unfold card
  exact Nat.add_le_add h1 h2
theorem card_eq (R : Nat) : ∀ {x y : List Nat}, x.length = y.length → (∀ b, Sub (at_ x b) (at_ y b)) → (∀ b, at_ x b < 2 ^ R) → (∀ b, at_ y b < 2 ^ R) → card R x = card R y → x = y
 | [], [], _, _, _, _, _ => rfl
 | [], _ :: _, h, _, _, _, _ => by simp at h
 | _ :: _, [], h, _, _, _, _ => by simp at h
 | s :: x, t :: y, h, hs, hx, hy, e => by
  have h1 := toN_mono (R := R) (hs 0)
  have h2 := card_mono R (x := x) (y := y) (by simpa using h) (fun b => hs (b + 1))
  have h3 : (toN R s).length ≤ (toN R t).length := h1
  unfold card at e
  have e1 : s = t := toN_eq (hs 0) (hx 0) (hy 0) (by show (toN R s).length = (toN R t).length; omega)
  have e2 : x = y := card_eq R (by simpa using h) (fun b => hs (b + 1)) (fun b => hx (b + 1)) (fun b => hy (b + 1)) (by omega)
  rw [e1, e2]
end Go.Proofs.YtpkimbkjjmbmcaaDoor.PlainFix
namespace Go.Proofs.YtpkimbkjjmbmcaaDoor.PlainSuccs
open Go Go.RowKit Go.Proofs.YtpkimbkjjmbmcaaDoorW.PrintWords Go.Proofs.YtpkimbkjjmbmcaaDoorW.PrintMore Go.Proofs.YtpkimbkjjmbmcaaDoor.Q Go.Proofs.YtpkimbkjjmbmcaaDoor.Plain
def targets (x : SIns) : List Int := if x.f0 = 12 then [x.f2] else if x.f0 = 13 then [x.f3, x.f1] else []
def addT (n : Nat) (out : List Int) (t : Int) : List Int := if 0 ≤ t ∧ t < n ∧ t ∉ out then out ++ [t] else out
def blockAt (x : List (List SIns)) (i : Int) : List SIns := x.getD i.toNat []
def lastOf (b : List SIns) : SIns := b.getD (b.length - 1) zIns
def succs (x : List (List SIns)) (i : Int) : List Int :=
 if i < 0 ∨ (x.length : Int) ≤ i ∨ blockAt x i = [] then [] else (targets (lastOf (blockAt x i))).foldl (addT x.length) []
theorem targets_len (x : SIns) : (targets x).length ≤ 2 := by
 unfold targets
 split
 ·simp
 ·split <;> simp
theorem addT_len (n : Nat) (out : List Int) (t : Int) : (addT n out t).length ≤ out.length + 1 := by
 unfold addT
 split <;> simp
theorem foldT_len (n : Nat) : ∀ (l out : List Int), (l.foldl (addT n) out).length ≤ out.length + l.length
 | [], _ => by simp
 | t :: l, out => by
  have := foldT_len n l (addT n out t)
  have := addT_len n out t
  simp only [List.foldl_cons, List.length_cons]
  omega
theorem succs_len (x : List (List SIns)) (i : Int) : (succs x i).length ≤ 2 := by
 unfold succs
 split
 ·simp
 ·have := foldT_len x.length (targets (lastOf (blockAt x i))) []
  have := targets_len (lastOf (blockAt x i))
  simp at *
  omega
theorem addT_mem (n : Nat) (out : List Int) (t : Int) (h : ∀ y ∈ out, 0 ≤ y ∧ y < n) : ∀ y ∈ addT n out t, 0 ≤ y ∧ y < n := by
 unfold addT
 split
 ·rename_i hc
  intro y hy
  rcases List.mem_append.1 hy with hy | hy
  ·exact h y hy
  ·rw [List.mem_singleton.1 hy]
   exact ⟨hc.1, hc.2.1⟩
 ·exact h
theorem foldT_mem (n : Nat) : ∀ (l out : List Int), (∀ y ∈ out, 0 ≤ y ∧ y < n) → ∀ y ∈ l.foldl (addT n) out, 0 ≤ y ∧ y < n
 | [], _, h => h
 | t :: l, out, h => foldT_mem n l (addT n out t) (addT_mem n out t h)
theorem succs_mem (x : List (List SIns)) (i : Int) : ∀ y ∈ succs x i, 0 ≤ y ∧ y < x.length := by
 unfold succs
 split
 ·simp
 ·exact foldT_mem _ _ _ (by simp)
theorem ir_targets (x : SIns) : ir_Targets.f x.f0 x.f1 x.f2 x.f3 x.f4 x.f5 = some (targets x) := by
 unfold ir_Targets.f targets
 split
 ·rfl
 ·split <;> rfl
theorem ref_targets (x : SIns) : cubbyref07_Targets.f x.f0 x.f1 x.f2 x.f3 x.f4 x.f5 = some (targets x) := by
 unfold cubbyref07_Targets.f targets
 simp only [zJ]
 split
 ·rw [zC (by simp)]; rfl
 ·split
  ·rw [zC (by simp)]; rfl
  ·rfl
theorem has_loop (l : List Int) (x : Int) (hl : l.length ≤ 4611686018427387904) : ∀ (d j : Nat), l.length - j = d → j ≤ l.length → Ev (fun k => cubbyref09_has.l0 k l x (j : Int)) (decide (x ∈ l.drop j)) := by
 intro d
 induction d with
 | zero =>
  intro j hd hj
  refine Ev.step (f := fun _ => some false) (fun k => by simp only [cubbyref09_has.l0]; rw [zD (by omega)]) ?_
  rw [List.drop_eq_nil_of_le (by omega)]
  exact Ev.now _
 | succ d ih =>
  intro j hd hj
  have hlt : j < l.length := by omega
  rw [drop_cons hlt]
  by_cases e : l[j] = x
  ·refine Ev.step (f := fun _ => some true) (fun k => by simp only [cubbyref09_has.l0]; rw [zC (by omega), zC (by omega), rd_get hlt, zC e]) ?_
   rw [zF (by simp [e])]
   exact Ev.now _
  ·refine Ev.step (f := fun k => cubbyref09_has.l0 k l x ((j + 1 : Nat) : Int)) (fun k => by simp only [cubbyref09_has.l0]; rw [zC (by omega), zC (by omega), rd_get hlt, zD e, wrap_nat (by omega)]) ?_
   have := ih (j + 1) (by omega) (by omega)
   rw [show (decide (x ∈ l[j] :: l.drop (j + 1))) = decide (x ∈ l.drop (j + 1)) by rw [decide_eq_decide, List.mem_cons]; exact ⟨fun h => h.resolve_left (Ne.symm e), Or.inr⟩]
   exact this
theorem has_ev (l : List Int) (x : Int) (hl : l.length ≤ 4611686018427387904) : Ev (fun k => cubbyref09_has.f k l x) (decide (x ∈ l)) := by
 have := has_loop l x hl l.length 0 (by omega) (by omega)
 simpa [cubbyref09_has.f] using this
theorem index_loop (l : List Int) (x : Int) (hl : l.length ≤ 4611686018427387904) : ∀ (d j : Nat), l.length - j = d → j ≤ l.length → ∃ r, Ev (fun k => slices_Index_int_int.l0 k l x (l.length : Int) (j : Int)) r ∧ (0 ≤ r ↔ x ∈ l.drop j) := by
 intro d
 induction d with
 | zero =>
  intro j hd hj
  refine ⟨-1, Ev.step (f := fun _ => some (-1)) (fun k => by simp only [slices_Index_int_int.l0]; rw [zD (by omega)]) (Ev.now _), ?_⟩
  rw [List.drop_eq_nil_of_le (by omega)]
  simp
 | succ d ih =>
  intro j hd hj
  have hlt : j < l.length := by omega
  rw [drop_cons hlt]
  by_cases e : x = l[j]
  ·refine ⟨j, Ev.step (f := fun _ => some (j : Int)) (fun k => by simp only [slices_Index_int_int.l0]; rw [zC (by omega), zC (by omega), zC (by omega), rd_get hlt, zC e]) (Ev.now _), ?_⟩
   exact ⟨fun _ => by rw [e]; exact List.mem_cons_self, fun _ => by omega⟩
  ·obtain ⟨r, hr, hx⟩ := ih (j + 1) (by omega) (by omega)
   refine ⟨r, Ev.step (f := fun k => slices_Index_int_int.l0 k l x (l.length : Int) ((j + 1 : Nat) : Int)) (fun k => by simp only [slices_Index_int_int.l0]; rw [zC (by omega), zC (by omega), zC (by omega), rd_get hlt, zD e, wrap_nat (by omega)]) hr, ?_⟩
   rw [hx, List.mem_cons]
   exact ⟨Or.inr, fun h => h.resolve_left e⟩
theorem contains_ev (l : List Int) (x : Int) (hl : l.length ≤ 4611686018427387904) : Ev (fun k => slices_Contains_int_int.f k l x) (decide (x ∈ l)) := by
 obtain ⟨r, hr, hx⟩ := index_loop l x hl l.length 0 (by omega) (by omega)
 refine Ev.bind (g := fun k => slices_Index_int_int.f k l x) (f := fun _ t => some (decide (t ≥ 0))) hr ?_
 rw [List.drop_zero] at hx
 rw [show decide (x ∈ l) = decide (r ≥ 0) from by rw [decide_eq_decide]; exact hx.symm]
 exact Ev.now _
theorem succs_loop (x : List (List SIns)) (l : List Int) (hl : l.length ≤ 1000) : ∀ (d j : Nat) (out : List Int), l.length - j = d → j ≤ l.length → out.length + d ≤ 1000 →
 Ev (fun k => flow_Succs.l0 k x out l (l.length : Int) (j : Int)) ((l.drop j).foldl (addT x.length) out) := by
 intro d
 induction d with
 | zero =>
  intro j out hd hj ho
  refine Ev.step (f := fun _ => some out) (fun k => by simp only [flow_Succs.l0]; rw [zD (by omega)]) ?_
  rw [List.drop_eq_nil_of_le (by omega)]
  exact Ev.now _
 | succ d ih =>
  intro j out hd hj ho
  have hlt : j < l.length := by omega
  rw [drop_cons hlt, List.foldl_cons]
  have hs : ∀ out', out'.length ≤ out.length + 1 → Ev (fun k => flow_Succs.l0 k x out' l (l.length : Int) ((j + 1 : Nat) : Int)) ((l.drop (j + 1)).foldl (addT x.length) out') := fun out' h => ih (j + 1) out' (by omega) (by omega) (by omega)
  by_cases h0 : 0 ≤ l[j]
  ·by_cases h1 : l[j] < x.length
   ·have hc := contains_ev out l[j] (by omega)
    refine Ev.step (f := fun k => (slices_Contains_int_int.f k out l[j]).bind fun t => if t = true then flow_Succs.l0 k x out l (l.length : Int) ((j + 1 : Nat) : Int) else if out.length < 17592186044416 then flow_Succs.l0 k x (out ++ [l[j]]) l (l.length : Int) ((j + 1 : Nat) : Int) else none) (fun k => by
     simp only [flow_Succs.l0]; rw [zC (by omega), zC (by omega), zC (by omega), rd_get hlt, zC h0, zC h1, wrap_nat (by omega)]) ?_
    refine Ev.bind hc ?_
    by_cases hm : l[j] ∈ out
    ·rw [show addT x.length out l[j] = out by unfold addT; rw [zD (by simp [hm])]]
     simp only [hm, decide_true, if_true]
     exact hs out (by omega)
    ·rw [show addT x.length out l[j] = out ++ [l[j]] by unfold addT; rw [zC ⟨h0, h1, hm⟩]]
     simp only [hm, decide_false, Bool.false_eq_true, if_false, show out.length < 17592186044416 from by omega, if_true]
     exact hs _ (by simp)
   ·rw [show addT x.length out l[j] = out by unfold addT; rw [zD (by omega)]]
    refine Ev.step (f := fun k => flow_Succs.l0 k x out l (l.length : Int) ((j + 1 : Nat) : Int)) (fun k => by
     simp only [flow_Succs.l0]; rw [zC (by omega), zC (by omega), zC (by omega), rd_get hlt, zC h0, zD h1, wrap_nat (by omega)]) (hs out (by omega))
  ·rw [show addT x.length out l[j] = out by unfold addT; rw [zD (by omega)]]
   refine Ev.step (f := fun k => flow_Succs.l0 k x out l (l.length : Int) ((j + 1 : Nat) : Int)) (fun k => by
    simp only [flow_Succs.l0]; rw [zC (by omega), zC (by omega), zC (by omega), rd_get hlt, zD (by omega), wrap_nat (by omega)]) (hs out (by omega))
theorem refsuccs_loop (x : List (List SIns)) (l : List Int) (hl : l.length ≤ 1000) : ∀ (d j : Nat) (out : List Int), l.length - j = d → j ≤ l.length → out.length + d ≤ 1000 →
 Ev (fun k => cubbyref09_Succs.l0 k x out l (j : Int)) ((l.drop j).foldl (addT x.length) out) := by
 intro d
 induction d with
 | zero =>
  intro j out hd hj ho
  refine Ev.step (f := fun _ => some out) (fun k => by simp only [cubbyref09_Succs.l0]; rw [zD (by omega)]) ?_
  rw [List.drop_eq_nil_of_le (by omega)]
  exact Ev.now _
 | succ d ih =>
  intro j out hd hj ho
  have hlt : j < l.length := by omega
  rw [drop_cons hlt, List.foldl_cons]
  have hs : ∀ out', out'.length ≤ out.length + 1 → Ev (fun k => cubbyref09_Succs.l0 k x out' l ((j + 1 : Nat) : Int)) ((l.drop (j + 1)).foldl (addT x.length) out') := fun out' h => ih (j + 1) out' (by omega) (by omega) (by omega)
  by_cases h0 : 0 ≤ l[j]
  ·by_cases h1 : l[j] < x.length
   ·have hc := has_ev out l[j] (by omega)
    refine Ev.step (f := fun k => (cubbyref09_has.f k out l[j]).bind fun t => if t = true then cubbyref09_Succs.l0 k x out l ((j + 1 : Nat) : Int) else if out.length < 17592186044416 then cubbyref09_Succs.l0 k x (out ++ [l[j]]) l ((j + 1 : Nat) : Int) else none) (fun k => by
     simp only [cubbyref09_Succs.l0]; rw [zC (by omega), zC (by omega), rd_get hlt, zC h0, zC h1, wrap_nat (by omega)]) ?_
    refine Ev.bind hc ?_
    by_cases hm : l[j] ∈ out
    ·rw [show addT x.length out l[j] = out by unfold addT; rw [zD (by simp [hm])]]
     simp only [hm, decide_true, if_true]
     exact hs out (by omega)
    ·rw [show addT x.length out l[j] = out ++ [l[j]] by unfold addT; rw [zC ⟨h0, h1, hm⟩]]
     simp only [hm, decide_false, Bool.false_eq_true, if_false, show out.length < 17592186044416 from by omega, if_true]
     exact hs _ (by simp)
   ·rw [show addT x.length out l[j] = out by unfold addT; rw [zD (by omega)]]
    refine Ev.step (f := fun k => cubbyref09_Succs.l0 k x out l ((j + 1 : Nat) : Int)) (fun k => by
     simp only [cubbyref09_Succs.l0]; rw [zC (by omega), zC (by omega), rd_get hlt, zC h0, zD h1, wrap_nat (by omega)]) (hs out (by omega))
  ·rw [show addT x.length out l[j] = out by unfold addT; rw [zD (by omega)]]
   refine Ev.step (f := fun k => cubbyref09_Succs.l0 k x out l ((j + 1 : Nat) : Int)) (fun k => by
    simp only [cubbyref09_Succs.l0]; rw [zC (by omega), zC (by omega), rd_get hlt, zD (by omega), wrap_nat (by omega)]) (hs out (by omega))
theorem rd_last {b : List SIns} (hb : b ≠ []) (hl : b.length ≤ 4611686018427387904) : (0 ≤ wrap64 ((b.length : Int) - 1)) ∧ (wrap64 ((b.length : Int) - 1) < b.length) ∧ rd_TIns b (wrap64 ((b.length : Int) - 1)) = lastOf b := by
 have h0 : 0 < b.length := List.length_pos_iff.2 hb
 rw [wrap_pred h0 hl]
 refine ⟨by omega, by omega, ?_⟩
 rfl
def Small (x : List (List SIns)) : Prop := x.length ≤ 4611686018427387904 ∧ ∀ b ∈ x, b.length ≤ 4611686018427387904
theorem small_at {x : List (List SIns)} (h : Small x) (i : Int) : (blockAt x i).length ≤ 4611686018427387904 := by
 unfold blockAt
 rw [List.getD_eq_getElem?_getD]
 cases e : x[i.toNat]? with
 | none => simp
 | some b => exact h.2 b (List.mem_of_getElem? e)
theorem succs_ev (x : List (List SIns)) (i : Int) (h : Small x) : Ev (fun k => flow_Succs.f k x i) (succs x i) := by
 have nil : Ev (fun k => flow_Succs.j0 k x i true) ([] : List Int) := Ev.step (f := fun _ => some []) (fun k => by simp only [flow_Succs.j0, if_true]) (Ev.now _)
 by_cases h0 : i < 0
 ·refine Ev.congr (f := fun k => flow_Succs.j0 k x i true) (fun k => by unfold flow_Succs.f; rw [zC h0]) ?_
  rw [show succs x i = [] by unfold succs; rw [zC (Or.inl h0)]]
  exact nil
 ·by_cases h1 : i < x.length
  ·have hb := small_at h i
   by_cases h2 : blockAt x i = []
   ·refine Ev.congr (f := fun k => flow_Succs.j0 k x i true) (fun k => by
     unfold flow_Succs.f; rw [zD h0, zD (by omega), zC (by omega), zC h1]
     rw [show (((rd_LIns x i).length : Int) == 0) = true from by rw [show rd_LIns x i = [] from h2]; rfl]) ?_
    rw [show succs x i = [] by unfold succs; rw [zC (Or.inr (Or.inr h2))]]
    exact nil
   ·obtain ⟨p1, p2, p3⟩ := rd_last h2 hb
    refine Ev.congr (f := fun k => flow_Succs.j0 k x i false) (fun k => by
     unfold flow_Succs.f; rw [zD h0, zD (by omega), zC (by omega), zC h1]
     rw [show (((rd_LIns x i).length : Int) == 0) = false from by
      rw [beq_eq_false_iff_ne]
      intro e
      exact h2 (List.eq_nil_of_length_eq_zero (by exact Int.ofNat.inj e))]) ?_
    rw [show succs x i = (targets (lastOf (blockAt x i))).foldl (addT x.length) [] by unfold succs; rw [zD (by simp only [h2, or_false]; omega)]]
    have ht := targets_len (lastOf (blockAt x i))
    refine Ev.step (f := fun k => flow_Succs.l0 k x [] (targets (lastOf (blockAt x i))) ((targets (lastOf (blockAt x i))).length : Int) 0) (fun k => by
     simp only [flow_Succs.j0]
     rw [zD (by simp), zC (by omega), zC h1]
     show (if 0 ≤ wrap64 (((blockAt x i).length : Int) - 1) then _ else _) = _
     rw [zC p1]
     show (if wrap64 (((blockAt x i).length : Int) - 1) < ((blockAt x i).length : Int) then _ else _) = _
     rw [zC p2]
     show (ir_Targets.f (rd_TIns (blockAt x i) (wrap64 (((blockAt x i).length : Int) - 1))).f0 (rd_TIns (blockAt x i) (wrap64 (((blockAt x i).length : Int) - 1))).f1 (rd_TIns (blockAt x i) (wrap64 (((blockAt x i).length : Int) - 1))).f2 (rd_TIns (blockAt x i) (wrap64 (((blockAt x i).length : Int) - 1))).f3 (rd_TIns (blockAt x i) (wrap64 (((blockAt x i).length : Int) - 1))).f4 (rd_TIns (blockAt x i) (wrap64 (((blockAt x i).length : Int) - 1))).f5).bind _ = _
     rw [p3, ir_targets]
     rfl) ?_
    have := succs_loop x (targets (lastOf (blockAt x i))) (by omega) _ 0 [] rfl (by omega) (by simp; omega)
    simpa using this
  ·refine Ev.congr (f := fun k => flow_Succs.j0 k x i true) (fun k => by unfold flow_Succs.f; rw [zD h0, zC (by omega)]) ?_
   rw [show succs x i = [] by unfold succs; rw [zC (Or.inr (Or.inl (by omega)))]]
   exact nil
theorem refsuccs_ev (x : List (List SIns)) (i : Int) (h : Small x) : Ev (fun k => cubbyref09_Succs.f k x i) (succs x i) := by
 have nil : Ev (fun k => cubbyref09_Succs.j0 k x i [] true) ([] : List Int) := Ev.step (f := fun _ => some []) (fun k => by simp only [cubbyref09_Succs.j0, if_true]) (Ev.now _)
 by_cases h0 : i < 0
 ·refine Ev.congr (f := fun k => cubbyref09_Succs.j0 k x i [] true) (fun k => by unfold cubbyref09_Succs.f; simp only [zJ]; rw [zC h0]) ?_
  rw [show succs x i = [] by unfold succs; rw [zC (Or.inl h0)]]
  exact nil
 ·by_cases h1 : i < x.length
  ·have hb := small_at h i
   by_cases h2 : blockAt x i = []
   ·refine Ev.congr (f := fun k => cubbyref09_Succs.j0 k x i [] true) (fun k => by
     unfold cubbyref09_Succs.f; simp only [zJ]; rw [zD h0, zD (by omega), zC (by omega), zC h1]
     rw [show (((rd_LIns x i).length : Int) == 0) = true from by rw [show rd_LIns x i = [] from h2]; rfl]) ?_
    rw [show succs x i = [] by unfold succs; rw [zC (Or.inr (Or.inr h2))]]
    exact nil
   ·obtain ⟨p1, p2, p3⟩ := rd_last h2 hb
    refine Ev.congr (f := fun k => cubbyref09_Succs.j0 k x i [] false) (fun k => by
     unfold cubbyref09_Succs.f; simp only [zJ]; rw [zD h0, zD (by omega), zC (by omega), zC h1]
     rw [show (((rd_LIns x i).length : Int) == 0) = false from by
      rw [beq_eq_false_iff_ne]
      intro e
      exact h2 (List.eq_nil_of_length_eq_zero (by exact Int.ofNat.inj e))]) ?_
    rw [show succs x i = (targets (lastOf (blockAt x i))).foldl (addT x.length) [] by unfold succs; rw [zD (by simp only [h2, or_false]; omega)]]
    have ht := targets_len (lastOf (blockAt x i))
    refine Ev.step (f := fun k => cubbyref09_Succs.l0 k x [] (targets (lastOf (blockAt x i))) 0) (fun k => by
     simp only [cubbyref09_Succs.j0]
     rw [zD (by simp), zC (by omega), zC h1]
     show (if 0 ≤ wrap64 (((blockAt x i).length : Int) - 1) then _ else _) = _
     rw [zC p1]
     show (if wrap64 (((blockAt x i).length : Int) - 1) < ((blockAt x i).length : Int) then _ else _) = _
     rw [zC p2]
     show (cubbyref07_Targets.f (rd_TIns (blockAt x i) (wrap64 (((blockAt x i).length : Int) - 1))).f0 (rd_TIns (blockAt x i) (wrap64 (((blockAt x i).length : Int) - 1))).f1 (rd_TIns (blockAt x i) (wrap64 (((blockAt x i).length : Int) - 1))).f2 (rd_TIns (blockAt x i) (wrap64 (((blockAt x i).length : Int) - 1))).f3 (rd_TIns (blockAt x i) (wrap64 (((blockAt x i).length : Int) - 1))).f4 (rd_TIns (blockAt x i) (wrap64 (((blockAt x i).length : Int) - 1))).f5).bind _ = _
     rw [p3, ref_targets]
     rfl) ?_
    have := refsuccs_loop x (targets (lastOf (blockAt x i))) (by omega) _ 0 [] rfl (by omega) (by simp; omega)
    simpa using this
  ·refine Ev.congr (f := fun k => cubbyref09_Succs.j0 k x i [] true) (fun k => by unfold cubbyref09_Succs.f; simp only [zJ]; rw [zD h0, zC (by omega)]) ?_
   rw [show succs x i = [] by unfold succs; rw [zC (Or.inr (Or.inl (by omega)))]]
   exact nil
end Go.Proofs.YtpkimbkjjmbmcaaDoor.PlainSuccs
namespace Go.Proofs.YtpkimbkjjmbmcaaDoor.PlainName
open Go Go.RowKit Go.Proofs.YtpkimbkjjmbmcaaDoorW.PrintWords Go.Proofs.YtpkimbkjjmbmcaaDoorW.PrintMore Go.Proofs.YtpkimbkjjmbmcaaDoor.Q Go.Proofs.YtpkimbkjjmbmcaaDoor.Plain
set_option linter.unusedVariables false
set_option linter.unusedSimpArgs false
def lowD (x : UInt8) : Bool := decide ((97 ≤ x.toNat ∧ x.toNat ≤ 122) ∨ (48 ≤ x.toNat ∧ x.toNat ≤ 57))
def nameOk (s : ByteArray) : Bool := decide (1 ≤ s.size ∧ s.size ≤ 12 ∧ 97 ≤ bt s 0) && s.data.toList.all lowD
theorem cut_has (x : UInt8) : nameCut.data.toList.contains x = lowD x := by
 have h : ∀ n, n < 256 → nameCut.data.toList.contains (UInt8.ofNat n) = lowD (UInt8.ofNat n) := by decide +kernel
 have := h x.toNat x.toNat_lt
 rwa [UInt8.ofNat_toNat] at this
theorem dw_nil {p : UInt8 → Bool} : ∀ {l : List UInt8}, l.dropWhile p = [] ↔ ∀ x, x ∈ l → p x = true
 | [] => by simp
 | a :: t => by
  rw [List.dropWhile_cons]
  by_cases h : p a = true
  ·rw [zC h, dw_nil (l := t)]
   constructor
   ·intro g x hx
    rcases List.mem_cons.1 hx with rfl | hx
    ·exact h
    ·exact g x hx
   ·exact fun g x hx => g x (List.mem_cons_of_mem _ hx)
  ·rw [zD h]
   constructor
   ·intro g
    exact absurd g (by simp)
   ·intro g
    exact absurd (g a List.mem_cons_self) h
theorem trim_nil (l cs : List UInt8) : Lib.trimS l cs = [] ↔ l.all (cs.contains ·) = true := by
 unfold Lib.trimS Lib.trimLeftS Lib.trimRightS
 constructor
 ·intro h
  rw [dw_nil] at h
  rw [List.all_eq_true]
  intro x hx
  have h2 : x ∈ l.reverse := List.mem_reverse.2 hx
  rw [← List.takeWhile_append_dropWhile (p := fun x => cs.contains x) (l := l.reverse)] at h2
  rcases List.mem_append.1 h2 with h3 | h3
  ·exact (List.all_eq_true.1 (List.all_takeWhile (p := fun x => cs.contains x) (l := l.reverse))) x h3
  ·exact h x (List.mem_reverse.2 h3)
 ·intro h
  have h1 : l.reverse.dropWhile (cs.contains ·) = [] := by
   rw [dw_nil]
   intro x hx
   exact List.all_eq_true.1 h x (List.mem_reverse.1 hx)
  rw [h1]
  rfl
theorem size_list (s : ByteArray) : s.data.toList.length = s.size := by simp
theorem bt_get {s : ByteArray} {j : Nat} (h : j < s.data.toList.length) : bt s (j : Int) = ((s.data.toList[j]).toNat : Int) := by
 have hs := size_list s
 unfold bt
 rw [dif_pos (by omega)]
 rfl
theorem name_eq (s : ByteArray) : ir_Name.f s = some (nameOk s) := by
 have hs := size_list s
 unfold ir_Name.f
 rw [toList_data]
 by_cases h0 : s.data.toList = []
 ·have : s.size = 0 := by
   rw [h0] at hs
   exact hs.symm
  rw [zC h0]
  unfold nameOk
  rw [zG (by omega)]
  rfl
 ·have h1 : 0 < s.size := by
   rw [← hs]
   exact List.length_pos_iff.2 h0
  rw [zD h0]
  by_cases h2 : (s.size : Int) > 12
  ·rw [zC h2]
   unfold nameOk
   rw [zG (by omega)]
   rfl
  ·rw [zD h2, zC (by omega)]
   by_cases h3 : bt s 0 < 97
   ·rw [zC h3]
    unfold nameOk
    rw [zG (by omega)]
    rfl
   ·rw [zD h3]
    unfold strings_Trim.f
    rw [zC ⟨by omega, rfl⟩]
    simp only [zJ]
    rw [toList_data]
    unfold nameOk
    rw [zF (by omega), Bool.true_and, List.toList_toArray]
    congr 1
    have hc : s.data.toList.all (nameCut.data.toList.contains ·) = s.data.toList.all lowD := by
     congr 1
     funext x
     exact cut_has x
    have ht := trim_nil s.data.toList nameCut.data.toList
    rw [hc] at ht
    by_cases ha : s.data.toList.all lowD = true
    ·rw [ha]
     exact beq_iff_eq.2 (ht.2 ha)
    ·rw [Bool.not_eq_true _ |>.mp ha]
     exact beq_eq_false_iff_ne.2 fun e => ha (ht.1 e)
def restOk (s : ByteArray) (j : Nat) : Bool := (s.data.toList.drop j).all lowD && decide (j = 0 → 97 ≤ bt s 0)
theorem refname_loop (s : ByteArray) (hl : s.size ≤ 12) : ∀ (d j : Nat), s.size - j = d → j ≤ s.size → (j = 0 → 0 < s.size) → Ev (fun k => cubbyref07_Name.l0 k s (j : Int)) (restOk s j) := by
 have hs := size_list s
 intro d
 induction d with
 | zero =>
  intro j hd hj h0
  have : restOk s j = true := by
   unfold restOk
   rw [List.drop_eq_nil_of_le (by omega)]
   simp
   omega
  rw [this]
  exact Ev.step (f := fun _ => some true) (fun k => by simp only [cubbyref07_Name.l0]; rw [zD (by omega)]) (Ev.now _)
 | succ d ih =>
  intro j hd hj h0
  have hlt : j < s.data.toList.length := by omega
  have hb := bt_get hlt
  have hR : restOk s j = (lowD (s.data.toList[j]) && decide (j = 0 → 97 ≤ bt s 0) && restOk s (j + 1)) := by
   unfold restOk
   rw [drop_cons hlt]
   simp
   cases lowD s.data.toList[j] <;> cases (List.drop (j + 1) s.data.toList).all lowD <;> simp
  have hlow : lowD (s.data.toList[j]) = decide ((97 ≤ bt s (j : Int) ∧ bt s (j : Int) ≤ 122) ∨ (48 ≤ bt s (j : Int) ∧ bt s (j : Int) ≤ 57)) := by
   unfold lowD
   rw [hb]
   apply decide_eq_decide.2
   omega
  have hj0 : j = 0 → bt s (j : Int) = bt s 0 := by
   rintro rfl
   rfl
  rw [hR, hlow]
  have hstep : ∀ k, cubbyref07_Name.l0 (k + 1) s (j : Int) = (if (97 ≤ bt s (j : Int) ∧ bt s (j : Int) ≤ 122) ∨ ((48 ≤ bt s (j : Int) ∧ bt s (j : Int) ≤ 57) ∧ j ≠ 0) then cubbyref07_Name.l0 k s ((j + 1 : Nat) : Int) else some false) := by
   intro k
   simp only [cubbyref07_Name.l0]
   rw [zC (by omega : (j : Int) < (s.size : Int)), zC (by omega : (0 : Int) ≤ (j : Int)), wrap_nat (by omega)]
   repeat' split
   all_goals first
    | rfl
    | omega
  by_cases c : (97 ≤ bt s (j : Int) ∧ bt s (j : Int) ≤ 122) ∨ ((48 ≤ bt s (j : Int) ∧ bt s (j : Int) ≤ 57) ∧ j ≠ 0)
  ·refine Ev.step (fun k => (hstep k).trans (zC c)) ?_
   rw [zF (by omega), zF (by intro h; have := hj0 h; omega), Bool.true_and, Bool.true_and]
   exact ih (j + 1) (by omega) (by omega) (by omega)
  ·refine Ev.step (f := fun _ => some false) (fun k => (hstep k).trans (zD c)) ?_
   have : (decide ((97 ≤ bt s (j : Int) ∧ bt s (j : Int) ≤ 122) ∨ (48 ≤ bt s (j : Int) ∧ bt s (j : Int) ≤ 57)) && decide (j = 0 → 97 ≤ bt s 0)) = false := by
    by_cases c1 : (97 ≤ bt s (j : Int) ∧ bt s (j : Int) ≤ 122) ∨ (48 ≤ bt s (j : Int) ∧ bt s (j : Int) ≤ 57)
    ·rw [zG (p := (j = 0 → 97 ≤ bt s 0)) (fun h => by
      have h9 : j = 0 := by omega
      have := hj0 h9
      have := h h9
      omega), Bool.and_false]
    ·rw [zG c1, Bool.false_and]
   rw [this, Bool.false_and]
   exact Ev.now _
theorem refname_ev (s : ByteArray) : Ev (fun k => cubbyref07_Name.f k s) (nameOk s) := by
 have hyes : (s.size < 1 ∨ 12 < s.size) → Ev (fun k => cubbyref07_Name.j0 k s true) (nameOk s) := fun h => by
  have : nameOk s = false := by
   unfold nameOk
   rw [zG (by omega)]
   rfl
  rw [this]
  exact Ev.step (f := fun _ => some false) (fun k => by simp only [cubbyref07_Name.j0, if_true]) (Ev.now _)
 by_cases h1 : (s.size : Int) < 1
 ·exact Ev.congr (fun k => by unfold cubbyref07_Name.f; rw [zC h1]) (hyes (by omega))
 refine Ev.congr (f := fun k => cubbyref07_Name.j0 k s (decide ((s.size : Int) > 12))) (fun k => by unfold cubbyref07_Name.f; rw [zD h1]) ?_
 by_cases h2 : (s.size : Int) > 12
 ·rw [zF h2]
  exact hyes (by omega)
 ·rw [zG h2]
  refine Ev.step (f := fun k => cubbyref07_Name.l0 k s ((0 : Nat) : Int)) (fun k => by simp only [cubbyref07_Name.j0]; rw [zD (by simp)]; rfl) ?_
  have := refname_loop s (by omega) s.size 0 (by omega) (by omega) (by omega)
  have hR : restOk s 0 = nameOk s := by
   unfold restOk nameOk
   rw [List.drop_zero, Bool.and_comm]
   congr 1
   apply decide_eq_decide.2
   constructor
   ·intro h
    exact ⟨by omega, by omega, h rfl⟩
   ·intro h _
    exact h.2.2
  rw [← hR]
  exact this
end Go.Proofs.YtpkimbkjjmbmcaaDoor.PlainName
namespace Go.Proofs.YtpkimbkjjmbmcaaDoor.PlainOne
open Go Go.RowKit Go.Proofs.YtpkimbkjjmbmcaaDoorW.PrintWords Go.Proofs.YtpkimbkjjmbmcaaDoorW.PrintMore Go.Proofs.YtpkimbkjjmbmcaaDoor.Q Go.Proofs.YtpkimbkjjmbmcaaDoor.Plain Go.Proofs.YtpkimbkjjmbmcaaDoor.PlainIr Go.Proofs.YtpkimbkjjmbmcaaDoor.PlainName
set_option linter.unusedVariables false
set_option linter.unusedSimpArgs false
def hasD (op : Int) : Prop := (1 ≤ op ∧ op ≤ 8) ∨ op = 11
instance (op : Int) : Decidable (hasD op) := by unfold hasD; infer_instance
def bareP (op d a b : Int) (nm : ByteArray) (args : List Int) : Prop :=
 (op = 11 ∨ (nm.toList = ([] : List UInt8) ∧ args.length = 0)) ∧ ((op = 9 ∨ op = 10 ∨ op = 12 ∨ op = 14) → d = 0) ∧ (op = 11 → a = 0) ∧ ((op = 1 ∨ op = 2 ∨ op = 8 ∨ op = 10 ∨ op = 11 ∨ op = 12 ∨ op = 14) → b = 0)
instance (op d a b : Int) (nm : ByteArray) (args : List Int) : Decidable (bareP op d a b nm args) := by unfold bareP; infer_instance
def e5 (op : Int) (args : List Int) : Int := if op = 11 ∧ 4 < args.length then 192 else 0
def e4 (op : Int) (nm : ByteArray) (args : List Int) : Int := if op = 11 ∧ nameOk nm = false then 70 else e5 op args
def e3 (blocks op d a b : Int) (nm : ByteArray) (args : List Int) : Int := if (targets7 op d a b).any (oddReg blocks) = true then 74 else e4 op nm args
def e2 (blocks op d a b : Int) (nm : ByteArray) (args : List Int) : Int := if op = 1 ∧ (a < 0 ∨ 65536 ≤ a) then 81 else e3 blocks op d a b nm args
def e1 (regs blocks op d a b : Int) (nm : ByteArray) (args : List Int) : Int := if (hasD op ∧ oddReg regs d = true) ∨ (uses op a b args).any (oddReg regs) = true then 73 else e2 blocks op d a b nm args
def oneE (regs blocks op d a b : Int) (nm : ByteArray) (args : List Int) (last : Bool) : Int := if (1 ≤ op ∧ op ≤ 14) ∧ lastOp op = last ∧ bareP op d a b nm args then e1 regs blocks op d a b nm args else 72
theorem odd_iff (m n : Int) : oddReg m n = true ↔ n < 0 ∨ m ≤ n := by
 unfold oddReg
 exact decide_eq_true_iff
theorem any_odd {m : Int} {l : List Int} : l.any (oddReg m) = true ↔ ∃ i : Nat, i < l.length ∧ oddReg m (rd l (i : Int)) = true := by
 rw [List.any_eq_true]
 constructor
 ·rintro ⟨x, hx, h⟩
  obtain ⟨i, hi, rfl⟩ := List.mem_iff_getElem.1 hx
  exact ⟨i, hi, by rw [rd_get hi]; exact h⟩
 ·rintro ⟨i, hi, h⟩
  rw [rd_get hi] at h
  exact ⟨_, List.getElem_mem hi, h⟩

theorem refwithin_ev (l : List Int) (most : Int) (hl : l.length ≤ 4611686018427387904) : Ev (fun k => cubbyref07_within.f k l most) (!(l.any (oddReg most))) := by
 show Ev (fun k => cubbyref07_within.l0 k l most ((0 : Nat) : Int)) _
 refine seek (fun k i => cubbyref07_within.l0 k l most (i : Int)) l.length (fun i => oddReg most (rd l (i : Int)) = true) false _ ?_ ?_ ?_ ?_
 ·intro i hi hb
  rw [odd_iff] at hb
  refine Ev.step (f := fun _ => some false) (fun k => ?_) (Ev.now _)
  simp only [cubbyref07_within.l0]
  rw [zC (by omega), zC (by omega)]
  split
  ·rfl
  ·rw [zC (by omega)]
 ·intro i hi hb r' hE
  rw [odd_iff] at hb
  refine Ev.step (fun k => ?_) hE
  simp only [cubbyref07_within.l0]
  rw [zC (by omega), zC (by omega), zD (by omega), zD (by omega), wrap_nat (by omega)]
 ·intro h
  rw [any_odd.2 h]
  rfl
 ·intro h
  have : l.any (oddReg most) = false := by
   rw [← Bool.not_eq_true, any_odd]
   rintro ⟨i, hi, hb⟩
   exact h i hi hb
  rw [this]
  exact Ev.step (f := fun _ => some true) (fun k => by simp only [cubbyref07_within.l0]; rw [zD (by omega)]) (Ev.now _)
theorem refbare_ev (op d a b : Int) (nm : ByteArray) (args : List Int) (h : 1 ≤ op ∧ op ≤ 14) : Ev (fun k => cubbyref07_bare.f k op d a b nm args) (decide (bareP op d a b nm args)) := by
 have h3 : ∀ B, (B = true ↔ op = 10 ∨ op = 12 ∨ op = 14) → (op = 10 ∨ op = 11 ∨ op = 12 ∨ op = 14) → Ev (fun k => cubbyref07_bare.j3 k op B op d a b nm args) (if op = 11 then decide (a = 0 ∧ b = 0) else decide (d = 0 ∧ b = 0)) := by
  intro B hB ho
  refine Ev.step (f := fun _ => some _) (fun k => ?_) (Ev.now _)
  simp only [cubbyref07_bare.j3]
  by_cases c : op = 11
  ·rw [zD (by rw [hB]; omega), zC c, zC c]
   by_cases c1 : a = 0
   ·rw [zC c1]
    simp [c1]
    rfl
   ·rw [zD c1]
    simp [c1]
  ·rw [zC (by rw [hB]; omega), zD c]
   by_cases c1 : d = 0
   ·rw [zC c1]
    simp [c1]
    rfl
   ·rw [zD c1]
    simp [c1]
 have h2 : ∀ B, (B = true ↔ (3 ≤ op ∧ op ≤ 7) ∨ op = 13) → ¬ (op = 1 ∨ op = 2 ∨ op = 8) → Ev (fun k => cubbyref07_bare.j2 k op B op d a b nm args) (if (3 ≤ op ∧ op ≤ 7) ∨ op = 13 then true else if op = 9 then decide (d = 0) else if op = 11 then decide (a = 0 ∧ b = 0) else decide (d = 0 ∧ b = 0)) := by
  intro B hB ho
  by_cases c : (3 ≤ op ∧ op ≤ 7) ∨ op = 13
  ·rw [zC c]
   exact Ev.step (f := fun _ => some true) (fun k => by simp only [cubbyref07_bare.j2]; rw [zC (hB.2 c)]) (Ev.now _)
  ·rw [zD c]
   by_cases c1 : op = 9
   ·rw [zC c1]
    exact Ev.step (f := fun _ => some (d == 0)) (fun k => by simp only [cubbyref07_bare.j2]; rw [zD (by rw [hB]; exact c), zC c1]) (Ev.now _)
   ·rw [zD c1]
    by_cases c2 : op = 10
    ·exact Ev.step (fun k => by simp only [cubbyref07_bare.j2]; rw [zD (by rw [hB]; exact c), zD c1, zC c2]) (h3 (op == 10) (by rw [beq_iff_eq]; omega) (by omega))
    ·by_cases c3 : op = 14
     ·exact Ev.step (fun k => by simp only [cubbyref07_bare.j2]; rw [zD (by rw [hB]; exact c), zD c1, zD c2, zC c3]) (h3 (op == 14) (by rw [beq_iff_eq]; omega) (by omega))
     ·exact Ev.step (fun k => by simp only [cubbyref07_bare.j2]; rw [zD (by rw [hB]; exact c), zD c1, zD c2, zD c3]) (h3 (op == 12) (by rw [beq_iff_eq]; omega) (by omega))
 have h1 : ∀ B, (B = true ↔ op = 1 ∨ op = 2 ∨ op = 8) → Ev (fun k => cubbyref07_bare.j1 k op B op d a b nm args) (if op = 1 ∨ op = 2 ∨ op = 8 then decide (b = 0) else if (3 ≤ op ∧ op ≤ 7) ∨ op = 13 then true else if op = 9 then decide (d = 0) else if op = 11 then decide (a = 0 ∧ b = 0) else decide (d = 0 ∧ b = 0)) := by
  intro B hB
  by_cases c : op = 1 ∨ op = 2 ∨ op = 8
  ·rw [zC c]
   exact Ev.step (f := fun _ => some (b == 0)) (fun k => by simp only [cubbyref07_bare.j1]; rw [zC (hB.2 c)]) (Ev.now _)
  ·rw [zD c]
   have hn : ¬ B = true := by rw [hB]; exact c
   by_cases c3 : op = 3
   ·exact Ev.step (fun k => by simp only [cubbyref07_bare.j1]; rw [zD hn, zC c3]) (h2 (op == 3) (by rw [beq_iff_eq]; omega) c)
   by_cases c4 : op = 4
   ·exact Ev.step (fun k => by simp only [cubbyref07_bare.j1]; rw [zD hn, zD c3, zC c4]) (h2 (op == 4) (by rw [beq_iff_eq]; omega) c)
   by_cases c5 : op = 5
   ·exact Ev.step (fun k => by simp only [cubbyref07_bare.j1]; rw [zD hn, zD c3, zD c4, zC c5]) (h2 (op == 5) (by rw [beq_iff_eq]; omega) c)
   by_cases c6 : op = 6
   ·exact Ev.step (fun k => by simp only [cubbyref07_bare.j1]; rw [zD hn, zD c3, zD c4, zD c5, zC c6]) (h2 (op == 6) (by rw [beq_iff_eq]; omega) c)
   by_cases c7 : op = 7
   ·exact Ev.step (fun k => by simp only [cubbyref07_bare.j1]; rw [zD hn, zD c3, zD c4, zD c5, zD c6, zC c7]) (h2 (op == 7) (by rw [beq_iff_eq]; omega) c)
   ·exact Ev.step (fun k => by simp only [cubbyref07_bare.j1]; rw [zD hn, zD c3, zD c4, zD c5, zD c6, zD c7]) (h2 (op == 13) (by rw [beq_iff_eq]; omega) c)
 have h0 : Ev (fun k => cubbyref07_bare.j0 k false op d a b nm args) (if op = 1 ∨ op = 2 ∨ op = 8 then decide (b = 0) else if (3 ≤ op ∧ op ≤ 7) ∨ op = 13 then true else if op = 9 then decide (d = 0) else if op = 11 then decide (a = 0 ∧ b = 0) else decide (d = 0 ∧ b = 0)) := by
  by_cases c1 : op = 1
  ·exact Ev.step (fun k => by simp only [cubbyref07_bare.j0]; rw [zD Bool.false_ne_true, zC c1]) (h1 (op == 1) (by rw [beq_iff_eq]; omega))
  by_cases c2 : op = 2
  ·exact Ev.step (fun k => by simp only [cubbyref07_bare.j0]; rw [zD Bool.false_ne_true, zD c1, zC c2]) (h1 (op == 2) (by rw [beq_iff_eq]; omega))
  ·exact Ev.step (fun k => by simp only [cubbyref07_bare.j0]; rw [zD Bool.false_ne_true, zD c1, zD c2]) (h1 (op == 8) (by rw [beq_iff_eq]; omega))
 have hsame : (op = 11 ∨ (nm.toList = ([] : List UInt8) ∧ args.length = 0)) → (if op = 1 ∨ op = 2 ∨ op = 8 then decide (b = 0) else if (3 ≤ op ∧ op ≤ 7) ∨ op = 13 then true else if op = 9 then decide (d = 0) else if op = 11 then decide (a = 0 ∧ b = 0) else decide (d = 0 ∧ b = 0)) = decide (bareP op d a b nm args) := by
  intro hb
  unfold bareP
  repeat' split
  all_goals first
   | (apply decide_eq_decide.2; constructor <;> intro hx <;> first | omega | (refine ⟨hb, ?_, ?_, ?_⟩ <;> omega))
   | (symm; apply zF; refine ⟨hb, ?_, ?_, ?_⟩ <;> omega)
 by_cases c : op = 11
 ·rw [← hsame (.inl c)]
  exact Ev.congr (fun k => by unfold cubbyref07_bare.f; rw [zC c]) h0
 ·by_cases c1 : nm.toList = ([] : List UInt8)
  ·refine Ev.congr (fun k => by unfold cubbyref07_bare.f; rw [zD c, zC c1]) ?_
   by_cases c2 : (args.length : Int) > 0
   ·rw [zF c2, zG (by unfold bareP; omega)]
    exact Ev.step (f := fun _ => some false) (fun k => by simp only [cubbyref07_bare.j0]; rw [zC trivial]) (Ev.now _)
   ·rw [zG c2, ← hsame (.inr ⟨c1, by omega⟩)]
    exact h0
  ·refine Ev.congr (fun k => by unfold cubbyref07_bare.f; rw [zD c, zD c1]) ?_
   rw [zG (p := bareP op d a b nm args) (by
    unfold bareP
    rintro ⟨h4 | h4, _⟩
    ·exact c h4
    ·exact c1 h4.1)]
   exact Ev.step (f := fun _ => some false) (fun k => by simp only [cubbyref07_bare.j0]; rw [zC trivial]) (Ev.now _)
theorem uses_short {op a b : Int} {args : List Int} (ha : args.length ≤ 17592186043904) : (uses op a b args).length ≤ 4611686018427387904 := by
 unfold uses
 repeat' split
 all_goals first | omega | simp
theorem targets_short (op d a b : Int) : (targets7 op d a b).length ≤ 4611686018427387904 := by
 unfold targets7
 repeat' split
 all_goals simp
theorem defOf_iff {op d : Int} : (defOf op d = -1 ↔ ¬ hasD op ∨ d = -1) ∧ (hasD op → defOf op d = d) := by
 unfold defOf hasD
 constructor
 ·split <;> omega
 ·intro h
  rw [zC h]
section
variable (op d a b : Int) (nm : ByteArray) (args : List Int)
theorem r4 (B : Bool) : Ev (fun k => cubbyref07_One.j4 k B op d a b nm args) (if B = true then 70 else e5 op args) := by
 refine Ev.step (f := fun _ => some _) (fun k => ?_) (Ev.now _)
 simp only [cubbyref07_One.j4]
 unfold e5
 repeat' split
 all_goals first | rfl | omega
theorem r3 (blocks : Int) (B : Bool) : Ev (fun k => cubbyref07_One.j3 k blocks B op d a b nm args) (if B = true then 81 else e3 blocks op d a b nm args) := by
 cases B
 ·rw [zD Bool.false_ne_true]
  refine Ev.step (fun k => by simp only [cubbyref07_One.j3]; rw [zD Bool.false_ne_true, reftargets_eq, zJ]) (Ev.bind (refwithin_ev (targets7 op d a b) blocks (targets_short op d a b)) ?_)
  unfold e3
  by_cases c : (targets7 op d a b).any (oddReg blocks) = true
  ·rw [zC c, c]
   exact Ev.congr (f := fun _ => some 74) (fun k => by rw [zD (by decide)]) (Ev.now _)
  ·rw [zD c, (Bool.not_eq_true _).mp c]
   unfold e4
   by_cases c1 : op = 11
   ·refine Ev.congr (fun k => by rw [zC (by decide), zC c1]) (Ev.bind (refname_ev nm) ?_)
    have := r4 op d a b nm args (!nameOk nm)
    cases hn : nameOk nm
    ·rw [hn] at this
     rw [zC ⟨c1, rfl⟩]
     exact this
    ·rw [hn] at this
     rw [zD (by simp)]
     exact this
   ·rw [zD (fun h => c1 h.1)]
    exact Ev.congr (fun k => by rw [zC (by decide), zD c1]) (r4 op d a b nm args false)
 ·exact Ev.step (f := fun _ => some 81) (fun k => by simp only [cubbyref07_One.j3]; rw [zC trivial]) (Ev.now _)
theorem r2 (blocks : Int) (B : Bool) : Ev (fun k => cubbyref07_One.j2 k blocks B op d a b nm args) (if B = true then 73 else e2 blocks op d a b nm args) := by
 cases B
 ·rw [zD Bool.false_ne_true]
  unfold e2
  by_cases c : op = 1
  ·by_cases c1 : a < 0
   ·rw [zC ⟨c, .inl c1⟩]
    exact Ev.step (fun k => by simp only [cubbyref07_One.j2]; rw [zD Bool.false_ne_true, zC c, zC c1]) (r3 op d a b nm args blocks true)
   ·refine Ev.step (fun k => by simp only [cubbyref07_One.j2]; rw [zD Bool.false_ne_true, zC c, zD c1]) ?_
    have := r3 op d a b nm args blocks (decide (a ≥ 65536))
    by_cases c2 : a ≥ 65536
    ·rw [zC ⟨c, .inr c2⟩]
     rw [zF c2] at this ⊢
     exact this
    ·rw [zD (by omega)]
     rw [zG c2] at this ⊢
     exact this
  ·rw [zD (by omega)]
   exact Ev.step (fun k => by simp only [cubbyref07_One.j2]; rw [zD Bool.false_ne_true, zD c]) (r3 op d a b nm args blocks false)
 ·exact Ev.step (f := fun _ => some 73) (fun k => by simp only [cubbyref07_One.j2]; rw [zC trivial]) (Ev.now _)
theorem r1 (h : 1 ≤ op ∧ op ≤ 14) (blocks : Int) (B : Bool) : Ev (fun k => cubbyref07_One.j1 k blocks B op d a b nm args) (if B = true ∨ (hasD op ∧ d = -1) then 73 else e2 blocks op d a b nm args) := by
 cases B
 ·have hd := (defOf_iff (op := op) (d := d)).1
  by_cases c : defOf op d = -1
  ·by_cases c9 : op = 9
   ·rw [zD (by unfold hasD; rintro (x | x) <;> first | exact absurd x (by decide) | omega)]
    exact Ev.step (fun k => by simp only [cubbyref07_One.j1]; rw [zD Bool.false_ne_true, refdef_eq, zJ, zC c, zC c9]) (r2 op d a b nm args blocks false)
   ·by_cases c10 : op = 10
    ·rw [zD (by unfold hasD; rintro (x | x) <;> first | exact absurd x (by decide) | omega)]
     exact Ev.step (fun k => by simp only [cubbyref07_One.j1]; rw [zD Bool.false_ne_true, refdef_eq, zJ, zC c, zD c9, zC c10]) (r2 op d a b nm args blocks false)
    ·refine Ev.step (fun k => by simp only [cubbyref07_One.j1]; rw [zD Bool.false_ne_true, refdef_eq, zJ, zC c, zD c9, zD c10, reflast_eq, zJ]) ?_
     have := r2 op d a b nm args blocks (!lastOp op)
     by_cases cl : 12 ≤ op ∧ op ≤ 14
     ·rw [zD (by unfold hasD; rintro (x | x) <;> first | exact absurd x (by decide) | omega)]
      rw [show lastOp op = true from zF cl] at this ⊢
      exact this
     ·rw [zC (.inr ⟨by unfold hasD; omega, by unfold hasD at hd; omega⟩)]
      rw [show lastOp op = false from zG cl] at this ⊢
      exact this
  ·rw [zD (by
    rintro (x | x)
    ·exact absurd x (by decide)
    ·exact c (hd.2 (.inr x.2)))]
   exact Ev.step (fun k => by simp only [cubbyref07_One.j1]; rw [zD Bool.false_ne_true, refdef_eq, zJ, zD c]) (r2 op d a b nm args blocks false)
 ·rw [zC (.inl rfl)]
  exact Ev.step (f := fun _ => some 73) (fun k => by simp only [cubbyref07_One.j1]; rw [zC trivial]) (Ev.now _)
theorem r0 (h : 1 ≤ op ∧ op ≤ 14) (ha : args.length ≤ 17592186043904) (regs blocks : Int) (B : Bool) : Ev (fun k => cubbyref07_One.j0 k regs blocks B op d a b nm args) (if B = true then 72 else e1 regs blocks op d a b nm args) := by
 cases B
 ·rw [zD Bool.false_ne_true]
  have hd := (defOf_iff (op := op) (d := d))
  have hj : Ev (fun k => (cubbyref07_Uses.f k op d a b nm args).bind fun t273 => (cubbyref07_within.f k t273 regs).bind fun t276 => cubbyref07_One.j1 k blocks (!t276) op d a b nm args) (if (uses op a b args).any (oddReg regs) = true ∨ (hasD op ∧ d = -1) then 73 else e2 blocks op d a b nm args) := by
   refine Ev.bind (refuses_ev op d a b nm args ha) (Ev.bind (refwithin_ev _ regs (uses_short ha)) ?_)
   have := r1 op d a b nm args h blocks ((uses op a b args).any (oddReg regs))
   rw [Bool.not_not]
   exact this
  by_cases c : defOf op d = -1
  ·refine Ev.step (fun k => by simp only [cubbyref07_One.j0]; rw [zD Bool.false_ne_true, refdef_eq, zJ, zC c]) ?_
   have e : e1 regs blocks op d a b nm args = (if (uses op a b args).any (oddReg regs) = true ∨ (hasD op ∧ d = -1) then 73 else e2 blocks op d a b nm args) := by
    unfold e1
    have h1 : ((hasD op ∧ oddReg regs d = true) ∨ (uses op a b args).any (oddReg regs) = true) ↔ ((uses op a b args).any (oddReg regs) = true ∨ (hasD op ∧ d = -1)) := by
     rw [odd_iff]
     have h2 := hd.1.1 c
     constructor
     ·rintro (⟨x, _⟩ | x)
      ·exact .inr ⟨x, by rcases h2 with h2 | h2; exact absurd x h2; exact h2⟩
      ·exact .inl x
     ·rintro (x | ⟨x, y⟩)
      ·exact .inr x
      ·exact .inl ⟨x, .inl (by omega)⟩
    simp only [h1]
   rw [e]
   exact hj
  ·have hh : hasD op := Decidable.byContradiction fun x => c (hd.1.2 (.inl x))
   have hdd := hd.2 hh
   have hne : d ≠ -1 := fun x => c (hd.1.2 (.inr x))
   by_cases c1 : d < 0
   ·have e : e1 regs blocks op d a b nm args = 73 := by
     unfold e1
     rw [zC (.inl ⟨hh, (odd_iff _ _).2 (.inl c1)⟩)]
    rw [e]
    have := r1 op d a b nm args h blocks true
    rw [zC (.inl rfl)] at this
    exact Ev.step (fun k => by simp only [cubbyref07_One.j0]; rw [zD Bool.false_ne_true, refdef_eq, zJ, zD c, zJ, zC (by omega)]) this
   ·by_cases c2 : d ≥ regs
    ·have e : e1 regs blocks op d a b nm args = 73 := by
      unfold e1
      rw [zC (.inl ⟨hh, (odd_iff _ _).2 (.inr c2)⟩)]
     rw [e]
     have := r1 op d a b nm args h blocks true
     rw [zC (.inl rfl)] at this
     exact Ev.step (fun k => by simp only [cubbyref07_One.j0]; rw [zD Bool.false_ne_true, refdef_eq, zJ, zD c, zJ, zD (by omega), zJ, zC (by omega)]) this
    ·have e : e1 regs blocks op d a b nm args = (if (uses op a b args).any (oddReg regs) = true ∨ (hasD op ∧ d = -1) then 73 else e2 blocks op d a b nm args) := by
      unfold e1
      have h1 : ((hasD op ∧ oddReg regs d = true) ∨ (uses op a b args).any (oddReg regs) = true) ↔ ((uses op a b args).any (oddReg regs) = true ∨ (hasD op ∧ d = -1)) := by
       rw [odd_iff]
       constructor
       ·rintro (⟨_, x⟩ | x)
        ·omega
        ·exact .inl x
       ·rintro (x | ⟨_, y⟩)
        ·exact .inr x
        ·exact absurd y hne
      simp only [h1]
     rw [e]
     exact Ev.step (fun k => by simp only [cubbyref07_One.j0]; rw [zD Bool.false_ne_true, refdef_eq, zJ, zD c, zJ, zD (by omega), zJ, zD (by omega)]) hj
 ·exact Ev.step (f := fun _ => some 72) (fun k => by simp only [cubbyref07_One.j0]; rw [zC trivial]) (Ev.now _)
theorem refone_ev (ha : args.length ≤ 17592186043904) (regs blocks : Int) (last : Bool) : Ev (fun k => cubbyref07_One.f k op d a b nm args regs blocks last) (oneE regs blocks op d a b nm args last) := by
 unfold oneE
 have hyes : Ev (fun k => cubbyref07_One.j0 k regs blocks true op d a b nm args) 72 := Ev.step (f := fun _ => some 72) (fun k => by simp only [cubbyref07_One.j0]; rw [zC trivial]) (Ev.now _)
 by_cases c0 : op < 1
 ·rw [zD (by omega)]
  exact Ev.congr (fun k => by unfold cubbyref07_One.f; rw [zC c0]) hyes
 by_cases c1 : op > 14
 ·rw [zD (by omega)]
  exact Ev.congr (fun k => by unfold cubbyref07_One.f; rw [zD c0, zC c1]) hyes
 have h : 1 ≤ op ∧ op ≤ 14 := by omega
 by_cases c2 : lastOp op = last
 ·refine Ev.congr (fun k => by unfold cubbyref07_One.f; rw [zD c0, zD c1, reflast_eq, zJ, zD (by simp [c2])]) (Ev.bind (refbare_ev op d a b nm args h) ?_)
  have := r0 op d a b nm args h ha regs blocks (!decide (bareP op d a b nm args))
  by_cases c3 : bareP op d a b nm args
  ·rw [zC ⟨h, c2, c3⟩]
   rw [zF c3] at this ⊢
   exact this
  ·rw [zD (fun x => c3 x.2.2)]
   rw [zG c3] at this ⊢
   exact this
 ·rw [zD (fun x => c2 x.2.1)]
  exact Ev.congr (fun k => by unfold cubbyref07_One.f; rw [zD c0, zD c1, reflast_eq, zJ, zC (by simpa using c2)]) hyes
end
end Go.Proofs.YtpkimbkjjmbmcaaDoor.PlainOne
namespace Go.Proofs.YtpkimbkjjmbmcaaDoor.PlainLive
open Go Go.RowKit Go.Proofs.YtpkimbkjjmbmcaaDoorW.PrintWords Go.Proofs.YtpkimbkjjmbmcaaDoorW.PrintMore Go.Proofs.YtpkimbkjjmbmcaaDoor.Q Go.Proofs.YtpkimbkjjmbmcaaDoor.Plain Go.Proofs.YtpkimbkjjmbmcaaDoor.PlainIr Go.Proofs.YtpkimbkjjmbmcaaDoor.PlainBits Go.Proofs.YtpkimbkjjmbmcaaDoor.PlainFix Go.Proofs.YtpkimbkjjmbmcaaDoor.PlainSuccs Go.Proofs.YtpkimbkjjmbmcaaDoor.PlainOne
set_option linter.unusedVariables false
set_option linter.unusedSimpArgs false
theorem mem_toL {R s r : Nat} : (r : Int) ∈ toL R s ↔ r < R ∧ s.testBit r = true := by
 unfold toL
 rw [List.mem_map]
 constructor
 ·rintro ⟨q, hq, e⟩
  have : q = r := by omega
  subst this
  exact mem_toN.1 hq
 ·intro h
  exact ⟨r, mem_toN.2 h, rfl⟩
theorem toL_nat {R s : Nat} {n : Int} (h : n ∈ toL R s) : ∃ r : Nat, n = r ∧ r < R ∧ s.testBit r = true := by
 unfold toL at h
 obtain ⟨q, hq, rfl⟩ := List.mem_map.1 h
 exact ⟨q, rfl, mem_toN.1 hq⟩
theorem toL_len (R s : Nat) : (toL R s).length ≤ R := by
 unfold toL
 rw [List.length_map]
 exact toN_len R s

theorem foldB_bit (r : Nat) : ∀ (l : List Int) (s : Nat), (∀ n ∈ l, 0 ≤ n) → (l.foldl (fun s n => withB s n.toNat) s).testBit r = (s.testBit r || decide ((r : Int) ∈ l))
 | [], s, _ => by simp
 | n :: l, s, h => by
  have h0 := h n List.mem_cons_self
  rw [List.foldl_cons, foldB_bit r l _ (fun m hm => h m (List.mem_cons_of_mem _ hm)), withB_bit, Bool.or_assoc]
  congr 1
  rw [← Bool.decide_or]
  apply decide_eq_decide.2
  rw [List.mem_cons]
  constructor
  ·rintro (e | e)
   ·left
    omega
   ·exact .inr e
  ·rintro (e | e)
   ·left
    omega
   ·exact .inr e
theorem foldB_lt {R : Nat} : ∀ (l : List Int) (s : Nat), (∀ n ∈ l, 0 ≤ n ∧ n < R) → s < 2 ^ R → l.foldl (fun s n => withB s n.toNat) s < 2 ^ R
 | [], s, _, hs => hs
 | n :: l, s, h, hs => by
  have h0 := h n List.mem_cons_self
  exact foldB_lt l _ (fun m hm => h m (List.mem_cons_of_mem _ hm)) (withB_lt (by omega) hs)
theorem foldB_mono : ∀ (l : List Int) (s t : Nat), Sub s t → Sub (l.foldl (fun s n => withB s n.toNat) s) (l.foldl (fun s n => withB s n.toNat) t)
 | [], s, t, h => h
 | n :: l, s, t, h => by
  refine foldB_mono l _ _ fun r hr => ?_
  rw [withB_bit, Bool.or_eq_true] at hr ⊢
  rcases hr with hr | hr
  ·exact .inl (h r hr)
  ·exact .inr hr
def thrN (x : SIns) (s : Nat) : Nat := (uses x.f0 x.f2 x.f3 x.f5).foldl (fun s n => withB s n.toNat) (if 0 ≤ defOf x.f0 x.f1 then withoutB s (defOf x.f0 x.f1).toNat else s)
theorem thrN_mono (x : SIns) (s t : Nat) (h : Sub s t) : Sub (thrN x s) (thrN x t) := by
 unfold thrN
 apply foldB_mono
 split
 ·intro r hr
  unfold withoutB at hr ⊢
  rw [Nat.testBit_and, Bool.and_eq_true] at hr ⊢
  exact ⟨h r hr.1, hr.2⟩
 ·exact h
structure RegsOk (R : Nat) (x : SIns) : Prop where
 le : R ≤ 64
 use : ∀ n ∈ uses x.f0 x.f2 x.f3 x.f5, 0 ≤ n ∧ n < R
 def_ : defOf x.f0 x.f1 < R ∧ (0 ≤ defOf x.f0 x.f1 ∨ defOf x.f0 x.f1 = -1)
theorem thrN_lt {R : Nat} {x : SIns} (O : RegsOk R x) {s : Nat} (hs : s < 2 ^ R) : thrN x s < 2 ^ R := by
 unfold thrN
 apply foldB_lt _ _ O.use
 split
 ·exact withoutB_lt hs
 ·exact hs
theorem lt64 {R s : Nat} (hR : R ≤ 64) (hs : s < 2 ^ R) : s < 2 ^ 64 := Nat.lt_of_lt_of_le hs (Nat.pow_le_pow_right (by omega) hR)
theorem thrN_bit {R : Nat} {x : SIns} (O : RegsOk R x) {s : Nat} (hs : s < 2 ^ R) (r : Nat) : (thrN x s).testBit r = ((s.testBit r && decide ((r : Int) ≠ defOf x.f0 x.f1)) || decide ((r : Int) ∈ uses x.f0 x.f2 x.f3 x.f5)) := by
 have hd := O.def_
 have hR := O.le
 unfold thrN
 rw [foldB_bit r _ _ (fun n hn => (O.use n hn).1)]
 congr 1
 split
 ·next h =>
  rw [withoutB_bit (by omega) (lt64 hR hs)]
  congr 1
  apply decide_eq_decide.2
  omega
 ·next h =>
  rw [zF (by omega), Bool.and_true]
def orN (inn : List Nat) (l : List Int) : Nat := l.foldl (fun s k => s ||| at_ inn k.toNat) 0
theorem foldO_mono {x y : List Nat} (h : LE x y) : ∀ (l : List Int) (s t : Nat), Sub s t → Sub (l.foldl (fun s k => s ||| at_ x k.toNat) s) (l.foldl (fun s k => s ||| at_ y k.toNat) t)
 | [], s, t, hs => hs
 | k :: l, s, t, hs => by
  refine foldO_mono h l _ _ fun r hr => ?_
  rw [Nat.testBit_or, Bool.or_eq_true] at hr ⊢
  rcases hr with hr | hr
  ·exact .inl (hs r hr)
  ·exact .inr (h _ r hr)
theorem foldO_lt {R : Nat} {x : List Nat} (h : ∀ b, at_ x b < 2 ^ R) : ∀ (l : List Int) (s : Nat), s < 2 ^ R → l.foldl (fun s k => s ||| at_ x k.toNat) s < 2 ^ R
 | [], s, hs => hs
 | k :: l, s, hs => foldO_lt h l _ (Nat.or_lt_two_pow hs (h _))
def aheadN (bs : List (List SIns)) (inn : List Nat) (b i : Nat) : Nat := ((bs.getD b []).drop i).foldr thrN (orN inn (succs bs (b : Int)))
theorem foldr_mono : ∀ (l : List SIns) (s t : Nat), Sub s t → Sub (l.foldr thrN s) (l.foldr thrN t)
 | [], s, t, h => h
 | x :: l, s, t, h => thrN_mono x _ _ (foldr_mono l s t h)
theorem foldr_lt {R : Nat} : ∀ (l : List SIns) (s : Nat), (∀ x ∈ l, RegsOk R x) → s < 2 ^ R → l.foldr thrN s < 2 ^ R
 | [], s, _, h => h
 | x :: l, s, hO, h => thrN_lt (hO x List.mem_cons_self) (foldr_lt l s (fun y hy => hO y (List.mem_cons_of_mem _ hy)) h)
theorem aheadN_eqs (bs : List (List SIns)) (R : Nat) (hO : ∀ b ∈ bs, ∀ x ∈ b, RegsOk R x) : Eqs bs.length R (fun x b => aheadN bs x b 0) := by
 refine ⟨fun x y h b _ => foldr_mono _ _ _ (foldO_mono h _ _ _ (fun _ h => h)), fun x h b hb => ?_⟩
 unfold aheadN
 refine foldr_lt _ _ (fun z hz => ?_) (foldO_lt h _ _ (Nat.pos_of_ne_zero (by simp)))
 have hz := List.mem_of_mem_drop hz
 rw [List.getD_eq_getElem?_getD, List.getElem?_eq_getElem hb] at hz
 exact hO _ (List.getElem_mem hb) z hz

theorem refhas_ev (l : List Int) (x : Int) (hl : l.length ≤ 4611686018427387904) : Ev (fun k => cubbyref11_has.f k l x) (decide (x ∈ l)) := by
 show Ev (fun k => cubbyref11_has.l0 k l x ((0 : Nat) : Int)) _
 refine seek (fun k i => cubbyref11_has.l0 k l x (i : Int)) l.length (fun i => rd l (i : Int) = x) true _ ?_ ?_ ?_ ?_
 ·intro i hi hb
  exact Ev.step (f := fun _ => some true) (fun k => by simp only [cubbyref11_has.l0]; rw [zC (by omega), zC (by omega), zC hb]) (Ev.now _)
 ·intro i hi hb r' hE
  exact Ev.step (fun k => by simp only [cubbyref11_has.l0]; rw [zC (by omega), zC (by omega), zD hb, wrap_nat (by omega)]) hE
 ·rintro ⟨i, hi, hb⟩
  rw [rd_get hi] at hb
  exact zF (hb ▸ List.getElem_mem hi)
 ·intro h
  rw [zG (fun hx => by
   obtain ⟨i, hi, e⟩ := List.mem_iff_getElem.1 hx
   exact h i hi ((rd_get hi).trans e))]
  exact Ev.step (f := fun _ => some false) (fun k => by simp only [cubbyref11_has.l0]; rw [zD (by omega)]) (Ev.now _)
def unionL (R : Nat) (a b : List Int) : List Int := ((List.range R).filter (fun r : Nat => decide ((r : Int) ∈ a) || decide ((r : Int) ∈ b))).map (fun n : Nat => (n : Int))
theorem refunion_ev (a b : List Int) (R : Nat) (hR : R ≤ 1000) (ha : a.length ≤ 4611686018427387904) (hb : b.length ≤ 4611686018427387904) : Ev (fun k => cubbyref11_union.f k a b (R : Int)) (unionL R a b) := by
 have h : ∀ (d r : Nat) (out : List Int), r + d = R → out.length ≤ r → Ev (fun k => cubbyref11_union.l0 k a b (R : Int) out (r : Int)) (out ++ ((List.range' r d).filter (fun r : Nat => decide ((r : Int) ∈ a) || decide ((r : Int) ∈ b))).map (fun n : Nat => (n : Int))) := by
  intro d
  induction d with
  | zero =>
   intro r out hr ho
   rw [List.range'_zero, List.filter_nil, List.map_nil, List.append_nil]
   exact Ev.step (f := fun _ => some out) (fun k => by simp only [cubbyref11_union.l0]; rw [zD (by omega)]) (Ev.now _)
  | succ d ih =>
   intro r out hr ho
   rw [List.range'_succ]
   refine Ev.step (fun k => by simp only [cubbyref11_union.l0]; rw [zC (by omega)]) (Ev.bind (refhas_ev a (r : Int) ha) ?_)
   by_cases c : (r : Int) ∈ a
   ·rw [List.filter_cons_of_pos (by simp [c]), List.map_cons]
    have := ih (r + 1) (out ++ [(r : Int)]) (by omega) (by simp; omega)
    rw [List.append_assoc, List.singleton_append] at this
    exact Ev.congr (fun k => by rw [zF c, zC rfl, zC (by omega), wrap_nat (by omega)]) this
   ·refine Ev.congr (fun k => by rw [zG c, zD Bool.false_ne_true]) (Ev.bind (refhas_ev b (r : Int) hb) ?_)
    by_cases c1 : (r : Int) ∈ b
    ·rw [List.filter_cons_of_pos (by simp [c1]), List.map_cons]
     have := ih (r + 1) (out ++ [(r : Int)]) (by omega) (by simp; omega)
     rw [List.append_assoc, List.singleton_append] at this
     exact Ev.congr (fun k => by rw [zF c1, zC rfl, zC (by omega), wrap_nat (by omega)]) this
    ·rw [List.filter_cons_of_neg (by simp [c, c1])]
     exact Ev.congr (fun k => by rw [zG c1, zD Bool.false_ne_true, wrap_nat (by omega)]) (ih (r + 1) out (by omega) (by omega))
 have := h R 0 [] (by omega) (by simp)
 rw [List.nil_append, ← List.range_eq_range'] at this
 exact this
theorem unionL_toL {R s t : Nat} : unionL R (toL R s) (toL R t) = toL R (s ||| t) := by
 unfold unionL
 show _ = (toN R (s ||| t)).map _
 unfold toN
 congr 1
 apply List.filter_congr
 intro r hr
 have hr := List.mem_range.1 hr
 rw [Nat.testBit_or, Bool.eq_iff_iff, Bool.or_eq_true, Bool.or_eq_true, decide_eq_true_iff, decide_eq_true_iff, mem_toL, mem_toL]
 simp [hr]
theorem refthrough_ev {R : Nat} {x : SIns} (O : RegsOk R x) (hx : x.f5.length ≤ 17592186043904) {s : Nat} (hs : s < 2 ^ R) : Ev (fun k => cubbyref11_through.f k x.f0 x.f1 x.f2 x.f3 x.f4 x.f5 (toL R s) (R : Int)) (toL R (thrN x s)) := by
 have hR := O.le
 have hlen := toL_len R s
 have h : ∀ (d j : Nat) (out : List Int), j + d = (toL R s).length → out.length ≤ j → Ev (fun k => cubbyref11_through.l0 k (toL R s) (R : Int) out (j : Int) x.f0 x.f1 x.f2 x.f3 x.f4 x.f5) (unionL R (out ++ ((toL R s).drop j).filter (fun n => decide (n ≠ defOf x.f0 x.f1))) (uses x.f0 x.f2 x.f3 x.f5)) := by
  intro d
  induction d with
  | zero =>
   intro j out hj ho
   rw [List.drop_eq_nil_of_le (by omega), List.filter_nil, List.append_nil]
   refine Ev.step (fun k => by simp only [cubbyref11_through.l0]; rw [zD (by omega)]) (Ev.bind (refuses_ev x.f0 x.f1 x.f2 x.f3 x.f4 x.f5 (by omega)) ?_)
   refine Ev.bind (refunion_ev out _ R (by omega) (by omega) (uses_short (by omega))) (Ev.now _)
  | succ d ih =>
   intro j out hj ho
   have hlt : j < (toL R s).length := by omega
   rw [drop_cons hlt]
   by_cases c : (toL R s)[j] = defOf x.f0 x.f1
   ·rw [List.filter_cons_of_neg (by simp [c])]
    exact Ev.step (fun k => by simp only [cubbyref11_through.l0]; rw [zC (by omega), zC (by omega), refdef_eq, zJ, rd_get hlt, zC c, wrap_nat (by omega)]) (ih (j + 1) out (by omega) (by omega))
   ·rw [List.filter_cons_of_pos (by simp [c])]
    have := ih (j + 1) (out ++ [(toL R s)[j]]) (by omega) (by simp; omega)
    rw [List.append_assoc, List.singleton_append] at this
    exact Ev.step (fun k => by simp only [cubbyref11_through.l0]; rw [zC (by omega), zC (by omega), refdef_eq, zJ, rd_get hlt, zD c, zC (by omega), wrap_nat (by omega)]) this
 have := h (toL R s).length 0 [] (by omega) (by simp)
 rw [List.nil_append, List.drop_zero] at this
 have e : unionL R ((toL R s).filter (fun n => decide (n ≠ defOf x.f0 x.f1))) (uses x.f0 x.f2 x.f3 x.f5) = toL R (thrN x s) := by
  unfold unionL
  show _ = (toN R (thrN x s)).map _
  unfold toN
  congr 1
  apply List.filter_congr
  intro r hr
  have hr := List.mem_range.1 hr
  rw [thrN_bit O hs, Bool.eq_iff_iff, Bool.or_eq_true, Bool.or_eq_true, Bool.and_eq_true, decide_eq_true_iff, decide_eq_true_iff, decide_eq_true_iff, List.mem_filter, mem_toL, decide_eq_true_iff]
  simp [hr]
 rw [e] at this
 exact this
theorem toL_zero (R : Nat) : toL R 0 = [] := by
 unfold toL
 rw [toN_zero]
 rfl
theorem rdL_map {R : Nat} {inn : List Nat} {b : Int} (h0 : 0 ≤ b) (h : b < inn.length) : rd_LInt (inn.map (toL R)) b = toL R (at_ inn b.toNat) := by
 show (inn.map (toL R)).getD b.toNat [] = _
 unfold at_
 rw [List.getD_eq_getElem?_getD, List.getD_eq_getElem?_getD, List.getElem?_map, List.getElem?_eq_getElem (by omega : b.toNat < inn.length)]
 rfl
structure BlocksOk (R : Nat) (bs : List (List SIns)) : Prop where
 le : R ≤ 64
 len : bs.length ≤ 1000
 row : ∀ b ∈ bs, b.length ≤ 1000
 regs : ∀ b ∈ bs, ∀ x ∈ b, RegsOk R x
 args : ∀ b ∈ bs, ∀ x ∈ b, x.f5.length ≤ 17592186043904
theorem BlocksOk.small {R : Nat} {bs : List (List SIns)} (h : BlocksOk R bs) : Small bs := ⟨by have := h.len; omega, fun b hb => by have := h.row b hb; omega⟩
theorem getD_get {bs : List (List SIns)} {b : Nat} (h : b < bs.length) : bs.getD b [] = bs[b] := by
 rw [List.getD_eq_getElem?_getD, List.getElem?_eq_getElem h]
 rfl
theorem rd_row {bs : List (List SIns)} {b : Nat} (h : b < bs.length) : rd_LIns bs (b : Int) = bs.getD b [] := rfl
theorem rd_ins {l : List SIns} {j : Nat} (h : j < l.length) : rd_TIns l (j : Int) = l[j] := by
 show l.getD j zIns = _
 rw [List.getD_eq_getElem?_getD, List.getElem?_eq_getElem h]
 rfl
theorem row_fold {row : List SIns} {i m : Nat} (hi : i ≤ m) (hm : m < row.length) (s : Nat) : ((row.take (m + 1)).drop i).foldr thrN s = ((row.take m).drop i).foldr thrN (thrN row[m] s) := by
 rw [List.take_succ_eq_append_getElem hm, List.drop_append_of_le_length (by rw [List.length_take]; omega), List.foldr_append]
 rfl
section
variable (pn : ByteArray) (pp : Int) {R : Nat} {bs : List (List SIns)} (O : BlocksOk R bs) {inn : List Nat} (hlen : inn.length = bs.length)
include O hlen
theorem refbehind_ev (b : Int) : Ev (fun k => cubbyref11_behind.f k pn pp (R : Int) bs (inn.map (toL R)) b) (toL R (orN inn (succs bs b))) := by
 have hle := O.le
 refine Ev.bind (refsuccs_ev bs b O.small) ?_
 have hm := succs_mem bs b
 have hl := succs_len bs b
 generalize succs bs b = l at *
 have h : ∀ (d j s : Nat), j + d = l.length → Ev (fun k => cubbyref11_behind.l0 k (inn.map (toL R)) (toL R s) l (j : Int) pn pp (R : Int) bs) (toL R ((l.drop j).foldl (fun s k => s ||| at_ inn k.toNat) s)) := by
  intro d
  induction d with
  | zero =>
   intro j s hj
   rw [List.drop_eq_nil_of_le (by omega)]
   exact Ev.step (f := fun _ => some (toL R s)) (fun k => by simp only [cubbyref11_behind.l0]; rw [zD (by omega)]) (Ev.now _)
  | succ d ih =>
   intro j s hj
   have hjl : j < l.length := by omega
   have h1 := hm _ (List.getElem_mem hjl)
   rw [drop_cons hjl, List.foldl_cons]
   have hu := refunion_ev (toL R s) (toL R (at_ inn (l[j]).toNat)) R (by omega) (by have := toL_len R s; omega) (by have := toL_len R (at_ inn (l[j]).toNat); omega)
   rw [unionL_toL] at hu
   refine Ev.step (fun k => by simp only [cubbyref11_behind.l0]; rw [zC (by omega), zC (by omega), rd_get hjl, zC (by omega), zC (by rw [List.length_map]; omega), rdL_map (by omega) (by omega)]) (Ev.bind hu ?_)
   exact Ev.congr (fun k => by rw [wrap_nat (by omega)]) (ih (j + 1) _ (by omega))
 have := h l.length 0 0 (by omega)
 rw [toL_zero, List.drop_zero] at this
 exact this
end
theorem or_lt {R : Nat} (bs : List (List SIns)) {inn : List Nat} (hlt : ∀ b, at_ inn b < 2 ^ R) (b : Int) : orN inn (succs bs b) < 2 ^ R := foldO_lt hlt _ _ (Nat.pos_of_ne_zero (by simp))
section
variable (pn : ByteArray) (pp : Int) {R : Nat} {bs : List (List SIns)} (O : BlocksOk R bs) {inn : List Nat} (hlen : inn.length = bs.length) (hlt : ∀ b, at_ inn b < 2 ^ R)
include O hlen hlt
theorem refahead_ev {b i : Nat} (hb : b < bs.length) (hi : i ≤ (bs.getD b []).length) : Ev (fun k => cubbyref11_ahead.f k pn pp (R : Int) bs (inn.map (toL R)) (b : Int) (i : Int)) (toL R (aheadN bs inn b i)) := by
 have hbl := O.len
 refine Ev.bind (refbehind_ev pn pp O hlen (b : Int)) ?_
 have hs0 := or_lt bs hlt (b : Int)
 unfold aheadN
 generalize orN inn (succs bs (b : Int)) = s0 at *
 have hrow := getD_get hb
 have hr := O.row _ (List.getElem_mem hb)
 have hregs := O.regs _ (List.getElem_mem hb)
 have hargs := O.args _ (List.getElem_mem hb)
 rw [← hrow] at hr hregs hargs
 generalize hg : bs.getD b [] = row at *
 have h : ∀ (d m s : Nat), i + d = m → m ≤ row.length → s < 2 ^ R → Ev (fun k => cubbyref11_ahead.l0 k (b : Int) (i : Int) (toL R s) ((m : Int) - 1) pn pp (R : Int) bs) (toL R (((row.take m).drop i).foldr thrN s)) := by
  intro d
  induction d with
  | zero =>
   intro m s hm hml hs
   rw [List.drop_eq_nil_of_le (by rw [List.length_take]; omega)]
   exact Ev.step (f := fun _ => some (toL R s)) (fun k => by simp only [cubbyref11_ahead.l0]; rw [zD (by omega)]) (Ev.now _)
  | succ d ih =>
   intro m s hm hml hs
   obtain ⟨m', rfl⟩ : ∃ m', m = m' + 1 := ⟨m - 1, by omega⟩
   have hm' : m' < row.length := by omega
   rw [row_fold (by omega) hm']
   have hx := hregs _ (List.getElem_mem hm')
   rw [show (((m' + 1 : Nat) : Int) - 1) = (m' : Int) by omega]
   refine Ev.step (fun k => by simp only [cubbyref11_ahead.l0]; rw [zC (by omega), zC (by omega), zC (by omega), zC (by omega), rd_row hb, hg, zC (by omega), rd_ins hm']) (Ev.bind (refthrough_ev hx (hargs _ (List.getElem_mem hm')) hs) ?_)
   exact Ev.congr (fun k => by rw [wrap_id (by omega) (by omega)]) (ih m' _ (by omega) (by omega) (thrN_lt hx hs))
 have := h (row.length - i) row.length s0 (by omega) (Nat.le_refl _) hs0
 rw [List.take_length] at this
 exact Ev.congr (fun k => by rw [zC (by omega), zC (by omega), rd_row hb, hg, wrap_id (by omega) (by omega)]) this
end
end Go.Proofs.YtpkimbkjjmbmcaaDoor.PlainLive
namespace Go.Proofs.YtpkimbkjjmbmcaaDoor.PlainOne
open Go Go.RowKit Go.Proofs.YtpkimbkjjmbmcaaDoorW.PrintWords Go.Proofs.YtpkimbkjjmbmcaaDoorW.PrintMore Go.Proofs.YtpkimbkjjmbmcaaDoor.Q Go.Proofs.YtpkimbkjjmbmcaaDoor.Plain Go.Proofs.YtpkimbkjjmbmcaaDoor.PlainIr Go.Proofs.YtpkimbkjjmbmcaaDoor.PlainName
set_option linter.unusedVariables false
set_option linter.unusedSimpArgs false
theorem lt3 {i : Nat} (h : i < 3) : i = 0 ∨ i = 1 ∨ i = 2 := by omega
section
variable (pn : ByteArray) (pp regs : Int) (bs : List (List SIns)) (op d a b : Int) (nm : ByteArray) (args : List Int)
theorem o5 (B : Bool) (hb : op = 11 ∨ (nm.toList = ([] : List UInt8) ∧ args.length = 0)) : Ev (fun k => ir_one.j5 k B op d a b nm args) (if B = true then 70 else e5 op args) := by
 refine Ev.step (f := fun _ => some _) (fun k => ?_) (Ev.now _)
 simp only [ir_one.j5]
 unfold e5
 repeat' split
 all_goals first | rfl | omega
theorem o3 (hb : op = 11 ∨ (nm.toList = ([] : List UInt8) ∧ args.length = 0)) : Ev (fun k => ir_one.l3 k (targets7 op d a b) ((targets7 op d a b).length : Int) 0 pn pp regs bs op d a b nm args) (e3 (bs.length : Int) op d a b nm args) := by
 have hl := targets_short op d a b
 unfold e3
 refine seek (fun k i => ir_one.l3 k (targets7 op d a b) ((targets7 op d a b).length : Int) (i : Int) pn pp regs bs op d a b nm args) (targets7 op d a b).length (fun i => oddReg (bs.length : Int) (rd (targets7 op d a b) (i : Int)) = true) 74 _ ?_ ?_ ?_ ?_
 ·intro i hi hx
  rw [odd_iff] at hx
  refine Ev.step (f := fun _ => some 74) (fun k => ?_) (Ev.now _)
  simp only [ir_one.l3]
  rw [zC (by omega), zC (by omega), zC (by omega)]
  split
  ·rfl
  ·rw [zC (by omega)]
 ·intro i hi hx r' hE
  rw [odd_iff] at hx
  refine Ev.step (fun k => ?_) hE
  simp only [ir_one.l3]
  rw [zC (by omega), zC (by omega), zC (by omega), zD (by omega), zD (by omega), wrap_nat (by omega)]
 ·intro h
  rw [zC (any_odd.2 h)]
 ·intro h
  rw [zD (fun x => by
   obtain ⟨i, hi, hx⟩ := any_odd.1 x
   exact h i hi hx)]
  unfold e4
  by_cases c : op = 11
  ·refine Ev.step (fun k => by simp only [ir_one.l3]; rw [zD (by omega), zC c, name_eq, zJ]) ?_
   have := o5 op d a b nm args (!nameOk nm) hb
   cases hn : nameOk nm
   ·rw [hn] at this
    rw [zC ⟨c, rfl⟩]
    exact this
   ·rw [hn] at this
    rw [zD (by simp)]
    exact this
  ·rw [zD (fun x => c x.1)]
   exact Ev.step (fun k => by simp only [ir_one.l3]; rw [zD (by omega), zD c]) (o5 op d a b nm args false hb)
theorem o2 (s : ByteArray) (S : Sh op s) (hb : op = 11 ∨ (nm.toList = ([] : List UInt8) ∧ args.length = 0)) : Ev (fun k => ir_one.l2 k s [d, a, b] (([d, a, b] : List Int).length : Int) 0 pn pp regs bs op d a b nm args) (e2 (bs.length : Int) op d a b nm args) := by
 have hs := S.size
 have hl : ([d, a, b] : List Int).length = 3 := rfl
 have h0 := S.n0
 have h1 := S.n1
 have h2 := S.n2
 unfold e2
 refine seek (fun k i => ir_one.l2 k s [d, a, b] (([d, a, b] : List Int).length : Int) (i : Int) pn pp regs bs op d a b nm args) 3 (fun i => bt s (i : Int) = 110 ∧ (rd [d, a, b] (i : Int) < 0 ∨ rd [d, a, b] (i : Int) ≥ 65536)) 81 _ ?_ ?_ ?_ ?_
 ·rintro i hi ⟨hx, hy⟩
  refine Ev.step (f := fun _ => some 81) (fun k => ?_) (Ev.now _)
  simp only [ir_one.l2]
  rw [zC (by omega), zC (by omega), zC (by omega), zC (by omega), zC hx]
  split
  ·rfl
  ·rw [zC (by omega)]
 ·intro i hi hx r' hE
  refine Ev.step (fun k => ?_) hE
  simp only [ir_one.l2]
  rw [zC (by omega), zC (by omega), zC (by omega), zC (by omega), wrap_nat (by omega)]
  repeat' split
  all_goals first
   | rfl
   | (exfalso; apply hx; constructor <;> first | assumption | omega)
 ·rintro ⟨i, hi, hx, hy⟩
  rcases lt3 hi with rfl | rfl | rfl
  ·exact absurd hx h0
  ·exact zC ⟨h1.1 hx, hy⟩
  ·exact absurd hx h2
 ·intro h
  rw [zD (fun x => h 1 (by omega) ⟨h1.2 x.1, x.2⟩)]
  refine Ev.step (fun k => by simp only [ir_one.l2]; rw [zD (by omega), targets_eq, zJ]) (o3 pn pp regs bs op d a b nm args hb)
theorem o1 (s : ByteArray) (S : Sh op s) (hop : 1 ≤ op ∧ op ≤ 14) (hb : op = 11 ∨ (nm.toList = ([] : List UInt8) ∧ args.length = 0)) : Ev (fun k => ir_one.l1 k s [d, a, b] [d, a, b] (([d, a, b] : List Int).length : Int) 0 pn pp regs bs op d a b nm args) (e1 regs (bs.length : Int) op d a b nm args) := by
 have hs := S.size
 have hl : ([d, a, b] : List Int).length = 3 := rfl
 have h0 := S.b0
 have h1 := S.b1
 have h2 := S.b2
 have hargs : ¬ op = 11 → args = [] := fun h => by
  rcases hb with hb | hb
  ·exact absurd hb h
  ·exact List.length_eq_zero_iff.1 hb.2
 unfold e1
 have hC : ((hasD op ∧ oddReg regs d = true) ∨ (uses op a b args).any (oddReg regs) = true) ↔ ((∃ i : Nat, i < 3 ∧ bt s (i : Int) = 114 ∧ oddReg regs (rd [d, a, b] (i : Int)) = true) ∨ args.any (oddReg regs) = true) := by
  constructor
  ·rintro (⟨x, y⟩ | x)
   ·exact .inl ⟨0, by omega, h0.2 x, y⟩
   ·by_cases c : op = 11
    ·right
     unfold uses at x
     rwa [zD (by omega), zD (by omega), zC c] at x
    ·left
     unfold uses at x
     split at x
     ·simp at x
      exact ⟨1, by omega, h1.2 (by omega), x⟩
     ·split at x
      ·simp at x
       rcases x with x | x
       ·exact ⟨1, by omega, h1.2 (by omega), x⟩
       ·exact ⟨2, by omega, h2.2 (by omega), x⟩
      ·exact absurd x (by simp)
  ·rintro (⟨i, hi, hx, hy⟩ | x)
   ·rcases lt3 hi with rfl | rfl | rfl
    ·exact .inl ⟨h0.1 hx, hy⟩
    ·right
     have := h1.1 hx
     have hy' : oddReg regs a = true := hy
     unfold uses
     split
     ·simp [hy']
     ·split
      ·simp [hy']
      ·omega
    ·right
     have := h2.1 hx
     have hy' : oddReg regs b = true := hy
     unfold uses
     rw [zD (by omega), zC (by omega)]
     simp [hy']
   ·by_cases c : op = 11
    ·right
     unfold uses
     rw [zD (by omega), zD (by omega), zC c]
     exact x
    ·rw [hargs c] at x
     exact absurd x (by simp)
 refine seek (fun k i => ir_one.l1 k s [d, a, b] [d, a, b] (([d, a, b] : List Int).length : Int) (i : Int) pn pp regs bs op d a b nm args) 3 (fun i => bt s (i : Int) = 114 ∧ oddReg regs (rd [d, a, b] (i : Int)) = true) 73 _ ?_ ?_ ?_ ?_
 ·rintro i hi ⟨hx, hy⟩
  refine Ev.step (f := fun _ => some 73) (fun k => ?_) (Ev.now _)
  simp only [ir_one.l1]
  rw [zC (by omega), zC (by omega), zC (by omega), zC (by omega), zC hx]
  simp only [ir_one_1.f, zJ, hy, if_true]
 ·intro i hi hx r' hE
  refine Ev.step (fun k => ?_) hE
  simp only [ir_one.l1]
  rw [zC (by omega), zC (by omega), zC (by omega), zC (by omega), wrap_nat (by omega)]
  by_cases c : bt s (i : Int) = 114
  ·rw [zC c]
   simp only [ir_one_1.f, zJ]
   rw [zD (fun y => hx ⟨c, y⟩)]
  ·rw [zD c]
 ·rintro ⟨i, hi, hx⟩
  exact zC (hC.2 (.inl ⟨i, hi, hx⟩))
 ·intro h
  by_cases c : args.any (oddReg regs) = true
  ·rw [zC (hC.2 (.inr c))]
   exact Ev.step (f := fun _ => some 73) (fun k => by simp only [ir_one.l1]; rw [zD (by omega)]; simp only [slices_ContainsFunc_int_int.f, zJ]; rw [zC c]) (Ev.now _)
  ·rw [zD (fun x => by
    rcases hC.1 x with ⟨i, hi, hy⟩ | y
    ·exact h i hi hy
    ·exact c y)]
   exact Ev.step (fun k => by simp only [ir_one.l1]; rw [zD (by omega)]; simp only [slices_ContainsFunc_int_int.f, zJ]; rw [zD c]) (o2 pn pp regs bs op d a b nm args s S hb)
theorem o0 (s : ByteArray) (S : Sh op s) (hop : 1 ≤ op ∧ op ≤ 14) (hb : op = 11 ∨ (nm.toList = ([] : List UInt8) ∧ args.length = 0)) : Ev (fun k => ir_one.l0 k s [d, a, b] [d, a, b] (([d, a, b] : List Int).length : Int) 0 pn pp regs bs op d a b nm args) (if bareP op d a b nm args then e1 regs (bs.length : Int) op d a b nm args else 72) := by
 have hs := S.size
 have hl : ([d, a, b] : List Int).length = 3 := rfl
 have h0 := S.f0
 have h1 := S.f1
 have h2 := S.f2
 refine seek (fun k i => ir_one.l0 k s [d, a, b] [d, a, b] (([d, a, b] : List Int).length : Int) (i : Int) pn pp regs bs op d a b nm args) 3 (fun i => bt s (i : Int) = 32 ∧ ¬ rd [d, a, b] (i : Int) = 0) 72 _ ?_ ?_ ?_ ?_
 ·rintro i hi ⟨hx, hy⟩
  refine Ev.step (f := fun _ => some 72) (fun k => ?_) (Ev.now _)
  simp only [ir_one.l0]
  rw [zC (by omega), zC (by omega), zC (by omega), zC (by omega), zC hx, zD hy]
 ·intro i hi hx r' hE
  refine Ev.step (fun k => ?_) hE
  simp only [ir_one.l0]
  rw [zC (by omega), zC (by omega), zC (by omega), zC (by omega), wrap_nat (by omega)]
  by_cases c : bt s (i : Int) = 32
  ·rw [zC c, zC (Decidable.byContradiction fun y => hx ⟨c, y⟩)]
  ·rw [zD c]
 ·rintro ⟨i, hi, hx, hy⟩
  refine zD (fun hB => ?_)
  obtain ⟨_, f0, f1, f2⟩ := hB
  rcases lt3 hi with rfl | rfl | rfl
  ·exact hy (f0 (h0.1 hx))
  ·exact hy (f1 (h1.1 hx))
  ·exact hy (f2 (h2.1 hx))
 ·intro h
  rw [zC ⟨hb, fun x => Decidable.byContradiction fun y => h 0 (by omega) ⟨h0.2 x, y⟩, fun x => Decidable.byContradiction fun y => h 1 (by omega) ⟨h1.2 x, y⟩, fun x => Decidable.byContradiction fun y => h 2 (by omega) ⟨h2.2 x, y⟩⟩]
  exact Ev.step (fun k => by simp only [ir_one.l0]; rw [zD (by omega)]) (o1 pn pp regs bs op d a b nm args s S hop hb)
theorem one_ev (last : Bool) : Ev (fun k => ir_one.f k pn pp regs bs op d a b nm args last) (oneE regs (bs.length : Int) op d a b nm args last) := by
 unfold oneE
 by_cases hop : 1 ≤ op ∧ op ≤ 14
 ·obtain ⟨s, hs, S⟩ := shape_some hop
  have hyes : Ev (fun k => ir_one.j0 k s true pn pp regs bs op d a b nm args) 72 := Ev.step (f := fun _ => some 72) (fun k => by simp only [ir_one.j0]; rw [zC trivial]) (Ev.now _)
  by_cases c2 : lastOp op = last
  ·have hgo : (op = 11 ∨ (nm.toList = ([] : List UInt8) ∧ args.length = 0)) → Ev (fun k => ir_one.j0 k s false pn pp regs bs op d a b nm args) (if (1 ≤ op ∧ op ≤ 14) ∧ lastOp op = last ∧ bareP op d a b nm args then e1 regs (bs.length : Int) op d a b nm args else 72) := fun hb => by
    refine Ev.step (fun k => by simp only [ir_one.j0]; rw [zD Bool.false_ne_true, zJ]) ?_
    have := o0 pn pp regs bs op d a b nm args s S hop hb
    by_cases c3 : bareP op d a b nm args
    ·rw [zC ⟨hop, c2, c3⟩]
     rw [zC c3] at this
     exact this
    ·rw [zD (fun x => c3 x.2.2)]
     rw [zD c3] at this
     exact this
   by_cases c : op = 11
   ·exact Ev.congr (fun k => by unfold ir_one.f; rw [hs, zJ, zD S.ne, last_eq, zJ, zD (by simp [c2]), zC c]) (hgo (.inl c))
   ·by_cases c1 : nm.toList = ([] : List UInt8)
    ·refine Ev.congr (fun k => by unfold ir_one.f; rw [hs, zJ, zD S.ne, last_eq, zJ, zD (by simp [c2]), zD c, zC c1]) ?_
     by_cases c4 : (args.length : Int) > 0
     ·rw [zF c4, zD (fun x => by have := x.2.2.1; omega)]
      exact hyes
     ·rw [zG c4]
      exact hgo (.inr ⟨c1, by omega⟩)
    ·rw [zD (fun x => by
      rcases x.2.2.1 with y | y
      ·exact c y
      ·exact c1 y.1)]
     exact Ev.congr (fun k => by unfold ir_one.f; rw [hs, zJ, zD S.ne, last_eq, zJ, zD (by simp [c2]), zD c, zD c1]) hyes
  ·rw [zD (fun x => c2 x.2.1)]
   exact Ev.congr (fun k => by unfold ir_one.f; rw [hs, zJ, zD S.ne, last_eq, zJ, zC (by simpa using c2)]) hyes
 ·rw [zD (fun x => hop x.1)]
  refine Ev.congr (fun k => by unfold ir_one.f; rw [shape_none hop, zJ, zC nil_toList]) ?_
  exact Ev.step (f := fun _ => some 72) (fun k => by simp only [ir_one.j0]; rw [zC trivial]) (Ev.now _)
end
end Go.Proofs.YtpkimbkjjmbmcaaDoor.PlainOne
namespace Go.Proofs.YtpkimbkjjmbmcaaDoor.PlainHeavy
open Go Go.RowKit Go.Proofs.YtpkimbkjjmbmcaaDoorW.PrintWords Go.Proofs.YtpkimbkjjmbmcaaDoorW.PrintMore Go.Proofs.YtpkimbkjjmbmcaaDoor.Q Go.Proofs.YtpkimbkjjmbmcaaDoor.Plain
set_option linter.unusedVariables false
set_option linter.unusedSimpArgs false
theorem rdL_get {l : List (List SIns)} {j : Nat} (h : j < l.length) : rd_LIns l (j : Int) = l[j] := by
 show l.getD j [] = _
 rw [List.getD_eq_getElem?_getD, List.getElem?_eq_getElem h]
 rfl
theorem rdT_get {l : List SIns} {j : Nat} (h : j < l.length) : rd_TIns l (j : Int) = l[j] := by
 show l.getD j zIns = _
 rw [List.getD_eq_getElem?_getD, List.getElem?_eq_getElem h]
 rfl
structure FairB (x : List (List SIns)) : Prop where
 len : x.length ≤ 1000000000000000
 row : ∀ b ∈ x, b.length ≤ 1000000000000000
 ins : ∀ b ∈ x, ∀ y ∈ b, y.f5.length ≤ 17592186043904
end Go.Proofs.YtpkimbkjjmbmcaaDoor.PlainHeavy
namespace Go.Proofs.YtpkimbkjjmbmcaaDoor.PlainCheck
open Go Go.RowKit Go.Proofs.YtpkimbkjjmbmcaaDoorW.PrintWords Go.Proofs.YtpkimbkjjmbmcaaDoorW.PrintMore Go.Proofs.YtpkimbkjjmbmcaaDoor.Q Go.Proofs.YtpkimbkjjmbmcaaDoor.Plain Go.Proofs.YtpkimbkjjmbmcaaDoor.PlainName Go.Proofs.YtpkimbkjjmbmcaaDoor.PlainOne Go.Proofs.YtpkimbkjjmbmcaaDoor.PlainHeavy
set_option linter.unusedVariables false
set_option linter.unusedSimpArgs false
def insE (regs nb : Int) (x : SIns) (last : Bool) : Int := oneE regs nb x.f0 x.f1 x.f2 x.f3 x.f4 x.f5 last
def rowE (regs nb : Int) : List SIns → Int
 | [] => 0
 | x :: xs => if insE regs nb x xs.isEmpty = 0 then rowE regs nb xs else insE regs nb x xs.isEmpty
def allE (regs nb : Int) : List (List SIns) → Int
 | [] => 0
 | b :: bs => if rowE regs nb b = 0 then allE regs nb bs else rowE regs nb b
def total : List (List SIns) → Nat
 | [] => 0
 | b :: bs => b.length + total bs
def fits (left : Int) (l : List (List SIns)) : Bool := decide ((∀ b ∈ l, b.length ≠ 0) ∧ (total l : Int) ≤ left)
def shapeP (params regs : Int) (bs : List (List SIns)) : Prop := 0 ≤ params ∧ params ≤ 4 ∧ params ≤ regs ∧ regs ≤ 64 ∧ 1 ≤ bs.length ∧ bs.length ≤ 32 ∧ fits 200 bs = true
instance (params regs : Int) (bs : List (List SIns)) : Decidable (shapeP params regs bs) := by unfold shapeP; infer_instance
def checkE (nm : ByteArray) (params regs : Int) (bs : List (List SIns)) : Int := if nameOk nm = true then (if shapeP params regs bs then allE regs (bs.length : Int) bs else 71) else 70
theorem fits_nil {left : Int} (h : 0 ≤ left) : fits left [] = true := by
 unfold fits
 apply zF
 exact ⟨by simp, by unfold total; omega⟩
theorem fits_cons (left : Int) (b : List SIns) (bs : List (List SIns)) : fits left (b :: bs) = (decide (b.length ≠ 0) && fits (left - b.length) bs) := by
 unfold fits
 rw [← Bool.decide_and]
 apply decide_eq_decide.2
 simp only [List.mem_cons, forall_eq_or_imp, total]
 constructor
 ·rintro ⟨⟨h1, h2⟩, h3⟩
  exact ⟨h1, h2, by omega⟩
 ·rintro ⟨h1, h2, h3⟩
  exact ⟨⟨h1, h2⟩, by omega⟩
theorem fits_neg {left : Int} {bs : List (List SIns)} (h : left < 0) : fits left bs = false := by
 unfold fits
 apply zG
 rintro ⟨_, h2⟩
 omega
theorem last_eq' {b : List SIns} {j : Nat} (hj : j < b.length) (hl : b.length ≤ 4611686018427387904) : ((j : Int) == wrap64 ((b.length : Int) - 1)) = (b.drop (j + 1)).isEmpty := by
 rw [wrap_pred (by omega) hl]
 by_cases c : j + 1 = b.length
 ·rw [List.drop_eq_nil_of_le (by omega)]
  simp
  omega
 ·have : b.drop (j + 1) ≠ [] := fun h => by
   have := congrArg List.length h
   rw [List.length_drop] at this
   simp at this
   omega
  rw [List.isEmpty_eq_false_iff.2 this]
  simp
  omega

section
variable (pn : ByteArray) (pp rg : Int) (bs : List (List SIns)) (hF : FairB bs)
include hF
theorem refshape_loop : ∀ (d i : Nat), bs.length - i = d → i ≤ bs.length → ∀ s : Int, 0 ≤ s → s ≤ 1000 * i → Ev (fun k => cubbyref07_Shape.l0 k bs s (i : Int)) (fits (200 - s) (bs.drop i)) := by
 have hlen := hF.len
 intro d
 induction d with
 | zero =>
  intro i hd hi s h0 hs
  rw [List.drop_eq_nil_of_le (by omega)]
  refine Ev.step (f := fun _ => some _) (fun k => by simp only [cubbyref07_Shape.l0]; rw [zD (by omega)]) ?_
  have : fits (200 - s) [] = decide (s ≤ 200) := by
   unfold fits total
   apply decide_eq_decide.2
   constructor
   ·rintro ⟨_, h⟩
    omega
   ·intro h
    exact ⟨by simp, by omega⟩
  rw [this]
  exact Ev.now _
 | succ d ih =>
  intro i hd hi s h0 hs
  have hlt : i < bs.length := by omega
  have hr := hF.row _ (List.getElem_mem hlt)
  rw [drop_cons hlt, fits_cons]
  by_cases c : ((bs[i]).length : Int) = 0
  ·rw [zG (by omega), Bool.false_and]
   exact Ev.step (f := fun _ => some false) (fun k => by simp only [cubbyref07_Shape.l0]; rw [zC (by omega), zC (by omega), rdL_get hlt, zC c]) (Ev.now _)
  ·by_cases c1 : ((bs[i]).length : Int) > 200
   ·rw [fits_neg (by omega), Bool.and_false]
    exact Ev.step (f := fun _ => some false) (fun k => by simp only [cubbyref07_Shape.l0]; rw [zC (by omega), zC (by omega), rdL_get hlt, zD c, zC c1]) (Ev.now _)
   ·rw [zF (by omega), Bool.true_and]
    have := ih (i + 1) (by omega) (by omega) (s + (bs[i]).length) (by omega) (by omega)
    rw [show 200 - s - ((bs[i]).length : Int) = 200 - (s + (bs[i]).length) by omega]
    refine Ev.step (fun k => ?_) this
    simp only [cubbyref07_Shape.l0]
    rw [zC (by omega), zC (by omega), rdL_get hlt, zD c, zD c1, wrap_nat (by omega), wrap_id (by omega) (by omega)]
theorem refshape_ev : Ev (fun k => cubbyref07_Shape.f k pp rg bs) (decide (shapeP pp rg bs)) := by
 have hyes : ¬ shapeP pp rg bs → Ev (fun k => cubbyref07_Shape.j0 k bs true) (decide (shapeP pp rg bs)) := fun h => by
  rw [zG h]
  exact Ev.step (f := fun _ => some false) (fun k => by simp only [cubbyref07_Shape.j0]; rw [zC trivial]) (Ev.now _)
 by_cases c0 : pp < 0
 ·exact Ev.congr (fun k => by unfold cubbyref07_Shape.f; rw [zC c0]) (hyes (fun h => by have := h.1; omega))
 by_cases c1 : pp > 4
 ·exact Ev.congr (fun k => by unfold cubbyref07_Shape.f; rw [zD c0, zC c1]) (hyes (fun h => by have := h.2.1; omega))
 by_cases c2 : rg < pp
 ·exact Ev.congr (fun k => by unfold cubbyref07_Shape.f; rw [zD c0, zD c1, zC c2]) (hyes (fun h => by have := h.2.2.1; omega))
 by_cases c3 : rg > 64
 ·exact Ev.congr (fun k => by unfold cubbyref07_Shape.f; rw [zD c0, zD c1, zD c2, zC c3]) (hyes (fun h => by have := h.2.2.2.1; omega))
 by_cases c4 : (bs.length : Int) < 1
 ·exact Ev.congr (fun k => by unfold cubbyref07_Shape.f; rw [zD c0, zD c1, zD c2, zD c3, zC c4]) (hyes (fun h => by have := h.2.2.2.2.1; omega))
 refine Ev.congr (fun k => by unfold cubbyref07_Shape.f; rw [zD c0, zD c1, zD c2, zD c3, zD c4]) ?_
 by_cases c5 : (bs.length : Int) > 32
 ·rw [zF c5]
  exact hyes (fun h => by have := h.2.2.2.2.2.1; omega)
 ·rw [zG c5]
  have := refshape_loop bs hF bs.length 0 (by omega) (by omega) 0 (by omega) (by omega)
  have e : fits (200 - 0) (bs.drop 0) = decide (shapeP pp rg bs) := by
   rw [List.drop_zero]
   unfold shapeP
   cases hf : fits (200 - 0) bs
   ·symm
    apply zG
    rintro ⟨_, _, _, _, _, _, h⟩
    rw [show (200 : Int) - 0 = 200 by omega, h] at hf
    exact absurd hf (by simp)
   ·symm
    apply zF
    exact ⟨by omega, by omega, by omega, by omega, by omega, by omega, hf⟩
  rw [← e]
  refine Ev.step (fun k => by simp only [cubbyref07_Shape.j0]; rw [zD Bool.false_ne_true]; rfl) this
theorem refcheck_row (i : Nat) (hi : i < bs.length) (R : Int) (h : Ev (fun k => cubbyref07_Check.l0 k ((i + 1 : Nat) : Int) pn pp rg bs) R) : ∀ (d j : Nat), bs[i].length - j = d → j ≤ bs[i].length → Ev (fun k => cubbyref07_Check.l1 k (i : Int) (j : Int) pn pp rg bs) (if rowE rg (bs.length : Int) (bs[i].drop j) = 0 then R else rowE rg (bs.length : Int) (bs[i].drop j)) := by
 have hlen := hF.len
 have hr := hF.row _ (List.getElem_mem hi)
 have hg := rdL_get hi
 intro d
 induction d with
 | zero =>
  intro j hd hj
  rw [List.drop_eq_nil_of_le (by omega)]
  unfold rowE
  rw [zC rfl]
  exact Ev.step (fun k => by simp only [cubbyref07_Check.l1]; rw [zC (by omega), zC (by omega), hg, zD (by omega), wrap_nat (by omega)]) h
 | succ d ih =>
  intro j hd hj
  have hlt : j < bs[i].length := by omega
  have hx := hF.ins _ (List.getElem_mem hi) _ (List.getElem_mem hlt)
  rw [drop_cons hlt]
  unfold rowE
  have h1 := refone_ev bs[i][j].f0 bs[i][j].f1 bs[i][j].f2 bs[i][j].f3 bs[i][j].f4 bs[i][j].f5 (by omega) rg (bs.length : Int) (bs[i].drop (j + 1)).isEmpty
  refine Ev.step (fun k => by simp only [cubbyref07_Check.l1]; rw [zC (by omega), zC (by omega), hg, zC (by omega), zC (by omega), rdT_get hlt, last_eq' hlt (by omega)]) (Ev.bind h1 ?_)
  show Ev (fun n => if insE rg (bs.length : Int) bs[i][j] (bs[i].drop (j + 1)).isEmpty = 0 then _ else some (insE rg (bs.length : Int) bs[i][j] (bs[i].drop (j + 1)).isEmpty)) _
  by_cases c : insE rg (bs.length : Int) bs[i][j] (bs[i].drop (j + 1)).isEmpty = 0
  ·rw [zC c]
   exact Ev.congr (fun k => by rw [zC c, wrap_nat (by omega)]) (ih (j + 1) (by omega) (by omega))
  ·rw [zD c, zD c]
   exact Ev.congr (f := fun _ => some _) (fun k => by rw [zD c]) (Ev.now _)
theorem refcheck_all : ∀ (d i : Nat), bs.length - i = d → i ≤ bs.length → Ev (fun k => cubbyref07_Check.l0 k (i : Int) pn pp rg bs) (allE rg (bs.length : Int) (bs.drop i)) := by
 intro d
 induction d with
 | zero =>
  intro i hd hi
  rw [List.drop_eq_nil_of_le (by omega)]
  exact Ev.step (f := fun _ => some 0) (fun k => by simp only [cubbyref07_Check.l0]; rw [zD (by omega)]) (Ev.now _)
 | succ d ih =>
  intro i hd hi
  have hlt : i < bs.length := by omega
  rw [drop_cons hlt]
  unfold allE
  refine Ev.step (fun k => by simp only [cubbyref07_Check.l0]; rw [zC (by omega)]) ?_
  have := refcheck_row pn pp rg bs hF i hlt _ (ih (i + 1) (by omega) (by omega)) bs[i].length 0 (by omega) (by omega)
  rw [List.drop_zero] at this
  exact this
theorem refcheck_ev : Ev (fun k => cubbyref07_Check.f k pn pp rg bs) (checkE pn pp rg bs) := by
 unfold checkE
 refine Ev.bind (refname_ev pn) ?_
 cases nameOk pn
 ·exact Ev.congr (f := fun _ => some 70) (fun k => by rw [zD Bool.false_ne_true]) (Ev.now _)
 ·refine Ev.congr (fun k => by rw [zC rfl]) (Ev.bind (refshape_ev pp rg bs hF) ?_)
  rw [zC rfl]
  by_cases c : shapeP pp rg bs
  ·rw [zC c, zF c]
   have := refcheck_all pn pp rg bs hF bs.length 0 (by omega) (by omega)
   exact Ev.congr (fun k => by rw [zC rfl]; rfl) this
  ·rw [zD c, zG c]
   exact Ev.congr (f := fun _ => some 71) (fun k => by rw [zD Bool.false_ne_true]) (Ev.now _)

theorem check_row (i : Nat) (hi : i < bs.length) (R : Int) (h : Ev (fun k => ir_Check.l1 k bs (bs.length : Int) ((i + 1 : Nat) : Int) pn pp rg bs) R) : ∀ (d j : Nat), bs[i].length - j = d → j ≤ bs[i].length → Ev (fun k => ir_Check.l2 k bs[i] bs (bs.length : Int) (i : Int) bs[i] (bs[i].length : Int) (j : Int) pn pp rg bs) (if rowE rg (bs.length : Int) (bs[i].drop j) = 0 then R else rowE rg (bs.length : Int) (bs[i].drop j)) := by
 have hlen := hF.len
 have hr := hF.row _ (List.getElem_mem hi)
 intro d
 induction d with
 | zero =>
  intro j hd hj
  rw [List.drop_eq_nil_of_le (by omega)]
  unfold rowE
  rw [zC rfl]
  exact Ev.step (fun k => by simp only [ir_Check.l2]; rw [zD (by omega), wrap_nat (by omega)]) h
 | succ d ih =>
  intro j hd hj
  have hlt : j < bs[i].length := by omega
  have hx := hF.ins _ (List.getElem_mem hi) _ (List.getElem_mem hlt)
  rw [drop_cons hlt]
  unfold rowE
  have h1 := one_ev pn pp rg bs bs[i][j].f0 bs[i][j].f1 bs[i][j].f2 bs[i][j].f3 bs[i][j].f4 bs[i][j].f5 (bs[i].drop (j + 1)).isEmpty
  refine Ev.step (fun k => by simp only [ir_Check.l2]; rw [zC (by omega), zC (by omega), zC (by omega), rdT_get hlt, last_eq' hlt (by omega)]) (Ev.bind h1 ?_)
  show Ev (fun n => if insE rg (bs.length : Int) bs[i][j] (bs[i].drop (j + 1)).isEmpty = 0 then _ else some (insE rg (bs.length : Int) bs[i][j] (bs[i].drop (j + 1)).isEmpty)) _
  by_cases c : insE rg (bs.length : Int) bs[i][j] (bs[i].drop (j + 1)).isEmpty = 0
  ·rw [zC c]
   exact Ev.congr (fun k => by rw [zC c, wrap_nat (by omega)]) (ih (j + 1) (by omega) (by omega))
  ·rw [zD c, zD c]
   exact Ev.congr (f := fun _ => some _) (fun k => by rw [zD c]) (Ev.now _)
theorem check_all : ∀ (d i : Nat), bs.length - i = d → i ≤ bs.length → Ev (fun k => ir_Check.l1 k bs (bs.length : Int) (i : Int) pn pp rg bs) (allE rg (bs.length : Int) (bs.drop i)) := by
 intro d
 induction d with
 | zero =>
  intro i hd hi
  rw [List.drop_eq_nil_of_le (by omega)]
  exact Ev.step (f := fun _ => some 0) (fun k => by simp only [ir_Check.l1]; rw [zD (by omega)]) (Ev.now _)
 | succ d ih =>
  intro i hd hi
  have hlt : i < bs.length := by omega
  rw [drop_cons hlt]
  unfold allE
  refine Ev.step (fun k => by simp only [ir_Check.l1]; rw [zC (by omega), zC (by omega), zC (by omega), rdL_get hlt]) ?_
  have := check_row pn pp rg bs hF i hlt _ (ih (i + 1) (by omega) (by omega)) bs[i].length 0 (by omega) (by omega)
  rw [List.drop_zero] at this
  exact this
theorem check_fits : ∀ (d i : Nat), bs.length - i = d → i ≤ bs.length → ∀ left : Int, 0 ≤ left → left ≤ 200 → Ev (fun k => ir_Check.l0 k left bs (bs.length : Int) (i : Int) pn pp rg bs) (if fits left (bs.drop i) = true then allE rg (bs.length : Int) bs else 71) := by
 have hlen := hF.len
 intro d
 induction d with
 | zero =>
  intro i hd hi left h0 h1
  rw [List.drop_eq_nil_of_le (by omega), fits_nil h0, zC rfl]
  have := check_all pn pp rg bs hF bs.length 0 (by omega) (by omega)
  exact Ev.step (fun k => by simp only [ir_Check.l0]; rw [zD (by omega)]; rfl) this
 | succ d ih =>
  intro i hd hi left h0 h1
  have hlt : i < bs.length := by omega
  rw [drop_cons hlt, fits_cons]
  by_cases c : ((bs[i]).length : Int) = 0
  ·rw [zG (by omega), Bool.false_and, zD Bool.false_ne_true]
   exact Ev.step (f := fun _ => some 71) (fun k => by simp only [ir_Check.l0]; rw [zC (by omega), zC (by omega), zC (by omega), rdL_get hlt, zC c]) (Ev.now _)
  ·by_cases c1 : ((bs[i]).length : Int) > left
   ·rw [fits_neg (by omega), Bool.and_false, zD Bool.false_ne_true]
    exact Ev.step (f := fun _ => some 71) (fun k => by simp only [ir_Check.l0]; rw [zC (by omega), zC (by omega), zC (by omega), rdL_get hlt, zD c, zC c1]) (Ev.now _)
   ·rw [zF (by omega), Bool.true_and]
    refine Ev.step (fun k => ?_) (ih (i + 1) (by omega) (by omega) (left - (bs[i]).length) (by omega) (by omega))
    simp only [ir_Check.l0]
    rw [zC (by omega), zC (by omega), zC (by omega), rdL_get hlt, zD c, zD c1, wrap_nat (by omega), wrap_id (by omega) (by omega)]
theorem check_ev : Ev (fun k => ir_Check.f k pn pp rg bs) (checkE pn pp rg bs) := by
 unfold checkE
 cases hn : nameOk pn
 ·exact Ev.congr (f := fun _ => some 70) (fun k => by unfold ir_Check.f; rw [name_eq, zJ, hn, zD Bool.false_ne_true]) (Ev.now _)
 ·rw [zC rfl]
  refine Ev.congr (fun k => by unfold ir_Check.f; rw [name_eq, zJ, hn, zC rfl]) ?_
  have hyes : ¬ shapeP pp rg bs → Ev (fun k => ir_Check.j0 k true pn pp rg bs) (if shapeP pp rg bs then allE rg (bs.length : Int) bs else 71) := fun h => by
   rw [zD h]
   exact Ev.step (f := fun _ => some 71) (fun k => by simp only [ir_Check.j0]; rw [zC trivial]) (Ev.now _)
  by_cases c0 : pp < 0
  ·exact Ev.congr (fun k => by rw [zC c0]) (hyes (fun h => by have := h.1; omega))
  by_cases c1 : pp > 4
  ·exact Ev.congr (fun k => by rw [zD c0, zC c1]) (hyes (fun h => by have := h.2.1; omega))
  by_cases c2 : rg < pp
  ·exact Ev.congr (fun k => by rw [zD c0, zD c1, zC c2]) (hyes (fun h => by have := h.2.2.1; omega))
  by_cases c3 : rg > 64
  ·exact Ev.congr (fun k => by rw [zD c0, zD c1, zD c2, zC c3]) (hyes (fun h => by have := h.2.2.2.1; omega))
  by_cases c4 : (bs.length : Int) < 1
  ·exact Ev.congr (fun k => by rw [zD c0, zD c1, zD c2, zD c3, zC c4]) (hyes (fun h => by have := h.2.2.2.2.1; omega))
  refine Ev.congr (fun k => by rw [zD c0, zD c1, zD c2, zD c3, zD c4]) ?_
  by_cases c5 : (bs.length : Int) > 32
  ·rw [zF c5]
   exact hyes (fun h => by have := h.2.2.2.2.2.1; omega)
  ·rw [zG c5]
   have := check_fits pn pp rg bs hF bs.length 0 (by omega) (by omega) 200 (by omega) (by omega)
   rw [List.drop_zero] at this
   refine Ev.step (f := fun k => ir_Check.l0 k 200 bs (bs.length : Int) ((0 : Nat) : Int) pn pp rg bs) (fun k => by simp only [ir_Check.j0]; rw [zD Bool.false_ne_true]; rfl) ?_
   by_cases hf : fits 200 bs = true
   ·rw [zC hf] at this
    rw [zC ⟨by omega, by omega, by omega, by omega, by omega, by omega, hf⟩]
    exact this
   ·rw [zD hf] at this
    rw [zD (fun h => hf h.2.2.2.2.2.2)]
    exact this
end
end Go.Proofs.YtpkimbkjjmbmcaaDoor.PlainCheck
namespace Go.Proofs.YtpkimbkjjmbmcaaDoor.PlainCheck
open Go Go.RowKit Go.Proofs.YtpkimbkjjmbmcaaDoorW.PrintWords Go.Proofs.YtpkimbkjjmbmcaaDoorW.PrintMore Go.Proofs.YtpkimbkjjmbmcaaDoor.Q Go.Proofs.YtpkimbkjjmbmcaaDoor.Plain Go.Proofs.YtpkimbkjjmbmcaaDoor.PlainIr Go.Proofs.YtpkimbkjjmbmcaaDoor.PlainName Go.Proofs.YtpkimbkjjmbmcaaDoor.PlainOne Go.Proofs.YtpkimbkjjmbmcaaDoor.PlainHeavy
set_option linter.unusedVariables false
theorem allE_zero {rg nb : Int} : ∀ {bs : List (List SIns)}, allE rg nb bs = 0 → ∀ b ∈ bs, rowE rg nb b = 0
 | [], _ => by simp
 | c :: bs, h => by
  unfold allE at h
  split at h
  ·next h1 =>
   intro b hb
   rcases List.mem_cons.1 hb with rfl | hb
   ·exact h1
   ·exact allE_zero h b hb
  ·next h1 => exact absurd h h1
theorem rowE_zero {rg nb : Int} : ∀ {b : List SIns}, rowE rg nb b = 0 → ∀ (j : Nat) (h : j < b.length), insE rg nb b[j] (b.drop (j + 1)).isEmpty = 0
 | [], _ => by
  intro j h
  exact absurd h (by simp)
 | x :: xs, h => by
  unfold rowE at h
  split at h
  ·next h1 =>
   intro j hj
   cases j with
   | zero => exact h1
   | succ j => exact rowE_zero h j (by simpa using hj)
  ·next h1 => exact absurd h h1
structure InsOk (rg nb : Int) (x : SIns) (last : Bool) : Prop where
 op : 1 ≤ x.f0 ∧ x.f0 ≤ 14
 last : lastOp x.f0 = last
 bare : bareP x.f0 x.f1 x.f2 x.f3 x.f4 x.f5
 def_ : hasD x.f0 → 0 ≤ x.f1 ∧ x.f1 < rg
 use : ∀ n ∈ uses x.f0 x.f2 x.f3 x.f5, 0 ≤ n ∧ n < rg
 num : x.f0 = 1 → 0 ≤ x.f2 ∧ x.f2 < 65536
 goal : ∀ n ∈ targets7 x.f0 x.f1 x.f2 x.f3, 0 ≤ n ∧ n < nb
 name : x.f0 = 11 → nameOk x.f4 = true ∧ x.f5.length ≤ 4
theorem not_any {m : Int} {l : List Int} (h : ¬ l.any (oddReg m) = true) : ∀ n ∈ l, 0 ≤ n ∧ n < m := by
 intro n hn
 have : ¬ oddReg m n = true := fun hx => h (List.any_eq_true.2 ⟨n, hn, hx⟩)
 rw [odd_iff] at this
 omega
theorem insE_zero {rg nb : Int} {x : SIns} {last : Bool} (h : insE rg nb x last = 0) : InsOk rg nb x last := by
 unfold insE oneE at h
 split at h
 ·next h0 =>
  unfold e1 at h
  split at h
  ·exact absurd h (by decide)
  ·next h1 =>
   unfold e2 at h
   split at h
   ·exact absurd h (by decide)
   ·next h2 =>
    unfold e3 at h
    split at h
    ·exact absurd h (by decide)
    ·next h3 =>
     unfold e4 at h
     split at h
     ·exact absurd h (by decide)
     ·next h4 =>
      unfold e5 at h
      split at h
      ·exact absurd h (by decide)
      ·next h5 =>
       refine ⟨h0.1, h0.2.1, h0.2.2, ?_, not_any (fun y => h1 (.inr y)), ?_, not_any h3, ?_⟩
       ·intro hd
        have : ¬ oddReg rg x.f1 = true := fun y => h1 (.inl ⟨hd, y⟩)
        rw [odd_iff] at this
        omega
       ·intro h6
        omega
       ·intro h6
        refine ⟨?_, by omega⟩
        cases hn : nameOk x.f4
        ·exact absurd ⟨h6, hn⟩ h4
        ·rfl
 ·exact absurd h (by decide)
structure FuncOk (nm : ByteArray) (params regs : Int) (bs : List (List SIns)) : Prop where
 name : nameOk nm = true
 shape : shapeP params regs bs
 row : ∀ b ∈ bs, b.length ≠ 0
 tot : total bs ≤ 200
 ins : ∀ b ∈ bs, ∀ (j : Nat) (h : j < b.length), InsOk regs (bs.length : Int) b[j] (b.drop (j + 1)).isEmpty
theorem checkE_zero {nm : ByteArray} {params regs : Int} {bs : List (List SIns)} (h : checkE nm params regs bs = 0) : FuncOk nm params regs bs := by
 unfold checkE at h
 split at h
 ·next h0 =>
  split at h
  ·next h1 =>
   have hf := zB h1.2.2.2.2.2.2
   exact ⟨h0, h1, hf.1, by have := hf.2; omega, fun b hb j hj => insE_zero (rowE_zero (allE_zero h b hb) j hj)⟩
  ·exact absurd h (by decide)
 ·exact absurd h (by decide)
end Go.Proofs.YtpkimbkjjmbmcaaDoor.PlainCheck
namespace Go.Proofs.YtpkimbkjjmbmcaaDoor.PlainLive
open Go Go.RowKit Go.Proofs.YtpkimbkjjmbmcaaDoorW.PrintWords Go.Proofs.YtpkimbkjjmbmcaaDoorW.PrintMore Go.Proofs.YtpkimbkjjmbmcaaDoor.Q Go.Proofs.YtpkimbkjjmbmcaaDoor.Plain Go.Proofs.YtpkimbkjjmbmcaaDoor.PlainIr Go.Proofs.YtpkimbkjjmbmcaaDoor.PlainBits Go.Proofs.YtpkimbkjjmbmcaaDoor.PlainFix Go.Proofs.YtpkimbkjjmbmcaaDoor.PlainSuccs Go.Proofs.YtpkimbkjjmbmcaaDoor.PlainOne Go.Proofs.YtpkimbkjjmbmcaaDoor.PlainHeavy Go.Proofs.YtpkimbkjjmbmcaaDoor.PlainCheck
set_option linter.unusedVariables false
set_option linter.unusedSimpArgs false
theorem with_eq {s : Nat} {n : Int} (h0 : 0 ≤ n) (h : n < 64) (hs : s < 2 ^ 64) : live_set_with.f (s : Int) n = some ((withB s n.toNat : Nat) : Int) := by
 unfold live_set_with.f
 rw [zC (wrap_nonneg n)]
 have := bits_with (s := s) (r := n.toNat) (by omega) hs
 rw [show ((n.toNat : Nat) : Int) = n by omega] at this
 rw [this]
theorem without_eq {s : Nat} {n : Int} (h0 : 0 ≤ n) (h : n < 64) (hs : s < 2 ^ 64) : live_set_without.f (s : Int) n = some ((withoutB s n.toNat : Nat) : Int) := by
 unfold live_set_without.f
 rw [zC (wrap_nonneg n)]
 have := bits_without (s := s) (r := n.toNat) (by omega) hs
 rw [show ((n.toNat : Nat) : Int) = n by omega] at this
 rw [this]
theorem each_ev {R : Nat} (hR : R ≤ 64) (l : List Int) (hl : l.length ≤ 4611686018427387904) (hm : ∀ n ∈ l, 0 ≤ n ∧ n < R) {s : Nat} (hs : s < 2 ^ R) (B : Bool) : Ev (fun k => live_set_each.f k (s : Int) l B) ((l.foldl (fun s n => withB s n.toNat) s : Nat) : Int) := by
 have h : ∀ (d j s : Nat), j + d = l.length → s < 2 ^ R → Ev (fun k => live_set_each.l0 k (s : Int) l (l.length : Int) (j : Int)) (((l.drop j).foldl (fun s n => withB s n.toNat) s : Nat) : Int) := by
  intro d
  induction d with
  | zero =>
   intro j s hj hs
   rw [List.drop_eq_nil_of_le (by omega)]
   exact Ev.step (f := fun _ => some (s : Int)) (fun k => by simp only [live_set_each.l0]; rw [zD (by omega)]) (Ev.now _)
  | succ d ih =>
   intro j s hj hs
   have hjl : j < l.length := by omega
   have h1 := hm _ (List.getElem_mem hjl)
   rw [drop_cons hjl, List.foldl_cons]
   refine Ev.step (fun k => ?_) (ih (j + 1) (withB s (l[j]).toNat) (by omega) (withB_lt (by omega) hs))
   simp only [live_set_each.l0]
   rw [zC (by omega), zC (by omega), zC (by omega), rd_get hjl, with_eq h1.1 (by omega) (lt64 hR hs), zJ, wrap_nat (by omega)]
 have := h l.length 0 s (by omega) hs
 rw [List.drop_zero] at this
 exact this
theorem through_ev {R : Nat} {x : SIns} (O : RegsOk R x) (hx : x.f5.length ≤ 17592186043904) {s : Nat} (hs : s < 2 ^ R) : Ev (fun k => live_through.f k x.f0 x.f1 x.f2 x.f3 x.f4 x.f5 (s : Int)) ((thrN x s : Nat) : Int) := by
 have hd := O.def_
 have hR := O.le
 unfold thrN
 by_cases c : 0 ≤ defOf x.f0 x.f1
 ·rw [zC c]
  refine Ev.congr (fun k => by unfold live_through.f; rw [def_eq, zJ, zC c, without_eq c (by omega) (lt64 hR hs), zJ]) (Ev.bind (uses_ev x.f0 x.f1 x.f2 x.f3 x.f4 x.f5 (by omega)) ?_)
  exact Ev.bind (each_ev hR _ (uses_short (by omega)) O.use (withoutB_lt hs) false) (Ev.now _)
 ·rw [zD c]
  refine Ev.congr (fun k => by unfold live_through.f; rw [def_eq, zJ, zD c]) (Ev.bind (uses_ev x.f0 x.f1 x.f2 x.f3 x.f4 x.f5 (by omega)) ?_)
  exact Ev.bind (each_ev hR _ (uses_short (by omega)) O.use hs false) (Ev.now _)
def toI (inn : List Nat) : List Int := inn.map (fun n : Nat => (n : Int))
theorem toI_len (inn : List Nat) : (toI inn).length = inn.length := by
 unfold toI
 rw [List.length_map]
theorem rd_toI {inn : List Nat} {b : Int} : rd (toI inn) b = ((at_ inn b.toNat : Nat) : Int) := by
 show (toI inn).getD b.toNat 0 = _
 unfold at_ toI
 rw [List.getD_eq_getElem?_getD, List.getD_eq_getElem?_getD, List.getElem?_map]
 cases inn[b.toNat]? <;> rfl
section
variable (pn : ByteArray) (pp : Int) {R : Nat} {bs : List (List SIns)} (O : BlocksOk R bs) {inn : List Nat} (hlen : inn.length = bs.length) (hlt : ∀ b, at_ inn b < 2 ^ R)
include O hlen hlt
theorem ahead_ev {b i : Nat} (hb : b < bs.length) (hi : i ≤ (bs.getD b []).length) : Ev (fun k => live_ahead.f k pn pp (R : Int) bs (toI inn) (b : Int) (i : Int)) ((aheadN bs inn b i : Nat) : Int) := by
 have hbl := O.len
 have hR := O.le
 have hrow := getD_get hb
 have hr := O.row _ (List.getElem_mem hb)
 have hregs := O.regs _ (List.getElem_mem hb)
 have hargs := O.args _ (List.getElem_mem hb)
 rw [← hrow] at hr hregs hargs
 have h1 : ∀ (d m s : Nat), i + d = m → m ≤ (bs.getD b []).length → s < 2 ^ R → Ev (fun k => live_ahead.l1 k (b : Int) (i : Int) (s : Int) ((m : Int) - 1) pn pp (R : Int) bs) (((((bs.getD b []).take m).drop i).foldr thrN s : Nat) : Int) := by
  generalize hg : bs.getD b [] = row at *
  intro d
  induction d with
  | zero =>
   intro m s hm hml hs
   rw [List.drop_eq_nil_of_le (by rw [List.length_take]; omega)]
   exact Ev.step (f := fun _ => some (s : Int)) (fun k => by simp only [live_ahead.l1]; rw [zD (by omega)]) (Ev.now _)
  | succ d ih =>
   intro m s hm hml hs
   obtain ⟨m', rfl⟩ : ∃ m', m = m' + 1 := ⟨m - 1, by omega⟩
   have hm' : m' < row.length := by omega
   rw [row_fold (by omega) hm']
   have hx := hregs _ (List.getElem_mem hm')
   rw [show (((m' + 1 : Nat) : Int) - 1) = (m' : Int) by omega]
   refine Ev.step (fun k => by simp only [live_ahead.l1]; rw [zC (by omega), zC (by omega), zC (by omega), zC (by omega), rd_row hb, hg, zC (by omega), rd_ins hm']) (Ev.bind (through_ev hx (hargs _ (List.getElem_mem hm')) hs) ?_)
   exact Ev.congr (fun k => by rw [wrap_id (by omega) (by omega)]) (ih m' _ (by omega) (by omega) (thrN_lt hx hs))
 have hm := succs_mem bs (b : Int)
 have hl := succs_len bs (b : Int)
 refine Ev.bind (succs_ev bs (b : Int) O.small) ?_
 unfold aheadN orN
 generalize succs bs (b : Int) = l at *
 have h : ∀ (d j s : Nat), j + d = l.length → s < 2 ^ R → Ev (fun k => live_ahead.l0 k (toI inn) (b : Int) (i : Int) (s : Int) l (l.length : Int) (j : Int) pn pp (R : Int) bs) ((((bs.getD b []).drop i).foldr thrN ((l.drop j).foldl (fun s k => s ||| at_ inn k.toNat) s) : Nat) : Int) := by
  intro d
  induction d with
  | zero =>
   intro j s hj hs
   rw [List.drop_eq_nil_of_le (by omega : l.length ≤ j)]
   have := h1 ((bs.getD b []).length - i) (bs.getD b []).length s (by omega) (Nat.le_refl _) hs
   rw [List.take_length] at this
   exact Ev.step (fun k => by simp only [live_ahead.l0]; rw [zD (by omega), zC (by omega), zC (by omega), rd_row hb, wrap_id (by omega) (by omega)]) this
  | succ d ih =>
   intro j s hj hs
   have hjl : j < l.length := by omega
   have h2 := hm _ (List.getElem_mem hjl)
   rw [drop_cons hjl, List.foldl_cons]
   have h3 := hlt (l[j]).toNat
   have h4 := lt64 hR h3
   have h5 := lt64 hR hs
   refine Ev.step (fun k => ?_) (ih (j + 1) _ (by omega) (Nat.or_lt_two_pow hs h3))
   simp only [live_ahead.l0]
   rw [zC (by omega), zC (by omega), zC (by omega), rd_get hjl, zC (by omega), zC (by rw [toI_len]; omega), rd_toI, u64_or_nat _ _ (by omega) (by omega), wrap_nat (by omega)]
 exact h l.length 0 0 (by omega) (Nat.pos_of_ne_zero (by simp))
end
theorem toI_set (y : List Nat) (b v : Nat) : (toI y).set b (v : Int) = toI (y.set b v) := by
 unfold toI
 rw [List.map_set]
theorem toI_zero (n : Nat) : List.replicate n (0 : Int) = toI (List.replicate n 0) := by
 unfold toI
 rw [List.map_replicate]
 rfl
structure Sol (R : Nat) (bs : List (List SIns)) (z : List Nat) : Prop where
 on : On bs.length R (fun x b => aheadN bs x b 0) z
 eq : ∀ b, b < bs.length → aheadN bs z b 0 = at_ z b
theorem Sol.one {R : Nat} {bs : List (List SIns)} {y z : List Nat} (hy : Sol R bs y) (hz : Sol R bs z) : y = z := on_eq hy.on hz.on hy.eq hz.eq
section
variable (pn : ByteArray) (pp : Int) {R : Nat} {bs : List (List SIns)} (O : BlocksOk R bs)
include O
theorem sets_ev : ∃ z, Sol R bs z ∧ Ev (fun k => live_sets.f k pn pp (R : Int) bs) (toI z) := by
 have hbl := O.len
 have E := aheadN_eqs bs R O.regs
 have main : ∀ (d : Nat) (y : List Nat), On bs.length R (fun x b => aheadN bs x b 0) y → bs.length * R + 1 ≤ card R y + d → ∃ z, Sol R bs z ∧ Ev (fun k => live_sets.l0 k (toI y) true pn pp (R : Int) bs) (toI z) := by
  intro d
  induction d with
  | zero =>
   intro y hy hc
   have h1 := card_le R y
   rw [hy.len] at h1
   omega
  | succ d ih =>
   intro y0 hy0 hc
   have row : ∀ (b : Nat), b ≤ bs.length → ∀ (y : List Nat) (again : Bool), On bs.length R (fun x b => aheadN bs x b 0) y → LE y0 y → (again = false → y = y0 ∧ ∀ c, b ≤ c → c < bs.length → aheadN bs y0 c 0 = at_ y0 c) → (again = true → card R y0 < card R y) → ∃ z, Sol R bs z ∧ Ev (fun k => live_sets.l1 k (toI y) again ((b : Int) - 1) pn pp (R : Int) bs) (toI z) := by
    intro b
    induction b with
    | zero =>
     intro _ y again hy hle hf ht
     cases again
     ·obtain ⟨rfl, h2⟩ := hf rfl
      refine ⟨y, ⟨hy, fun c hc => h2 c (by omega) hc⟩, ?_⟩
      refine Ev.step (fun k => by simp only [live_sets.l1]; rw [zD (by omega)]) ?_
      exact Ev.step (f := fun _ => some (toI y)) (fun k => by simp only [live_sets.l0]; rw [zD Bool.false_ne_true]) (Ev.now _)
     ·obtain ⟨z, hz, hE⟩ := ih y hy (by have := ht rfl; omega)
      exact ⟨z, hz, Ev.step (fun k => by simp only [live_sets.l1]; rw [zD (by omega)]) hE⟩
    | succ b ihb =>
     intro hb y again hy hle hf ht
     have ha : Ev (fun k => live_ahead.f k pn pp (R : Int) bs (toI y) (b : Int) 0) ((aheadN bs y b 0 : Nat) : Int) := ahead_ev pn pp O hy.len hy.lt (b := b) (i := 0) (by omega) (Nat.zero_le _)
     have hs := on_set E hy (b := b) (by omega)
     have hyl := hy.len
     have e0 : (((b + 1 : Nat) : Int) - 1) = (b : Int) := by omega
     rw [e0]
     have hcard := card_mono R (x := y) (y := y.set b (aheadN bs y b 0)) (by rw [List.length_set]) hs.2
     cases again
     ·obtain ⟨rfl, h2⟩ := hf rfl
      by_cases c : aheadN bs y b 0 = at_ y b
      ·have hset : y.set b (aheadN bs y b 0) = y := by
        refine list_ext (n := bs.length) (R := R) (by rw [List.length_set]; exact hyl) hyl fun i hi => ?_
        rw [at_set (by omega)]
        split
        ·next h => rw [h]; exact c
        ·rfl
       obtain ⟨z, hz, hE⟩ := ihb (by omega) y false hy hle (fun _ => ⟨rfl, fun i hi hi2 => by
        by_cases e : i = b
        ·subst e
         exact c
        ·exact h2 i (by omega) hi2⟩) (fun h => absurd h (by simp))
       refine ⟨z, hz, Ev.step (fun k => by simp only [live_sets.l1]; rw [zC (by omega)]) (Ev.bind ha ?_)⟩
       refine Ev.congr (fun k => ?_) hE
       rw [zD Bool.false_ne_true, zC (by omega), zC (by rw [toI_len]; omega), rd_toI, Int.toNat_natCast, toI_set, hset, c, show ((at_ y b : Int) != (at_ y b : Int)) = false by simp, wrap_id (by omega) (by omega)]
      ·have hlt : card R y < card R (y.set b (aheadN bs y b 0)) := by
        apply Nat.lt_of_le_of_ne hcard
        intro e
        have := card_eq R (x := y) (y := y.set b (aheadN bs y b 0)) (by rw [List.length_set]) hs.2 hy.lt hs.1.lt e
        have h3 : at_ y b = at_ (y.set b (aheadN bs y b 0)) b := congrArg (fun l => at_ l b) this
        rw [at_set (by omega), zC rfl] at h3
        exact c h3.symm
       obtain ⟨z, hz, hE⟩ := ihb (by omega) (y.set b (aheadN bs y b 0)) true hs.1 hs.2 (fun h => absurd h (by simp)) (fun _ => hlt)
       refine ⟨z, hz, Ev.step (fun k => by simp only [live_sets.l1]; rw [zC (by omega)]) (Ev.bind ha ?_)⟩
       refine Ev.congr (fun k => ?_) hE
       rw [zD Bool.false_ne_true, zC (by omega), zC (by rw [toI_len]; omega), rd_toI, Int.toNat_natCast, toI_set, show ((aheadN bs y b 0 : Int) != (at_ y b : Int)) = true by simp; omega, wrap_id (by omega) (by omega)]
     ·obtain ⟨z, hz, hE⟩ := ihb (by omega) (y.set b (aheadN bs y b 0)) true hs.1 (hle.trans hs.2) (fun h => absurd h (by simp)) (fun _ => Nat.lt_of_lt_of_le (ht rfl) hcard)
      refine ⟨z, hz, Ev.step (fun k => by simp only [live_sets.l1]; rw [zC (by omega)]) (Ev.bind ha ?_)⟩
      refine Ev.congr (fun k => ?_) hE
      rw [zC trivial, zC (by omega), zC (by rw [toI_len]; omega), Int.toNat_natCast, toI_set, wrap_id (by omega) (by omega)]
   obtain ⟨z, hz, hE⟩ := row bs.length (Nat.le_refl _) y0 false hy0 (LE.refl _) (fun _ => ⟨rfl, fun c h1 h2 => by omega⟩) (fun h => absurd h (by simp))
   exact ⟨z, hz, Ev.step (fun k => by simp only [live_sets.l0]; rw [zC trivial, wrap_id (by omega) (by omega)]) hE⟩
 obtain ⟨z, hz, hE⟩ := main (bs.length * R + 1) _ on_zero (by omega)
 refine ⟨z, hz, Ev.congr (fun k => ?_) hE⟩
 unfold live_sets.f
 rw [zC (by omega), zC (by omega), Int.toNat_natCast, toI_zero]
end
end Go.Proofs.YtpkimbkjjmbmcaaDoor.PlainLive
namespace Go.Proofs.YtpkimbkjjmbmcaaDoor.PlainLive
open Go Go.RowKit Go.Proofs.YtpkimbkjjmbmcaaDoorW.PrintWords Go.Proofs.YtpkimbkjjmbmcaaDoorW.PrintMore Go.Proofs.YtpkimbkjjmbmcaaDoor.Q Go.Proofs.YtpkimbkjjmbmcaaDoor.Plain Go.Proofs.YtpkimbkjjmbmcaaDoor.PlainIr Go.Proofs.YtpkimbkjjmbmcaaDoor.PlainName Go.Proofs.YtpkimbkjjmbmcaaDoor.PlainBits Go.Proofs.YtpkimbkjjmbmcaaDoor.PlainFix Go.Proofs.YtpkimbkjjmbmcaaDoor.PlainSuccs Go.Proofs.YtpkimbkjjmbmcaaDoor.PlainOne Go.Proofs.YtpkimbkjjmbmcaaDoor.PlainHeavy Go.Proofs.YtpkimbkjjmbmcaaDoor.PlainCheck
set_option linter.unusedVariables false
set_option linter.unusedSimpArgs false
theorem map_toL_zero (R n : Nat) : List.replicate n ([] : List Int) = (List.replicate n 0).map (toL R) := by
 rw [List.map_replicate, toL_zero]
section
variable (pn : ByteArray) (pp : Int) {R : Nat} {bs : List (List SIns)} (O : BlocksOk R bs)
include O
theorem refin_ev : ∃ z, Sol R bs z ∧ Ev (fun k => cubbyref11_In.l0 k (List.replicate bs.length []) 0 pn pp (R : Int) bs) (z.map (toL R)) := by
 have hbl := O.len
 have hR := O.le
 have E := aheadN_eqs bs R O.regs
 have hnR : bs.length * R ≤ 64000 := Nat.le_trans (Nat.mul_le_mul hbl hR) (by omega)
 have main : ∀ (d : Nat) (y : List Nat) (r : Nat), On bs.length R (fun x b => aheadN bs x b 0) y → r ≤ card R y → bs.length * R + 1 ≤ card R y + d → ∃ z, Sol R bs z ∧ Ev (fun k => cubbyref11_In.l0 k (y.map (toL R)) (r : Int) pn pp (R : Int) bs) (z.map (toL R)) := by
  intro d
  induction d with
  | zero =>
   intro y r hy hr hc
   have h1 := card_le R y
   rw [hy.len] at h1
   omega
  | succ d ih =>
   intro y r hy hr hc
   have hyl := hy.len
   have hcl := card_le R y
   rw [hyl] at hcl
   have hall := on_all E hy
   have hal : ((List.range bs.length).map (fun b => aheadN bs y b 0)).length = bs.length := by simp
   have row : ∀ (e b : Nat) (same : Bool), b + e = bs.length → (same = true ↔ ∀ c, c < b → (toN R (aheadN bs y c 0)).length = (toN R (at_ y c)).length) → ∃ z, Sol R bs z ∧ Ev (fun k => cubbyref11_In.l1 k (y.map (toL R)) (r : Int) (((List.range b).map (fun b => aheadN bs y b 0)).map (toL R)) same (b : Int) pn pp (R : Int) bs) (z.map (toL R)) := by
    intro e
    induction e with
    | zero =>
     intro b same hb hs
     obtain rfl : b = bs.length := by omega
     cases same
     ·have hlt : card R y < card R ((List.range bs.length).map (fun b => aheadN bs y b 0)) := by
       apply Nat.lt_of_le_of_ne (card_mono R (by rw [hal, hyl]) hall.2)
       intro e
       have := card_eq R (by rw [hal, hyl]) hall.2 hy.lt hall.1.lt e
       apply absurd (hs.2 ?_) (by simp)
       intro c hc
       have h3 : at_ y c = at_ ((List.range bs.length).map (fun b => aheadN bs y b 0)) c := congrArg (fun l => at_ l c) this
       rw [at_map, zC hc] at h3
       rw [h3]
      obtain ⟨z, hz, hE⟩ := ih _ (r + 1) hall.1 (by omega) (by omega)
      exact ⟨z, hz, Ev.step (fun k => by simp only [cubbyref11_In.l1]; rw [zD (by omega), zD Bool.false_ne_true, wrap_nat (by omega)]) hE⟩
     ·have heq := hs.1 rfl
      have hA : ∀ c, c < bs.length → aheadN bs y c 0 = at_ y c := fun c hc => (toN_eq (hy.up c hc) (hy.lt c) (E.lt y hy.lt c hc) (heq c hc).symm).symm
      have hy2 : (List.range bs.length).map (fun b => aheadN bs y b 0) = y := by
       refine list_ext (n := bs.length) (R := R) hal hyl fun c hc => ?_
       rw [at_map, zC hc, hA c hc]
      rw [hy2]
      exact ⟨y, ⟨hy, hA⟩, Ev.step (f := fun _ => some (y.map (toL R))) (fun k => by simp only [cubbyref11_In.l1]; rw [zD (by omega), zC trivial]) (Ev.now _)⟩
    | succ e ihe =>
     intro b same hb hs
     have ha : Ev (fun k => cubbyref11_ahead.f k pn pp (R : Int) bs (y.map (toL R)) (b : Int) 0) (toL R (aheadN bs y b 0)) := refahead_ev pn pp O hyl hy.lt (b := b) (i := 0) (by omega) (Nat.zero_le _)
     have hnow : (((List.range (b + 1)).map (fun b => aheadN bs y b 0)).map (toL R)) = (((List.range b).map (fun b => aheadN bs y b 0)).map (toL R)) ++ [toL R (aheadN bs y b 0)] := by
      rw [List.range_succ, List.map_append, List.map_append]
      rfl
     have hl2 : (((List.range b).map (fun b => aheadN bs y b 0)).map (toL R)).length = b := by simp
     have hlen : ∀ s, ((toL R s).length : Int) = ((toN R s).length : Int) := fun s => by
      unfold toL
      rw [List.length_map]
     cases same
     ·have hs2 : ¬ ∀ c, c < b → (toN R (aheadN bs y c 0)).length = (toN R (at_ y c)).length := fun h => absurd (hs.2 h) (by simp)
      obtain ⟨z, hz, hE⟩ := ihe (b + 1) false (by omega) ⟨fun h => absurd h (by simp), fun h => absurd (fun c hc => h c (by omega)) hs2⟩
      rw [hnow] at hE
      refine ⟨z, hz, Ev.step (fun k => by simp only [cubbyref11_In.l1]; rw [zC (by omega)]) (Ev.bind ha ?_)⟩
      exact Ev.congr (fun k => by rw [zD Bool.false_ne_true, zC (by rw [hl2]; omega), wrap_nat (by omega)]) hE
     ·have hs1 := hs.1 rfl
      obtain ⟨z, hz, hE⟩ := ihe (b + 1) (((toN R (aheadN bs y b 0)).length : Int) == ((toN R (at_ y b)).length : Int)) (by omega) (by
       rw [beq_iff_eq]
       constructor
       ·intro h c hc
        by_cases e : c = b
        ·subst e
         omega
        ·exact hs1 c (by omega)
       ·intro h
        have := h b (by omega)
        omega)
      rw [hnow] at hE
      refine ⟨z, hz, Ev.step (fun k => by simp only [cubbyref11_In.l1]; rw [zC (by omega)]) (Ev.bind ha ?_)⟩
      exact Ev.congr (fun k => by rw [zC trivial, zC (by omega), zC (by rw [List.length_map]; omega), zC (by rw [hl2]; omega), rdL_map (by omega) (by omega), hlen, hlen, Int.toNat_natCast, wrap_nat (by omega)]) hE
   obtain ⟨z, hz, hE⟩ := row bs.length 0 true (by omega) ⟨fun _ c hc => by omega, fun _ => rfl⟩
   refine ⟨z, hz, Ev.step (fun k => ?_) hE⟩
   simp only [cubbyref11_In.l0]
   have e1 : ((bs.length : Int) * (R : Int)) = ((bs.length * R : Nat) : Int) := by simp
   rw [e1, wrap_id (i := ((bs.length * R : Nat) : Int)) (by omega) (by omega), wrap_id (by omega) (by omega), zC (by omega)]
   rfl
 obtain ⟨z, hz, hE⟩ := main (bs.length * R + 1) (List.replicate bs.length 0) 0 on_zero (Nat.zero_le _) (by omega)
 rw [← map_toL_zero] at hE
 exact ⟨z, hz, hE⟩
end

theorem ok_regs {nm : ByteArray} {pp : Int} {R : Nat} {bs : List (List SIns)} (F : FuncOk nm pp (R : Int) bs) : ∀ b ∈ bs, ∀ x ∈ b, RegsOk R x := by
 intro b hb x hx
 have hR := F.shape.2.2.2.1
 obtain ⟨j, hj, rfl⟩ := List.mem_iff_getElem.1 hx
 have I := F.ins b hb j hj
 refine ⟨by omega, I.use, ?_⟩
 unfold defOf
 split
 ·next h =>
  have := I.def_ h
  omega
 ·omega
theorem regs_nat {nm : ByteArray} {pp rg : Int} {bs : List (List SIns)} (F : FuncOk nm pp rg bs) : ∃ R : Nat, rg = R := by
 have h0 := F.shape.1
 have h1 := F.shape.2.2.1
 exact ⟨rg.toNat, by omega⟩
theorem total_le {bs : List (List SIns)} : ∀ b ∈ bs, b.length ≤ total bs := by
 induction bs with
 | nil => simp
 | cons c bs ih =>
  intro b hb
  unfold total
  rcases List.mem_cons.1 hb with rfl | hb
  ·omega
  ·have := ih b hb
   omega
theorem ok_blocks {nm : ByteArray} {pp : Int} {R : Nat} {bs : List (List SIns)} (F : FuncOk nm pp (R : Int) bs) (hF : FairB bs) : BlocksOk R bs := by
 have h1 := F.shape
 exact ⟨by have := h1.2.2.2.1; omega, by have := h1.2.2.2.2.2.1; omega, fun b hb => by have := total_le b hb; have := F.tot; omega, ok_regs F, hF.ins⟩
section
variable (pn : ByteArray) (pp : Int) {R : Nat} {bs : List (List SIns)} (hF : FairB bs) (F : FuncOk pn pp (R : Int) bs) (hc : checkE pn pp (R : Int) bs = 0)
include hF F hc
theorem both : ∃ z, Sol R bs z ∧ Ev (fun k => live_sets.f k pn pp (R : Int) bs) (toI z) ∧ Ev (fun k => cubbyref11_In.f k pn pp (R : Int) bs) (z.map (toL R)) := by
 have O := ok_blocks F hF
 obtain ⟨z, hz, h1⟩ := sets_ev pn pp O
 obtain ⟨y, hy, h2⟩ := refin_ev pn pp O
 obtain rfl := hz.one hy
 refine ⟨z, hz, h1, ?_⟩
 have h3 := refcheck_ev pn pp (R : Int) bs hF
 rw [hc] at h3
 have hbl := O.len
 refine Ev.bind h3 (Ev.congr (fun k => ?_) h2)
 rw [zC rfl, zC (by omega), zC (by omega), Int.toNat_natCast]
end
theorem Sol.lt {R : Nat} {bs : List (List SIns)} {z : List Nat} (h : Sol R bs z) (b : Nat) : at_ z b < 2 ^ R := h.on.lt b
theorem Sol.len {R : Nat} {bs : List (List SIns)} {z : List Nat} (h : Sol R bs z) : z.length = bs.length := h.on.len
theorem aheadN_lt {R : Nat} {bs : List (List SIns)} (O : BlocksOk R bs) {z : List Nat} (hz : Sol R bs z) {b i : Nat} (hb : b < bs.length) : aheadN bs z b i < 2 ^ R := by
 unfold aheadN
 refine foldr_lt _ _ (fun x hx => ?_) (or_lt bs hz.lt _)
 have hx := List.mem_of_mem_drop hx
 rw [getD_get hb] at hx
 exact O.regs _ (List.getElem_mem hb) x hx
end Go.Proofs.YtpkimbkjjmbmcaaDoor.PlainLive
