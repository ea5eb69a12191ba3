/- For every input the law LiveAhead returns true, and its arguments read behind the call as they did: no condition. -/
import Derived.Test.YtebnnknijbgekaaDoorRows
import Derived.WalkKit
import Derived.ProofKit
import Derived.OpenShut
import Derived.ShutString
import Derived.ChangeOld
import Derived.Below
import Derived.SizedLaws
import Derived.Test.YtebnnknijbgekaaDoorCards
import Derived.Test.YtebnnknijbgekaaDoorTie
import Derived.LaidMore
import Derived.Lay
import Derived.SevenTiedAt
import Derived.Stop.Joined
import Derived.Lib.LaidU8
import Derived.Test.YtebnnknijbgekaaDoorMLv1
import Derived.Test.YtebnnknijbgekaaDoorMLv2
import Derived.Test.YtebnnknijbgekaaDoorMLv3
import Derived.Test.YtebnnknijbgekaaDoorMLv4
import Derived.Test.YtebnnknijbgekaaDoorMLv5
namespace Go.Proofs.YtebnnknijbgekaaDoor.Q
open Go.RowKit Go.Proofs.YtebnnknijbgekaaDoorW.PrintWords Go.Proofs.YtebnnknijbgekaaDoorW.PrintLast Go.Proofs.YtebnnknijbgekaaDoorW.PrintMore
attribute [local go_sem] max2_int min2_int max_two min_two max_three min_three max_four min_four   -- for this text's walks alone
set_option linter.unusedVariables false
set_option linter.unusedSimpArgs false

/-! ### cubbylaw11_LiveAhead: function 6 -/
def cubbylaw11_LiveAhead.f (k : Nat) (a0_0 : ByteArray) (a0_1 : Int) (a0_2 : Int) (l0_3 : List (List (SIns))) (a1 : Int) (a2 : Int) : Option (Bool) := (cubbylaw11_heavy.f k a0_0 a0_1 a0_2 l0_3).bind fun t381 => (if t381 = true then ((live_Check.f k (⟨#[]⟩ : ByteArray) 0 0 ([] : List (List (SIns)))).bind fun t382 => (some (t382 == 70))) else (if (l0_3.length : Int) = 0 then (none) else (if 0 ≤ (Int.tmod (wrap64 ((Int.tmod a1 (l0_3.length : Int)) + (l0_3.length : Int))) (l0_3.length : Int)) then (if (Int.tmod (wrap64 ((Int.tmod a1 (l0_3.length : Int)) + (l0_3.length : Int))) (l0_3.length : Int)) < (l0_3.length : Int) then ((live_Ahead.f k a0_0 a0_1 a0_2 l0_3 a1 a2).bind fun t384 => ((cubbyref11_Ahead.f k a0_0 a0_1 a0_2 l0_3 a1 a2).bind fun t387 => ((cubbylaw11_same.f k t384 t387).bind fun t390 => (if t390 = true then (if (wrap64 (((rd_LIns l0_3 (Int.tmod (wrap64 ((Int.tmod a1 (l0_3.length : Int)) + (l0_3.length : Int))) (l0_3.length : Int))).length : Int) + 1)) = 0 then (none) else ((live_Ahead.f k a0_0 a0_1 a0_2 l0_3 (Int.tmod (wrap64 ((Int.tmod a1 (l0_3.length : Int)) + (l0_3.length : Int))) (l0_3.length : Int)) (Int.tmod (wrap64 ((Int.tmod a2 (wrap64 (((rd_LIns l0_3 (Int.tmod (wrap64 ((Int.tmod a1 (l0_3.length : Int)) + (l0_3.length : Int))) (l0_3.length : Int))).length : Int) + 1))) + (wrap64 (((rd_LIns l0_3 (Int.tmod (wrap64 ((Int.tmod a1 (l0_3.length : Int)) + (l0_3.length : Int))) (l0_3.length : Int))).length : Int) + 1)))) (wrap64 (((rd_LIns l0_3 (Int.tmod (wrap64 ((Int.tmod a1 (l0_3.length : Int)) + (l0_3.length : Int))) (l0_3.length : Int))).length : Int) + 1)))).bind fun t391 => ((cubbyref11_Ahead.f k a0_0 a0_1 a0_2 l0_3 (Int.tmod (wrap64 ((Int.tmod a1 (l0_3.length : Int)) + (l0_3.length : Int))) (l0_3.length : Int)) (Int.tmod (wrap64 ((Int.tmod a2 (wrap64 (((rd_LIns l0_3 (Int.tmod (wrap64 ((Int.tmod a1 (l0_3.length : Int)) + (l0_3.length : Int))) (l0_3.length : Int))).length : Int) + 1))) + (wrap64 (((rd_LIns l0_3 (Int.tmod (wrap64 ((Int.tmod a1 (l0_3.length : Int)) + (l0_3.length : Int))) (l0_3.length : Int))).length : Int) + 1)))) (wrap64 (((rd_LIns l0_3 (Int.tmod (wrap64 ((Int.tmod a1 (l0_3.length : Int)) + (l0_3.length : Int))) (l0_3.length : Int))).length : Int) + 1)))).bind fun t394 => ((cubbylaw11_same.f k t391 t394).bind fun t397 => (some t397))))) else (some false))))) else (none)) else (none))))
theorem cubbylaw11_LiveAhead.mono : ∀ a0 a1 a2 a3 a4 a5 k, LeO (cubbylaw11_LiveAhead.f k a0 a1 a2 a3 a4 a5) (cubbylaw11_LiveAhead.f (k + 1) a0 a1 a2 a3 a4 a5) := by
 intro a0 a1 a2 a3 a4 a5 k
 unfold cubbylaw11_LiveAhead.f
 repeat' first | (with_reducible exact cubbylaw11_heavy.mono _ _ _ _ _) | (with_reducible exact cubbylaw11_same.mono _ _ _) | (with_reducible exact cubbyref11_Ahead.mono _ _ _ _ _ _ _) | (with_reducible exact live_Ahead.mono _ _ _ _ _ _ _) | (with_reducible exact live_Check.mono _ _ _ _ _) | (with_reducible exact LeO.refl _) | (with_reducible exact LeO.none _) | (with_reducible refine LeO.ite ?_ ?_) | (with_reducible refine LeO.bind ?_ (fun _ => ?_)) | exact LeO.none _ | refine LeO.ite ?_ ?_ | refine LeO.bind ?_ (fun _ => ?_)
def cubbylaw11_LiveAhead.T3 : Bool × List (List Nat × List Nat) := (true, [([], []), ([], []), ([1], [1]), ([2], [2]), ([0, 3], [0, 3]), ([], []), ([5], [5]), ([6], [6]), ([4, 7], [4, 7]), ([], []), ([9], [9]), ([10], [10]), ([8, 11], [8, 11]), ([12, 0, 1, 2, 3, 4, 5, 6, 7, 8, 9, 10, 11, 12], [12])])
def cubbylaw11_LiveAhead.B3 : List Nat := [0, 0, 2, 6, 15, 0, 32, 96, 255, 0, 512, 1536, 4095, 8191]
theorem cubbylaw11_LiveAhead.tab3 : rtab .any (opsOf Tryd.f6 3) = cubbylaw11_LiveAhead.T3 := by kernel_rfl
theorem cubbylaw11_LiveAhead.bits3 : waitsOk cubbylaw11_LiveAhead.T3.2 cubbylaw11_LiveAhead.B3 = true := by kernel_rfl
def cubbylaw11_LiveAhead.T5 : Bool × List (List Nat × List Nat) := (true, [([], []), ([], []), ([], []), ([0, 1, 2], [0, 1, 2]), ([], []), ([], []), ([], []), ([4, 5, 6, 3], [4, 5, 6]), ([3, 7, 7], [3, 7]), ([8, 8], [8]), ([9], [9]), ([9], [9]), ([9], [9]), ([9], [9]), ([12, 13, 9], [9, 12, 13]), ([9], [9]), ([14, 15, 9], [9, 14, 15]), ([9], [9]), ([16, 17, 9], [9, 16, 17]), ([10, 11, 18, 9, 9], [9, 10, 11, 18]), ([9], [9]), ([9], [9]), ([9], [9]), ([9], [9]), ([22, 23, 9], [9, 22, 23]), ([9], [9]), ([24, 25, 9], [9, 24, 25]), ([9], [9]), ([26, 27, 9], [9, 26, 27]), ([20, 21, 28, 19, 9], [9, 20, 21, 28]), ([19, 29, 29, 9], [9, 19, 29]), ([9, 30], [9, 30]), ([31, 30, 0, 1, 2, 3, 4, 5, 6, 7, 8, 9, 10, 11, 12, 13, 14, 15, 16, 17, 18, 19, 20, 21, 22, 23, 24, 25, 26, 27, 28, 29, 30, 31], [31])])
def cubbylaw11_LiveAhead.B5 : List Nat := [0, 0, 0, 7, 0, 0, 0, 127, 255, 511, 1023, 1023, 1023, 1023, 13311, 1023, 62463, 1023, 259071, 524287, 1023, 1023, 1023, 1023, 12583935, 1023, 62915583, 1023, 264242175, 536870911, 1073741823, 2147483647, 4294967295]
theorem cubbylaw11_LiveAhead.tab5 : rtab .any (opsOf Tryd.f6 5) = cubbylaw11_LiveAhead.T5 := by kernel_rfl
theorem cubbylaw11_LiveAhead.bits5 : waitsOk cubbylaw11_LiveAhead.T5.2 cubbylaw11_LiveAhead.B5 = true := by kernel_rfl
set_option maxHeartbeats 8000000 in
set_option maxRecDepth 100000 in
theorem cubbylaw11_LiveAhead.calls (k : Nat) (a0_0 : ByteArray) (a0_1 : Int) (a0_2 : Int) (A0_3 : Option Addr) (c0_3 : Nat) (l0_3 : List (List (SIns))) (a1 : Int) (a2 : Int) (r : Bool) (w : World) (hL : LaidW w) (hr : r = true) (hr0_3 : Kd.C (Kd.slice 31 kIns) w A0_3 l0_3.length l0_3) (hc0_3 : l0_3.length ≤ c0_3) (h : cubbylaw11_LiveAhead.f k a0_0 a0_1 a0_2 l0_3 a1 a2 = some r) :
  Calls Tryd.prog 6 #[.agg #[.string a0_0, .int .i64 a0_1, .int .i64 a0_2, .slice A0_3 l0_3.length c0_3], .int .i64 a1, .int .i64 a2] w fun e w' => e = .returned (.bool r) ∧ Below w.heap.size w w' := by
 have hu34 := Tryd.underlying34
 have HR0_3 := Aside0.mk hr0_3
 have HC0_3 := Aside0.mk hc0_3
 clear hr0_3 hc0_3
 have HB := Aside0.mk (Below.refl w.heap.size w)
 have HLd := Aside0.mk hL
 clear hL
 have HRt := Aside0.mk hr
 clear hr
 have H := h; clear h; unfold cubbylaw11_LiveAhead.f at H
 replace H := qb H; obtain ⟨t381, A4, H⟩ := H
 by_cases c5 : t381 = true
 ·subst c5
  have H1 : ((live_Check.f k (⟨#[]⟩ : ByteArray) 0 0 ([] : List (List (SIns)))).bind fun t382 => (some (t382 == 70))) = some r := by rw [if_pos rfl] at H; exact H
  clear H
  have H := H1
  clear H1
  replace H := qb H; obtain ⟨t382, A6, H⟩ := H
  obtain rfl := Option.some.inj H
  go_enter Tryd.func6, Tryd.ntmps6
  go_wp2_with (first | ((with_reducible refine gate_dst (N := 3) rfl ?_); refine box_event (by rfl) (N := 3) (by rfl) (cs := #[.string a0_0, .int .i64 a0_1, .int .i64 a0_2, .slice A0_3 l0_3.length c0_3]) (t := 34) ?hr ?_; (case hr => first | (go_simp; done) | (go_simp; rfl)); intro gb380 hg w7 hbox hb; have BK380 := Aside0.mk (hbox); have GW380 := qG hg; have GE380 := GW380; replace HB := qH hb; clear hb hbox hg; obtain ⟨hcz8_0, hcz8_1, hcz8_2, hcz8_3, hfz8_0, hfz8_1, hfz8_2, hfz8_3⟩ := bk4 BK380.out) | ((with_reducible refine gate_callee (f := 19) rfl ?_); refine goesL_ (some 10) rfl rfl Tryd.func19 (by kernel_rfl) rfl #[.agg #[.string a0_0, .int .i64 a0_1, .int .i64 a0_2, .slice A0_3 l0_3.length c0_3]] rfl qL ?_; (with_reducible refine (cubbylaw11_heavy.calls k a0_0 a0_1 a0_2 _ _ l0_3 true _ ?side1 ?side2 A4.out).mono ?_); (case side1 => exact qCB HR0_3.out); (case side2 => exact HC0_3.out); rintro e w9 ⟨rfl, hb⟩; refine ⟨_, rfl, ?_⟩; replace BK380 := qW BK380 hb; replace HB := qH hb; (try clear hb)) | ((with_reducible refine gate_callee (f := 20) rfl ?_); refine goesL_ (some 12) rfl rfl Tryd.func20 (by kernel_rfl) rfl #[.agg #[.string (⟨#[]⟩ : ByteArray), .int .i64 0, .int .i64 0, .slice none 0 0]] rfl qL ?_; (refine (live_Check.calls k (⟨#[]⟩ : ByteArray) 0 0 _ _ ([] : List (List (SIns))) t382 _ ?side1 ?side2 A6.out (hL := ?side99)).mono ?_); (case side1 => exact Kd.C_nil _ _); (case side2 => exact Nat.le_refl _); (case side99 => exact LaidW.below HLd.out qB); rintro e w10 ⟨rfl, hb⟩; refine ⟨_, rfl, ?_⟩; replace BK380 := qW BK380 hb; replace HB := qH hb; (try clear hb)))
  go_ret
  exact ⟨qE, qB⟩
 ·replace c5 := Bool.eq_false_iff.mpr c5
  subst c5
  have H1 : (if (l0_3.length : Int) = 0 then (none) else (if 0 ≤ (Int.tmod (wrap64 ((Int.tmod a1 (l0_3.length : Int)) + (l0_3.length : Int))) (l0_3.length : Int)) then (if (Int.tmod (wrap64 ((Int.tmod a1 (l0_3.length : Int)) + (l0_3.length : Int))) (l0_3.length : Int)) < (l0_3.length : Int) then ((live_Ahead.f k a0_0 a0_1 a0_2 l0_3 a1 a2).bind fun t384 => ((cubbyref11_Ahead.f k a0_0 a0_1 a0_2 l0_3 a1 a2).bind fun t387 => ((cubbylaw11_same.f k t384 t387).bind fun t390 => (if t390 = true then (if (wrap64 (((rd_LIns l0_3 (Int.tmod (wrap64 ((Int.tmod a1 (l0_3.length : Int)) + (l0_3.length : Int))) (l0_3.length : Int))).length : Int) + 1)) = 0 then (none) else ((live_Ahead.f k a0_0 a0_1 a0_2 l0_3 (Int.tmod (wrap64 ((Int.tmod a1 (l0_3.length : Int)) + (l0_3.length : Int))) (l0_3.length : Int)) (Int.tmod (wrap64 ((Int.tmod a2 (wrap64 (((rd_LIns l0_3 (Int.tmod (wrap64 ((Int.tmod a1 (l0_3.length : Int)) + (l0_3.length : Int))) (l0_3.length : Int))).length : Int) + 1))) + (wrap64 (((rd_LIns l0_3 (Int.tmod (wrap64 ((Int.tmod a1 (l0_3.length : Int)) + (l0_3.length : Int))) (l0_3.length : Int))).length : Int) + 1)))) (wrap64 (((rd_LIns l0_3 (Int.tmod (wrap64 ((Int.tmod a1 (l0_3.length : Int)) + (l0_3.length : Int))) (l0_3.length : Int))).length : Int) + 1)))).bind fun t391 => ((cubbyref11_Ahead.f k a0_0 a0_1 a0_2 l0_3 (Int.tmod (wrap64 ((Int.tmod a1 (l0_3.length : Int)) + (l0_3.length : Int))) (l0_3.length : Int)) (Int.tmod (wrap64 ((Int.tmod a2 (wrap64 (((rd_LIns l0_3 (Int.tmod (wrap64 ((Int.tmod a1 (l0_3.length : Int)) + (l0_3.length : Int))) (l0_3.length : Int))).length : Int) + 1))) + (wrap64 (((rd_LIns l0_3 (Int.tmod (wrap64 ((Int.tmod a1 (l0_3.length : Int)) + (l0_3.length : Int))) (l0_3.length : Int))).length : Int) + 1)))) (wrap64 (((rd_LIns l0_3 (Int.tmod (wrap64 ((Int.tmod a1 (l0_3.length : Int)) + (l0_3.length : Int))) (l0_3.length : Int))).length : Int) + 1)))).bind fun t394 => ((cubbylaw11_same.f k t391 t394).bind fun t397 => (some t397))))) else (some false))))) else (none)) else (none))) = some r := by rw [if_neg (show ¬ (false = true) by decide)] at H; exact H
  clear H
  have H := H1
  clear H1
  by_cases c11 : (l0_3.length : Int) = 0
  ·rw [if_pos c11] at H
   exact absurd H (by simp)
  ·rw [if_neg c11] at H
   obtain ⟨c11b0, c11b1⟩ := qn c11
   have c11b2 : ¬ (l0_3 = []) := fun h_ => c11 (by rw [h_]; rfl)
   obtain ⟨ji12, hji12⟩ : ∃ j_ : Int, (Int.tmod (wrap64 ((Int.tmod a1 (l0_3.length : Int)) + (l0_3.length : Int))) (l0_3.length : Int)) = j_ := ⟨_, rfl⟩
   replace H : (if 0 ≤ (ji12) then (if (ji12) < (l0_3.length : Int) then ((live_Ahead.f k a0_0 a0_1 a0_2 l0_3 a1 a2).bind fun t384 => ((cubbyref11_Ahead.f k a0_0 a0_1 a0_2 l0_3 a1 a2).bind fun t387 => ((cubbylaw11_same.f k t384 t387).bind fun t390 => (if t390 = true then (if (wrap64 (((rd_LIns l0_3 (ji12)).length : Int) + 1)) = 0 then (none) else ((live_Ahead.f k a0_0 a0_1 a0_2 l0_3 (ji12) (Int.tmod (wrap64 ((Int.tmod a2 (wrap64 (((rd_LIns l0_3 (ji12)).length : Int) + 1))) + (wrap64 (((rd_LIns l0_3 (ji12)).length : Int) + 1)))) (wrap64 (((rd_LIns l0_3 (ji12)).length : Int) + 1)))).bind fun t391 => ((cubbyref11_Ahead.f k a0_0 a0_1 a0_2 l0_3 (ji12) (Int.tmod (wrap64 ((Int.tmod a2 (wrap64 (((rd_LIns l0_3 (ji12)).length : Int) + 1))) + (wrap64 (((rd_LIns l0_3 (ji12)).length : Int) + 1)))) (wrap64 (((rd_LIns l0_3 (ji12)).length : Int) + 1)))).bind fun t394 => ((cubbylaw11_same.f k t391 t394).bind fun t397 => (some t397))))) else (some false))))) else (none)) else (none)) = some r := by first | (rw [hji12] at H; exact H) | (simp only [hji12] at H ⊢; exact H)
   (try rw [hji12] at A4)
   by_cases c13 : 0 ≤ (ji12)
   ·rw [if_pos c13] at H
    have c13b0 := decide_eq_true c13
    clear c13
    by_cases c14 : (ji12) < (l0_3.length : Int)
    ·rw [if_pos c14] at H
     have c14b0 := decide_eq_true c14
     clear c14
     replace H := qb H; obtain ⟨t384, A15, H⟩ := H
     replace H := qb H; obtain ⟨t387, A16, H⟩ := H
     replace H := qb H; obtain ⟨t390, A17, H⟩ := H
     by_cases c18 : t390 = true
     ·subst c18
      have H1 : (if (wrap64 (((rd_LIns l0_3 (ji12)).length : Int) + 1)) = 0 then (none) else ((live_Ahead.f k a0_0 a0_1 a0_2 l0_3 (ji12) (Int.tmod (wrap64 ((Int.tmod a2 (wrap64 (((rd_LIns l0_3 (ji12)).length : Int) + 1))) + (wrap64 (((rd_LIns l0_3 (ji12)).length : Int) + 1)))) (wrap64 (((rd_LIns l0_3 (ji12)).length : Int) + 1)))).bind fun t391 => ((cubbyref11_Ahead.f k a0_0 a0_1 a0_2 l0_3 (ji12) (Int.tmod (wrap64 ((Int.tmod a2 (wrap64 (((rd_LIns l0_3 (ji12)).length : Int) + 1))) + (wrap64 (((rd_LIns l0_3 (ji12)).length : Int) + 1)))) (wrap64 (((rd_LIns l0_3 (ji12)).length : Int) + 1)))).bind fun t394 => ((cubbylaw11_same.f k t391 t394).bind fun t397 => (some t397))))) = some r := by rw [if_pos rfl] at H; exact H
      clear H
      have H := H1
      clear H1
      by_cases c19 : (wrap64 (((rd_LIns l0_3 (ji12)).length : Int) + 1)) = 0
      ·rw [if_pos c19] at H
       exact absurd H (by simp)
      ·rw [if_neg c19] at H
       obtain ⟨c19b0, c19b1⟩ := qn c19
       replace H := qb H; obtain ⟨t391, A20, H⟩ := H
       replace H := qb H; obtain ⟨t394, A21, H⟩ := H
       replace H := qb H; obtain ⟨t397, A22, H⟩ := H
       obtain rfl := Option.some.inj H
       go_enter Tryd.func6, Tryd.ntmps6
       try go_wp2_with (first | ((with_reducible refine gate_dst (N := 3) rfl ?_); refine box_event (by rfl) (N := 3) (by rfl) (cs := #[.string a0_0, .int .i64 a0_1, .int .i64 a0_2, .slice A0_3 l0_3.length c0_3]) (t := 34) ?hr ?_; (case hr => first | (go_simp; done) | (go_simp; rfl)); intro gb380 hg w23 hbox hb; have BK380 := Aside0.mk (hbox); have GW380 := qG hg; have GE380 := GW380; replace HB := qH hb; clear hb hbox hg; obtain ⟨hcz24_0, hcz24_1, hcz24_2, hcz24_3, hfz24_0, hfz24_1, hfz24_2, hfz24_3⟩ := bk4 BK380.out) | ((with_reducible refine gate_callee (f := 19) rfl ?_); refine goesL_ (some 10) rfl rfl Tryd.func19 (by kernel_rfl) rfl #[.agg #[.string a0_0, .int .i64 a0_1, .int .i64 a0_2, .slice A0_3 l0_3.length c0_3]] rfl qL ?_; (with_reducible refine (cubbylaw11_heavy.calls k a0_0 a0_1 a0_2 _ _ l0_3 false _ ?side1 ?side2 A4.out).mono ?_); (case side1 => exact qCB HR0_3.out); (case side2 => exact HC0_3.out); rintro e w25 ⟨rfl, hb⟩; refine ⟨_, rfl, ?_⟩; replace BK380 := qW BK380 hb; replace HB := qH hb; (try clear hb)))
       have n0_ := Aside0.mk (blk_drew BK380.out)
       have n1_ := Aside0.mk (below_drew1 HB.out)
       clear BK380
       clear HB
       have BK380 := n0_
       have HB := n1_
       clear n0_ n1_
       refine start_ (n := 14) (S := fun w' => w'.cell? ⟨gb380, 0, none⟩ = some (.string a0_0) ∧ w'.cell? ⟨gb380, 1, none⟩ = some (.int .i64 a0_1) ∧ w'.cell? ⟨gb380, 2, none⟩ = some (.int .i64 a0_2) ∧ w'.cell? ⟨gb380, 3, none⟩ = some (.slice A0_3 l0_3.length c0_3)) (ds := []) #[false, false, false, false, false, false, false, false, false, false, false, false, false, false] (by kernel_rfl) rfl rfl ⟨(blk_cell BK380.out 0).trans rfl, (blk_cell BK380.out 1).trans rfl, (blk_cell BK380.out 2).trans rfl, (blk_cell BK380.out 3).trans rfl⟩ (fun hHeld => ?_); refine with_tabW cubbylaw11_LiveAhead.tab3 cubbylaw11_LiveAhead.bits3 (fun HT_ HW_ => ?_)
       generalize w25.drew = w26 at BK380 HB hHeld ⊢
       refine pure_ (i := 0) (N := some 14) (v := ?_) (a' := ?_) #[true, false, false, false, false, false, false, false, false, false, false, false, false, false] rfl rfl (any_of HT_.out (by kernel_rfl)) (fun _ _ _ h => h) (Or.inl ⟨by rfl, ?_⟩) ?_ ?_
       rotate_left
       ·intro w'
        go_simp
        with_reducible rfl
       rotate_left
       ·simp only [Act.put, List.setIfInBounds_toArray, List.set_cons_zero, List.set_cons_succ, i64_w, i32_w]
        rfl
       refine pure_ (i := 1) (N := some 15) (v := ?_) (a' := ?_) #[true, true, false, false, false, false, false, false, false, false, false, false, false, false] rfl rfl (any_of HT_.out (by kernel_rfl)) (fun _ _ _ h => h) (Or.inl ⟨by rfl, ?_⟩) ?_ ?_
       rotate_left
       ·intro w'
        go_simp
        with_reducible rfl
       rotate_left
       ·simp only [Act.put, List.setIfInBounds_toArray, List.set_cons_zero, List.set_cons_succ, i64_w, i32_w]
        rfl
       refine pure_ (i := 5) (N := some 19) (v := ?_) (a' := ?_) #[true, true, false, false, false, true, false, false, false, false, false, false, false, false] rfl rfl (any_of HT_.out (by kernel_rfl)) (fun _ _ _ h => h) (Or.inl ⟨by rfl, ?_⟩) ?_ ?_
       rotate_left
       ·intro w'
        go_simp
        with_reducible rfl
       rotate_left
       ·simp only [Act.put, List.setIfInBounds_toArray, List.set_cons_zero, List.set_cons_succ, i64_w, i32_w]
        rfl
       refine pure_ (i := 9) (N := some 23) (v := ?_) (a' := ?_) #[true, true, false, false, false, true, false, false, false, true, false, false, false, false] rfl rfl (any_of HT_.out (by kernel_rfl)) (fun _ _ _ h => h) (Or.inl ⟨by rfl, ?_⟩) ?_ ?_
       rotate_left
       ·intro w'
        go_simp
        with_reducible rfl
       rotate_left
       ·simp only [Act.put, List.setIfInBounds_toArray, List.set_cons_zero, List.set_cons_succ, i64_w, i32_w]
        rfl
       refine take_ (i := 2) (N := some 16) (v := ?_) (a' := ?_) #[true, true, true, false, false, true, false, false, false, true, false, false, false, false] rfl rfl (take_ofW HT_.out HW_.out (by kernel_rfl)) (fun _ _ _ h => h) (Or.inl ⟨by rfl, ?_⟩) hHeld ?_ ?_
       rotate_left
       ·rintro w' ⟨s0, s1, s2, s3⟩
        go_simp
        with_reducible rfl
       rotate_left
       ·simp only [Act.put, List.setIfInBounds_toArray, List.set_cons_zero, List.set_cons_succ, i64_w, i32_w]
        rfl
       refine pure_ (i := 3) (N := some 17) (v := ?_) (a' := ?_) #[true, true, true, true, false, true, false, false, false, true, false, false, false, false] rfl rfl (any_of HT_.out (by kernel_rfl)) (fun _ _ _ h => h) (Or.inl ⟨by rfl, ?_⟩) ?_ ?_
       rotate_left
       ·intro w'
        go_simp
        with_reducible rfl
       rotate_left
       ·simp only [Act.put, List.setIfInBounds_toArray, List.set_cons_zero, List.set_cons_succ, i64_w, i32_w]
        rfl
       refine pure_ (i := 4) (N := some 18) (v := ?_) (a' := ?_) #[true, true, true, true, true, true, false, false, false, true, false, false, false, false] rfl rfl (any_of HT_.out (by kernel_rfl)) (fun _ _ _ h => h) (Or.inl ⟨by rfl, ?_⟩) ?_ ?_
       rotate_left
       ·intro w'
        go_simp
        with_reducible rfl
       rotate_left
       ·simp only [Act.put, List.setIfInBounds_toArray, List.set_cons_zero, List.set_cons_succ, i64_w, i32_w]
        rfl
       refine take_ (i := 6) (N := some 20) (v := ?_) (a' := ?_) #[true, true, true, true, true, true, true, false, false, true, false, false, false, false] rfl rfl (take_ofW HT_.out HW_.out (by kernel_rfl)) (fun _ _ _ h => h) (Or.inl ⟨by rfl, ?_⟩) hHeld ?_ ?_
       rotate_left
       ·rintro w' ⟨s0, s1, s2, s3⟩
        go_simp
        with_reducible rfl
       rotate_left
       ·simp only [Act.put, List.setIfInBounds_toArray, List.set_cons_zero, List.set_cons_succ, i64_w, i32_w]
        rfl
       refine pure_ (i := 7) (N := some 21) (v := ?_) (a' := ?_) #[true, true, true, true, true, true, true, true, false, true, false, false, false, false] rfl rfl (any_of HT_.out (by kernel_rfl)) (fun _ _ _ h => h) (Or.inl ⟨by rfl, ?_⟩) ?_ ?_
       rotate_left
       ·intro w'
        go_simp
        with_reducible rfl
       rotate_left
       ·simp only [Act.put, List.setIfInBounds_toArray, List.set_cons_zero, List.set_cons_succ, i64_w, i32_w]
        rfl
       refine pure_ (i := 8) (N := some 22) (v := ?_) (a' := ?_) #[true, true, true, true, true, true, true, true, true, true, false, false, false, false] rfl rfl (any_of HT_.out (by kernel_rfl)) (fun _ _ _ h => h) (Or.inl ⟨by rfl, ?_⟩) ?_ ?_
       rotate_left
       ·intro w'
        go_simp
        with_reducible rfl
       rotate_left
       ·simp only [Act.put, List.setIfInBounds_toArray, List.set_cons_zero, List.set_cons_succ, i64_w, i32_w]
        rfl
       refine take_ (i := 10) (N := some 24) (v := ?_) (a' := ?_) #[true, true, true, true, true, true, true, true, true, true, true, false, false, false] rfl rfl (take_ofW HT_.out HW_.out (by kernel_rfl)) (fun _ _ _ h => h) (Or.inl ⟨by rfl, ?_⟩) hHeld ?_ ?_
       rotate_left
       ·rintro w' ⟨s0, s1, s2, s3⟩
        go_simp
        with_reducible rfl
       rotate_left
       ·simp only [Act.put, List.setIfInBounds_toArray, List.set_cons_zero, List.set_cons_succ, i64_w, i32_w]
        rfl
       refine pure_ (i := 11) (N := some 25) (v := ?_) (a' := ?_) #[true, true, true, true, true, true, true, true, true, true, true, true, false, false] rfl rfl (any_of HT_.out (by kernel_rfl)) (fun _ _ _ h => h) (Or.inl ⟨by rfl, ?_⟩) ?_ ?_
       rotate_left
       ·intro w'
        go_simp
        with_reducible rfl
       rotate_left
       ·simp only [Act.put, List.setIfInBounds_toArray, List.set_cons_zero, List.set_cons_succ, i64_w, i32_w]
        rfl
       refine pure_ (i := 12) (N := some 26) (v := ?_) (a' := ?_) #[true, true, true, true, true, true, true, true, true, true, true, true, true, false] rfl rfl (any_of HT_.out (by kernel_rfl)) (fun _ _ _ h => h) (Or.inl ⟨by rfl, ?_⟩) ?_ ?_
       rotate_left
       ·intro w'
        go_simp
        with_reducible rfl
       rotate_left
       ·simp only [Act.put, List.setIfInBounds_toArray, List.set_cons_zero, List.set_cons_succ, i64_w, i32_w]
        rfl
       refine pure_ (i := 13) (N := some 7) (v := ?_) (a' := ?_) #[true, true, true, true, true, true, true, true, true, true, true, true, true, true] rfl rfl (any_of HT_.out (by kernel_rfl)) (fun _ _ _ h => h) (Or.inl ⟨by rfl, ?_⟩) ?_ ?_
       rotate_left
       ·intro w'
        go_simp
        with_reducible rfl
       rotate_left
       ·simp only [Act.put, List.setIfInBounds_toArray, List.set_cons_zero, List.set_cons_succ, i64_w, i32_w]
        rfl
       refine done_ (done_of HT_.out (by kernel_rfl)) ?_
       obtain ⟨hcz27_0, hcz27_1, hcz27_2, hcz27_3, hfz27_0, hfz27_1, hfz27_2, hfz27_3⟩ := bk4 BK380.out
       have p383 : 0 ≤ ((ji12) : Int) := of_decide_eq_true qA
       have q383 : (ji12) < (l0_3.length : Int) := of_decide_eq_true qA
       obtain ⟨ad383, A383_0, c383_0, e383, hx383_0, hl383_0, hi383_0⟩ := at_LIns HR0_3.out (ji12) p383 q383
       cases e383
       replace hx383_0 := (HB.out.cell (World.block_lt_of_cell? w _ hx383_0)).trans hx383_0
       have HR383_0 := Aside0.mk hi383_0
       have HC383_0 := Aside0.mk hl383_0
       clear hi383_0 hl383_0
       replace p383 := eq_true p383
       replace q383 := eq_true q383
       try go_wp2
       have n0_ := Aside0.mk (blk_drew BK380.out)
       have n1_ := Aside0.mk (below_drew1 HB.out)
       clear BK380
       clear HB
       have BK380 := n0_
       have HB := n1_
       clear n0_ n1_
       refine start_ (n := 33) (S := fun w' => w'.cell? ⟨gb380, 0, none⟩ = some (.string a0_0) ∧ w'.cell? ⟨gb380, 1, none⟩ = some (.int .i64 a0_1) ∧ w'.cell? ⟨gb380, 2, none⟩ = some (.int .i64 a0_2) ∧ w'.cell? ⟨gb380, 3, none⟩ = some (.slice (some ad383) l0_3.length c0_3)) (ds := []) #[false, false, false, false, false, false, false, false, false, false, false, false, false, false, false, false, false, false, false, false, false, false, false, false, false, false, false, false, false, false, false, false, false] (by kernel_rfl) rfl rfl ⟨(blk_cell BK380.out 0).trans rfl, (blk_cell BK380.out 1).trans rfl, (blk_cell BK380.out 2).trans rfl, (blk_cell BK380.out 3).trans rfl⟩ (fun hHeld => ?_); refine with_tabW cubbylaw11_LiveAhead.tab5 cubbylaw11_LiveAhead.bits5 (fun HT_ HW_ => ?_)
       generalize w26.drew = w28 at BK380 HB hHeld ⊢
       refine pure_ (i := 1) (N := some 35) (v := ?_) (a' := ?_) #[false, true, false, false, false, false, false, false, false, false, false, false, false, false, false, false, false, false, false, false, false, false, false, false, false, false, false, false, false, false, false, false, false] rfl rfl (any_of HT_.out (by kernel_rfl)) (fun _ _ _ h => h) (Or.inl ⟨by rfl, ?_⟩) ?_ ?_
       rotate_left
       ·intro w'
        go_simp
        with_reducible rfl
       rotate_left
       ·simp only [Act.put, List.setIfInBounds_toArray, List.set_cons_zero, List.set_cons_succ, i64_w, i32_w]
        rfl
       refine pure_ (i := 2) (N := some 36) (v := ?_) (a' := ?_) #[false, true, true, false, false, false, false, false, false, false, false, false, false, false, false, false, false, false, false, false, false, false, false, false, false, false, false, false, false, false, false, false, false] rfl rfl (any_of HT_.out (by kernel_rfl)) (fun _ _ _ h => h) (Or.inl ⟨by rfl, ?_⟩) ?_ ?_
       rotate_left
       ·intro w'
        go_simp
        with_reducible rfl
       rotate_left
       ·simp only [Act.put, List.setIfInBounds_toArray, List.set_cons_zero, List.set_cons_succ, i64_w, i32_w]
        rfl
       refine pure_ (i := 5) (N := some 39) (v := ?_) (a' := ?_) #[false, true, true, false, false, true, false, false, false, false, false, false, false, false, false, false, false, false, false, false, false, false, false, false, false, false, false, false, false, false, false, false, false] rfl rfl (any_of HT_.out (by kernel_rfl)) (fun _ _ _ h => h) (Or.inl ⟨by rfl, ?_⟩) ?_ ?_
       rotate_left
       ·intro w'
        go_simp
        with_reducible rfl
       rotate_left
       ·simp only [Act.put, List.setIfInBounds_toArray, List.set_cons_zero, List.set_cons_succ, i64_w, i32_w]
        rfl
       refine pure_ (i := 6) (N := some 40) (v := ?_) (a' := ?_) #[false, true, true, false, false, true, true, false, false, false, false, false, false, false, false, false, false, false, false, false, false, false, false, false, false, false, false, false, false, false, false, false, false] rfl rfl (any_of HT_.out (by kernel_rfl)) (fun _ _ _ h => h) (Or.inl ⟨by rfl, ?_⟩) ?_ ?_
       rotate_left
       ·intro w'
        go_simp
        with_reducible rfl
       rotate_left
       ·simp only [Act.put, List.setIfInBounds_toArray, List.set_cons_zero, List.set_cons_succ, i64_w, i32_w]
        rfl
       refine take_ (i := 0) (N := some 34) (v := ?_) (a' := ?_) #[true, true, true, false, false, true, true, false, false, false, false, false, false, false, false, false, false, false, false, false, false, false, false, false, false, false, false, false, false, false, false, false, false] rfl rfl (take_ofW HT_.out HW_.out (by kernel_rfl)) (fun _ _ _ h => h) (Or.inl ⟨by rfl, ?_⟩) hHeld ?_ ?_
       rotate_left
       ·rintro w' ⟨s0, s1, s2, s3⟩
        go_simp
        with_reducible rfl
       rotate_left
       ·simp only [Act.put, List.setIfInBounds_toArray, List.set_cons_zero, List.set_cons_succ, i64_w, i32_w]
        rfl
       refine take_ (i := 4) (N := some 38) (v := ?_) (a' := ?_) #[true, true, true, false, true, true, true, false, false, false, false, false, false, false, false, false, false, false, false, false, false, false, false, false, false, false, false, false, false, false, false, false, false] rfl rfl (take_ofW HT_.out HW_.out (by kernel_rfl)) (fun _ _ _ h => h) (Or.inl ⟨by rfl, ?_⟩) hHeld ?_ ?_
       rotate_left
       ·rintro w' ⟨s0, s1, s2, s3⟩
        go_simp
        with_reducible rfl
       rotate_left
       ·simp only [Act.put, List.setIfInBounds_toArray, List.set_cons_zero, List.set_cons_succ, i64_w, i32_w]
        rfl
       refine one_ (i := 3) (N := some 37) #[true, true, true, true, true, true, true, false, false, false, false, false, false, false, false, false, false, false, false, false, false, false, false, false, false, false, false, false, false, false, false, false, false] rfl rfl (one_of HT_.out (by kernel_rfl)) (by decide) (fun K hK => ?_)
       refine goes_ Tryd.func22 (by kernel_rfl) rfl #[.agg #[.string a0_0, .int .i64 a0_1, .int .i64 a0_2, .slice (some ad383) l0_3.length c0_3], .int .i64 a1, .int .i64 a2] (by rfl) rfl rfl qL ?_
       with_reducible refine (live_Ahead.calls k a0_0 a0_1 a0_2 _ _ l0_3 a1 a2 t384 _ ?side1 ?side2 A15.out (hL := ?side99)).mono ?_
       (case side1 => exact qCB HR0_3.out)
       (case side2 => exact HC0_3.out)
       (case side99 => exact LaidW.below HLd.out qB)
       rintro e w29 ⟨v385, rfl, ho0, hb⟩
       refine ⟨_, rfl, ?_⟩
       have n0_ := Aside0.mk (Kd.R_lower ho0 (below_size qB))
       have n1_ := qW BK380 hb
       have n2_ := qH hb
       clear BK380
       clear HB
       have HO386 := n0_
       have BK380 := n1_
       have HB := n2_
       clear n0_ n1_ n2_
       (try clear hb)
       (try clear hb2)
       (try clear hk)
       (try clear hi)
       (try clear ho0)
       refine hK.out _ _ ⟨(blk_cell BK380.out 0).trans rfl, (blk_cell BK380.out 1).trans rfl, (blk_cell BK380.out 2).trans rfl, (blk_cell BK380.out 3).trans rfl⟩ (fun hHeld => ?_)
       clear hK K
       refine norm_ (a' := ?_) ?_ ?_
       rotate_left
       ·show Act.put _ (some 37) _ = _
        simp only [Act.put, List.setIfInBounds_toArray, List.set_cons_zero, List.set_cons_succ, i64_w, i32_w]
        rfl
       refine one_ (i := 7) (N := some 41) #[true, true, true, true, true, true, true, true, false, false, false, false, false, false, false, false, false, false, false, false, false, false, false, false, false, false, false, false, false, false, false, false, false] rfl rfl (one_of HT_.out (by kernel_rfl)) (by decide) (fun K hK => ?_)
       refine goes_ Tryd.func23 (by kernel_rfl) rfl #[.agg #[.string a0_0, .int .i64 a0_1, .int .i64 a0_2, .slice (some ad383) l0_3.length c0_3], .int .i64 a1, .int .i64 a2] (by rfl) rfl rfl qL ?_
       with_reducible refine (cubbyref11_Ahead.calls k a0_0 a0_1 a0_2 _ _ l0_3 a1 a2 t387 _ ?side1 ?side2 A16.out).mono ?_
       (case side1 => exact qCB HR0_3.out)
       (case side2 => exact HC0_3.out)
       rintro e w30 ⟨v388, rfl, ho0, hb⟩
       refine ⟨_, rfl, ?_⟩
       have n0_ := Aside0.mk (Kd.R_elder' (qR HO386.out) (Kd.R_base ho0) hb)
       have n1_ := Aside0.mk (Kd.R_lower (Kd.R_new' ho0 (Kd.R_lt (qR HO386.out))) (below_size qB))
       have n2_ := qW BK380 hb
       have n3_ := qH hb
       clear HO386
       clear BK380
       clear HB
       have HO386 := n0_
       have HO389 := n1_
       have BK380 := n2_
       have HB := n3_
       clear n0_ n1_ n2_ n3_
       (try clear hb)
       (try clear hb2)
       (try clear hk)
       (try clear hi)
       (try clear ho0)
       obtain ⟨Ao31, co31, eo31⟩ := Kd.R_slice HO386.out
       (first | subst eo31 | (injection eo31 with f1_ f2_ f3_; have f4_ := f1_.symm; have f5_ := f3_.symm; clear f1_ f2_ f3_; subst f4_; subst f5_))
       obtain ⟨Ao32, co32, eo32⟩ := Kd.R_slice HO389.out
       (first | subst eo32 | (injection eo32 with f1_ f2_ f3_; have f4_ := f1_.symm; have f5_ := f3_.symm; clear f1_ f2_ f3_; subst f4_; subst f5_))
       refine hK.out _ _ ⟨(blk_cell BK380.out 0).trans rfl, (blk_cell BK380.out 1).trans rfl, (blk_cell BK380.out 2).trans rfl, (blk_cell BK380.out 3).trans rfl⟩ (fun hHeld => ?_)
       clear hK K
       refine norm_ (a' := ?_) ?_ ?_
       rotate_left
       ·show Act.put _ (some 41) _ = _
        simp only [Act.put, List.setIfInBounds_toArray, List.set_cons_zero, List.set_cons_succ, i64_w, i32_w]
        rfl
       refine one_ (i := 8) (N := some 42) #[true, true, true, true, true, true, true, true, true, false, false, false, false, false, false, false, false, false, false, false, false, false, false, false, false, false, false, false, false, false, false, false, false] rfl rfl (one_of HT_.out (by kernel_rfl)) (by decide) (fun K hK => ?_)
       refine goes_ Tryd.func21 (by kernel_rfl) rfl #[.slice Ao31 t384.length co31, .slice Ao32 t387.length co32] (by rfl) rfl rfl qL ?_
       with_reducible refine (cubbylaw11_same.calls k _ _ t384 _ _ t387 true _ ?side1 ?side2 ?side3 ?side4 A17.out).mono ?_
       (case side1 => repeat (first | exact (Kd.R_reads' HO386.out).2.2 | (with_reducible refine Kd.C_alloc ?_ _) | (with_reducible refine Kd.C_drewN ?_ _) | (with_reducible refine Kd.C_drew ?_)))
       (case side2 => exact (Kd.R_reads' HO386.out).2.1)
       (case side3 => repeat (first | exact (Kd.R_reads' HO389.out).2.2 | (with_reducible refine Kd.C_alloc ?_ _) | (with_reducible refine Kd.C_drewN ?_ _) | (with_reducible refine Kd.C_drew ?_)))
       (case side4 => exact (Kd.R_reads' HO389.out).2.1)
       rintro e w' ⟨rfl, ⟨nd, rfl⟩⟩
       refine ⟨_, rfl, ?_⟩
       refine hK.out _ _ ⟨(blk_cell BK380.out 0).trans rfl, (blk_cell BK380.out 1).trans rfl, (blk_cell BK380.out 2).trans rfl, (blk_cell BK380.out 3).trans rfl⟩ (fun hHeld => ?_)
       clear hK K
       refine norm_ (a' := ?_) ?_ ?_
       rotate_left
       ·show Act.put _ (some 42) _ = _
        simp only [Act.put, List.setIfInBounds_toArray, List.set_cons_zero, List.set_cons_succ, i64_w, i32_w]
        rfl
       refine pure_ (i := 9) (N := some 43) (v := ?_) (a' := ?_) #[true, true, true, true, true, true, true, true, true, true, false, false, false, false, false, false, false, false, false, false, false, false, false, false, false, false, false, false, false, false, false, false, false] rfl rfl (any_of HT_.out (by kernel_rfl)) (fun _ _ _ h => h) (Or.inl ⟨by rfl, ?_⟩) ?_ ?_
       rotate_left
       ·intro w'
        go_simp
        with_reducible rfl
       rotate_left
       ·simp only [Act.put, List.setIfInBounds_toArray, List.set_cons_zero, List.set_cons_succ, i64_w, i32_w]
        rfl
       refine pure_ (i := 11) (N := some 45) (v := ?_) (a' := ?_) #[true, true, true, true, true, true, true, true, true, true, false, true, false, false, false, false, false, false, false, false, false, false, false, false, false, false, false, false, false, false, false, false, false] rfl rfl (any_of HT_.out (by kernel_rfl)) (fun _ _ _ h => h) (Or.inl ⟨by rfl, ?_⟩) ?_ ?_
       rotate_left
       ·intro w'
        go_simp
        with_reducible rfl
       rotate_left
       ·simp only [Act.put, List.setIfInBounds_toArray, List.set_cons_zero, List.set_cons_succ, i64_w, i32_w]
        rfl
       refine pure_ (i := 12) (N := some 46) (v := ?_) (a' := ?_) #[true, true, true, true, true, true, true, true, true, true, false, true, true, false, false, false, false, false, false, false, false, false, false, false, false, false, false, false, false, false, false, false, false] rfl rfl (any_of HT_.out (by kernel_rfl)) (fun _ _ _ h => h) (Or.inl ⟨by rfl, ?_⟩) ?_ ?_
       rotate_left
       ·intro w'
        go_simp
        with_reducible rfl
       rotate_left
       ·simp only [Act.put, List.setIfInBounds_toArray, List.set_cons_zero, List.set_cons_succ, i64_w, i32_w]
        rfl
       refine pure_ (i := 13) (N := some 47) (v := ?_) (a' := ?_) #[true, true, true, true, true, true, true, true, true, true, false, true, true, true, false, false, false, false, false, false, false, false, false, false, false, false, false, false, false, false, false, false, false] rfl rfl (any_of HT_.out (by kernel_rfl)) (fun _ _ _ h => h) (Or.inl ⟨by rfl, ?_⟩) ?_ ?_
       rotate_left
       ·intro w'
        go_simp
        with_reducible rfl
       rotate_left
       ·simp only [Act.put, List.setIfInBounds_toArray, List.set_cons_zero, List.set_cons_succ, i64_w, i32_w]
        rfl
       refine pure_ (i := 14) (N := some 48) (v := ?_) (a' := ?_) #[true, true, true, true, true, true, true, true, true, true, false, true, true, true, true, false, false, false, false, false, false, false, false, false, false, false, false, false, false, false, false, false, false] rfl rfl (any_of HT_.out (by kernel_rfl)) (fun _ _ _ h => h) (Or.inl ⟨by rfl, ?_⟩) ?_ ?_
       rotate_left
       ·intro w'
        go_simp
        with_reducible rfl
       rotate_left
       ·simp only [Act.put, List.setIfInBounds_toArray, List.set_cons_zero, List.set_cons_succ, i64_w, i32_w]
        rfl
       refine pure_ (i := 15) (N := some 49) (v := ?_) (a' := ?_) #[true, true, true, true, true, true, true, true, true, true, false, true, true, true, true, true, false, false, false, false, false, false, false, false, false, false, false, false, false, false, false, false, false] rfl rfl (any_of HT_.out (by kernel_rfl)) (fun _ _ _ h => h) (Or.inl ⟨by rfl, ?_⟩) ?_ ?_
       rotate_left
       ·intro w'
        go_simp
        with_reducible rfl
       rotate_left
       ·simp only [Act.put, List.setIfInBounds_toArray, List.set_cons_zero, List.set_cons_succ, i64_w, i32_w]
        rfl
       refine pure_ (i := 16) (N := some 50) (v := ?_) (a' := ?_) #[true, true, true, true, true, true, true, true, true, true, false, true, true, true, true, true, true, false, false, false, false, false, false, false, false, false, false, false, false, false, false, false, false] rfl rfl (any_of HT_.out (by kernel_rfl)) (fun _ _ _ h => h) (Or.inl ⟨by rfl, ?_⟩) ?_ ?_
       rotate_left
       ·intro w'
        go_simp
        with_reducible rfl
       rotate_left
       ·simp only [Act.put, List.setIfInBounds_toArray, List.set_cons_zero, List.set_cons_succ, i64_w, i32_w]
        rfl
       refine pure_ (i := 17) (N := some 51) (v := ?_) (a' := ?_) #[true, true, true, true, true, true, true, true, true, true, false, true, true, true, true, true, true, true, false, false, false, false, false, false, false, false, false, false, false, false, false, false, false] rfl rfl (any_of HT_.out (by kernel_rfl)) (fun _ _ _ h => h) (Or.inl ⟨by rfl, ?_⟩) ?_ ?_
       rotate_left
       ·intro w'
        go_simp
        with_reducible rfl
       rotate_left
       ·simp only [Act.put, List.setIfInBounds_toArray, List.set_cons_zero, List.set_cons_succ, i64_w, i32_w]
        rfl
       refine pure_ (i := 18) (N := some 52) (v := ?_) (a' := ?_) #[true, true, true, true, true, true, true, true, true, true, false, true, true, true, true, true, true, true, true, false, false, false, false, false, false, false, false, false, false, false, false, false, false] rfl rfl (any_of HT_.out (by kernel_rfl)) (fun _ _ _ h => h) (Or.inl ⟨by rfl, ?_⟩) ?_ ?_
       rotate_left
       ·intro w'
        go_simp
        with_reducible rfl
       rotate_left
       ·simp only [Act.put, List.setIfInBounds_toArray, List.set_cons_zero, List.set_cons_succ, i64_w, i32_w]
        rfl
       refine pure_ (i := 21) (N := some 55) (v := ?_) (a' := ?_) #[true, true, true, true, true, true, true, true, true, true, false, true, true, true, true, true, true, true, true, false, false, true, false, false, false, false, false, false, false, false, false, false, false] rfl rfl (any_of HT_.out (by kernel_rfl)) (fun _ _ _ h => h) (Or.inl ⟨by rfl, ?_⟩) ?_ ?_
       rotate_left
       ·intro w'
        go_simp
        with_reducible rfl
       rotate_left
       ·simp only [Act.put, List.setIfInBounds_toArray, List.set_cons_zero, List.set_cons_succ, i64_w, i32_w]
        rfl
       refine pure_ (i := 22) (N := some 56) (v := ?_) (a' := ?_) #[true, true, true, true, true, true, true, true, true, true, false, true, true, true, true, true, true, true, true, false, false, true, true, false, false, false, false, false, false, false, false, false, false] rfl rfl (any_of HT_.out (by kernel_rfl)) (fun _ _ _ h => h) (Or.inl ⟨by rfl, ?_⟩) ?_ ?_
       rotate_left
       ·intro w'
        go_simp
        with_reducible rfl
       rotate_left
       ·simp only [Act.put, List.setIfInBounds_toArray, List.set_cons_zero, List.set_cons_succ, i64_w, i32_w]
        rfl
       refine pure_ (i := 23) (N := some 57) (v := ?_) (a' := ?_) #[true, true, true, true, true, true, true, true, true, true, false, true, true, true, true, true, true, true, true, false, false, true, true, true, false, false, false, false, false, false, false, false, false] rfl rfl (any_of HT_.out (by kernel_rfl)) (fun _ _ _ h => h) (Or.inl ⟨by rfl, ?_⟩) ?_ ?_
       rotate_left
       ·intro w'
        go_simp
        with_reducible rfl
       rotate_left
       ·simp only [Act.put, List.setIfInBounds_toArray, List.set_cons_zero, List.set_cons_succ, i64_w, i32_w]
        rfl
       refine pure_ (i := 24) (N := some 58) (v := ?_) (a' := ?_) #[true, true, true, true, true, true, true, true, true, true, false, true, true, true, true, true, true, true, true, false, false, true, true, true, true, false, false, false, false, false, false, false, false] rfl rfl (any_of HT_.out (by kernel_rfl)) (fun _ _ _ h => h) (Or.inl ⟨by rfl, ?_⟩) ?_ ?_
       rotate_left
       ·intro w'
        go_simp
        with_reducible rfl
       rotate_left
       ·simp only [Act.put, List.setIfInBounds_toArray, List.set_cons_zero, List.set_cons_succ, i64_w, i32_w]
        rfl
       refine pure_ (i := 25) (N := some 59) (v := ?_) (a' := ?_) #[true, true, true, true, true, true, true, true, true, true, false, true, true, true, true, true, true, true, true, false, false, true, true, true, true, true, false, false, false, false, false, false, false] rfl rfl (any_of HT_.out (by kernel_rfl)) (fun _ _ _ h => h) (Or.inl ⟨by rfl, ?_⟩) ?_ ?_
       rotate_left
       ·intro w'
        go_simp
        with_reducible rfl
       rotate_left
       ·simp only [Act.put, List.setIfInBounds_toArray, List.set_cons_zero, List.set_cons_succ, i64_w, i32_w]
        rfl
       refine pure_ (i := 26) (N := some 60) (v := ?_) (a' := ?_) #[true, true, true, true, true, true, true, true, true, true, false, true, true, true, true, true, true, true, true, false, false, true, true, true, true, true, true, false, false, false, false, false, false] rfl rfl (any_of HT_.out (by kernel_rfl)) (fun _ _ _ h => h) (Or.inl ⟨by rfl, ?_⟩) ?_ ?_
       rotate_left
       ·intro w'
        go_simp
        with_reducible rfl
       rotate_left
       ·simp only [Act.put, List.setIfInBounds_toArray, List.set_cons_zero, List.set_cons_succ, i64_w, i32_w]
        rfl
       refine pure_ (i := 27) (N := some 61) (v := ?_) (a' := ?_) #[true, true, true, true, true, true, true, true, true, true, false, true, true, true, true, true, true, true, true, false, false, true, true, true, true, true, true, true, false, false, false, false, false] rfl rfl (any_of HT_.out (by kernel_rfl)) (fun _ _ _ h => h) (Or.inl ⟨by rfl, ?_⟩) ?_ ?_
       rotate_left
       ·intro w'
        go_simp
        with_reducible rfl
       rotate_left
       ·simp only [Act.put, List.setIfInBounds_toArray, List.set_cons_zero, List.set_cons_succ, i64_w, i32_w]
        rfl
       refine pure_ (i := 28) (N := some 62) (v := ?_) (a' := ?_) #[true, true, true, true, true, true, true, true, true, true, false, true, true, true, true, true, true, true, true, false, false, true, true, true, true, true, true, true, true, false, false, false, false] rfl rfl (any_of HT_.out (by kernel_rfl)) (fun _ _ _ h => h) (Or.inl ⟨by rfl, ?_⟩) ?_ ?_
       rotate_left
       ·intro w'
        go_simp
        with_reducible rfl
       rotate_left
       ·simp only [Act.put, List.setIfInBounds_toArray, List.set_cons_zero, List.set_cons_succ, i64_w, i32_w]
        rfl
       refine take_ (i := 10) (N := some 44) (v := ?_) (a' := ?_) #[true, true, true, true, true, true, true, true, true, true, true, true, true, true, true, true, true, true, true, false, false, true, true, true, true, true, true, true, true, false, false, false, false] rfl rfl (take_ofW HT_.out HW_.out (by kernel_rfl)) (fun _ _ _ h => h) (Or.inl ⟨by rfl, ?_⟩) hHeld ?_ ?_
       rotate_left
       ·rintro w' ⟨s0, s1, s2, s3⟩
        go_simp
        with_reducible rfl
       rotate_left
       ·simp only [Act.put, List.setIfInBounds_toArray, List.set_cons_zero, List.set_cons_succ, i64_w, i32_w]
        rfl
       refine take_ (i := 20) (N := some 54) (v := ?_) (a' := ?_) #[true, true, true, true, true, true, true, true, true, true, true, true, true, true, true, true, true, true, true, false, true, true, true, true, true, true, true, true, true, false, false, false, false] rfl rfl (take_ofW HT_.out HW_.out (by kernel_rfl)) (fun _ _ _ h => h) (Or.inl ⟨by rfl, ?_⟩) hHeld ?_ ?_
       rotate_left
       ·rintro w' ⟨s0, s1, s2, s3⟩
        go_simp
        with_reducible rfl
       rotate_left
       ·simp only [Act.put, List.setIfInBounds_toArray, List.set_cons_zero, List.set_cons_succ, i64_w, i32_w]
        rfl
       refine one_ (i := 19) (N := some 53) #[true, true, true, true, true, true, true, true, true, true, true, true, true, true, true, true, true, true, true, true, true, true, true, true, true, true, true, true, true, false, false, false, false] rfl rfl (one_of HT_.out (by kernel_rfl)) (by decide) (fun K hK => ?_)
       refine goes_ Tryd.func22 (by kernel_rfl) rfl #[.agg #[.string a0_0, .int .i64 a0_1, .int .i64 a0_2, .slice (some ad383) l0_3.length c0_3], .int .i64 ji12, .int .i64 (Int.tmod (wrap64 ((Int.tmod a2 (wrap64 (((rd_LIns l0_3 (ji12)).length : Int) + 1))) + (wrap64 (((rd_LIns l0_3 (ji12)).length : Int) + 1)))) (wrap64 (((rd_LIns l0_3 (ji12)).length : Int) + 1)))] (by rfl) rfl rfl (by (try simp only [List.map_toArray, List.map_cons, List.map_nil]); first | done | (simp only [hji12]; rfl) | rfl | (simp only [List.length_drop, List.length_take]; rfl)) ?_
       with_reducible refine (live_Ahead.calls k a0_0 a0_1 a0_2 _ _ l0_3 ji12 (Int.tmod (wrap64 ((Int.tmod a2 (wrap64 (((rd_LIns l0_3 (ji12)).length : Int) + 1))) + (wrap64 (((rd_LIns l0_3 (ji12)).length : Int) + 1)))) (wrap64 (((rd_LIns l0_3 (ji12)).length : Int) + 1))) t391 _ ?side1 ?side2 A20.out (hL := ?side99)).mono ?_
       (case side1 => repeat (first | exact (Kd.C_below HR0_3.out qB) | (with_reducible refine Kd.C_alloc ?_ _) | (with_reducible refine Kd.C_drewN ?_ _) | (with_reducible refine Kd.C_drew ?_)))
       (case side2 => exact HC0_3.out)
       (case side99 => exact LaidW.below HLd.out qB)
       (try clear A20)
       rintro e w33 ⟨v392, rfl, ho0, hb⟩
       refine ⟨_, rfl, ?_⟩
       have n0_ := Aside0.mk (Kd.R_elder' (qR HO386.out) (Kd.R_base ho0) hb)
       have n1_ := Aside0.mk (Kd.R_elder' (qR HO389.out) (Kd.R_base ho0) hb)
       have n2_ := Aside0.mk (Kd.R_lower (Kd.R_new' (Kd.R_new' ho0 (Kd.R_lt (qR HO386.out))) (Kd.R_lt (qR HO389.out))) (below_size qB))
       have n3_ := qW BK380 hb
       have n4_ := qH hb
       clear HO386
       clear HO389
       clear BK380
       clear HB
       have HO386 := n0_
       have HO389 := n1_
       have HO393 := n2_
       have BK380 := n3_
       have HB := n4_
       clear n0_ n1_ n2_ n3_ n4_
       (try clear hb)
       (try clear hb2)
       (try clear hk)
       (try clear hi)
       (try clear ho0)
       refine hK.out _ _ ⟨(blk_cell BK380.out 0).trans rfl, (blk_cell BK380.out 1).trans rfl, (blk_cell BK380.out 2).trans rfl, (blk_cell BK380.out 3).trans rfl⟩ (fun hHeld => ?_)
       clear hK K
       refine norm_ (a' := ?_) ?_ ?_
       rotate_left
       ·show Act.put _ (some 53) _ = _
        simp only [Act.put, List.setIfInBounds_toArray, List.set_cons_zero, List.set_cons_succ, i64_w, i32_w]
        rfl
       refine one_ (i := 29) (N := some 63) #[true, true, true, true, true, true, true, true, true, true, true, true, true, true, true, true, true, true, true, true, true, true, true, true, true, true, true, true, true, true, false, false, false] rfl rfl (one_of HT_.out (by kernel_rfl)) (by decide) (fun K hK => ?_)
       refine goes_ Tryd.func23 (by kernel_rfl) rfl #[.agg #[.string a0_0, .int .i64 a0_1, .int .i64 a0_2, .slice (some ad383) l0_3.length c0_3], .int .i64 ji12, .int .i64 (Int.tmod (wrap64 ((Int.tmod a2 (wrap64 (((rd_LIns l0_3 (ji12)).length : Int) + 1))) + (wrap64 (((rd_LIns l0_3 (ji12)).length : Int) + 1)))) (wrap64 (((rd_LIns l0_3 (ji12)).length : Int) + 1)))] (by rfl) rfl rfl (by (try simp only [List.map_toArray, List.map_cons, List.map_nil]); first | done | (simp only [hji12]; rfl) | rfl | (simp only [List.length_drop, List.length_take]; rfl)) ?_
       with_reducible refine (cubbyref11_Ahead.calls k a0_0 a0_1 a0_2 _ _ l0_3 ji12 (Int.tmod (wrap64 ((Int.tmod a2 (wrap64 (((rd_LIns l0_3 (ji12)).length : Int) + 1))) + (wrap64 (((rd_LIns l0_3 (ji12)).length : Int) + 1)))) (wrap64 (((rd_LIns l0_3 (ji12)).length : Int) + 1))) t394 _ ?side1 ?side2 A21.out).mono ?_
       (case side1 => exact qCB HR0_3.out)
       (case side2 => exact HC0_3.out)
       (try clear A21)
       rintro e w34 ⟨v395, rfl, ho0, hb⟩
       refine ⟨_, rfl, ?_⟩
       have n0_ := Aside0.mk (Kd.R_elder' (qR HO386.out) (Kd.R_base ho0) hb)
       have n1_ := Aside0.mk (Kd.R_elder' (qR HO389.out) (Kd.R_base ho0) hb)
       have n2_ := Aside0.mk (Kd.R_elder' (qR HO393.out) (Kd.R_base ho0) hb)
       have n3_ := Aside0.mk (Kd.R_lower (Kd.R_new' (Kd.R_new' (Kd.R_new' ho0 (Kd.R_lt (qR HO386.out))) (Kd.R_lt (qR HO389.out))) (Kd.R_lt (qR HO393.out))) (below_size qB))
       have n4_ := qW BK380 hb
       have n5_ := qH hb
       clear HO386
       clear HO389
       clear HO393
       clear BK380
       clear HB
       have HO386 := n0_
       have HO389 := n1_
       have HO393 := n2_
       have HO396 := n3_
       have BK380 := n4_
       have HB := n5_
       clear n0_ n1_ n2_ n3_ n4_ n5_
       (try clear hb)
       (try clear hb2)
       (try clear hk)
       (try clear hi)
       (try clear ho0)
       obtain ⟨Ao35, co35, eo35⟩ := Kd.R_slice HO393.out
       (first | subst eo35 | (injection eo35 with f1_ f2_ f3_; have f4_ := f1_.symm; have f5_ := f3_.symm; clear f1_ f2_ f3_; subst f4_; subst f5_))
       obtain ⟨Ao36, co36, eo36⟩ := Kd.R_slice HO396.out
       (first | subst eo36 | (injection eo36 with f1_ f2_ f3_; have f4_ := f1_.symm; have f5_ := f3_.symm; clear f1_ f2_ f3_; subst f4_; subst f5_))
       refine hK.out _ _ ⟨(blk_cell BK380.out 0).trans rfl, (blk_cell BK380.out 1).trans rfl, (blk_cell BK380.out 2).trans rfl, (blk_cell BK380.out 3).trans rfl⟩ (fun hHeld => ?_)
       clear hK K
       refine norm_ (a' := ?_) ?_ ?_
       rotate_left
       ·show Act.put _ (some 63) _ = _
        simp only [Act.put, List.setIfInBounds_toArray, List.set_cons_zero, List.set_cons_succ, i64_w, i32_w]
        rfl
       refine one_ (i := 30) (N := some 64) #[true, true, true, true, true, true, true, true, true, true, true, true, true, true, true, true, true, true, true, true, true, true, true, true, true, true, true, true, true, true, true, false, false] rfl rfl (one_of HT_.out (by kernel_rfl)) (by decide) (fun K hK => ?_)
       refine goes_ Tryd.func21 (by kernel_rfl) rfl #[.slice Ao35 t391.length co35, .slice Ao36 t394.length co36] (by rfl) rfl rfl qL ?_
       with_reducible refine (cubbylaw11_same.calls k _ _ t391 _ _ t394 t397 _ ?side1 ?side2 ?side3 ?side4 A22.out).mono ?_
       (case side1 => repeat (first | exact (Kd.R_reads' HO393.out).2.2 | (with_reducible refine Kd.C_alloc ?_ _) | (with_reducible refine Kd.C_drewN ?_ _) | (with_reducible refine Kd.C_drew ?_)))
       (case side2 => exact (Kd.R_reads' HO393.out).2.1)
       (case side3 => repeat (first | exact (Kd.R_reads' HO396.out).2.2 | (with_reducible refine Kd.C_alloc ?_ _) | (with_reducible refine Kd.C_drewN ?_ _) | (with_reducible refine Kd.C_drew ?_)))
       (case side4 => exact (Kd.R_reads' HO396.out).2.1)
       (try clear A22)
       rintro e w' ⟨rfl, ⟨nd, rfl⟩⟩
       refine ⟨_, rfl, ?_⟩
       refine hK.out _ _ ⟨(blk_cell BK380.out 0).trans rfl, (blk_cell BK380.out 1).trans rfl, (blk_cell BK380.out 2).trans rfl, (blk_cell BK380.out 3).trans rfl⟩ (fun hHeld => ?_)
       clear hK K
       refine norm_ (a' := ?_) ?_ ?_
       rotate_left
       ·show Act.put _ (some 64) _ = _
        simp only [Act.put, List.setIfInBounds_toArray, List.set_cons_zero, List.set_cons_succ, i64_w, i32_w]
        rfl
       refine pure_ (i := 31) (N := some 65) (v := ?_) (a' := ?_) #[true, true, true, true, true, true, true, true, true, true, true, true, true, true, true, true, true, true, true, true, true, true, true, true, true, true, true, true, true, true, true, true, false] rfl rfl (any_of HT_.out (by kernel_rfl)) (fun _ _ _ h => h) (Or.inl ⟨by rfl, ?_⟩) ?_ ?_
       rotate_left
       ·intro w'
        go_simp
        with_reducible rfl
       rotate_left
       ·simp only [Act.put, List.setIfInBounds_toArray, List.set_cons_zero, List.set_cons_succ, i64_w, i32_w]
        rfl
       refine pure_ (i := 32) (N := some 6) (v := ?_) (a' := ?_) #[true, true, true, true, true, true, true, true, true, true, true, true, true, true, true, true, true, true, true, true, true, true, true, true, true, true, true, true, true, true, true, true, true] rfl rfl (any_of HT_.out (by kernel_rfl)) (fun _ _ _ h => h) (Or.inl ⟨by rfl, ?_⟩) ?_ ?_
       rotate_left
       ·intro w'
        go_simp
        with_reducible rfl
       rotate_left
       ·simp only [Act.put, List.setIfInBounds_toArray, List.set_cons_zero, List.set_cons_succ, i64_w, i32_w]
        rfl
       refine done_ (done_of HT_.out (by kernel_rfl)) ?_
       try go_wp2
       go_ret
       exact ⟨by first | rfl | (simp [errW_none, errW_some] <;> rfl) | (simp only [← hji12]; first | rfl | (simp [errW_none, errW_some] <;> rfl)) | (simp [*, errW_none, errW_some] <;> rfl), qB⟩
     ·replace c18 := Bool.eq_false_iff.mpr c18
      subst c18
      have H1 : (some false) = some r := by rw [if_neg (show ¬ (false = true) by decide)] at H; exact H
      clear H
      have H := H1
      clear H1
      exact absurd ((Option.some.inj H).trans HRt.out) (by decide)
    ·rw [if_neg c14] at H
     exact absurd H (by simp)
   ·rw [if_neg c13] at H
    exact absurd H (by simp)

end Go.Proofs.YtebnnknijbgekaaDoor.Q
namespace Go.Proofs.YtebnnknijbgekaaDoor.RLiveAhead
open Go Go.RowKit Go.Proofs.YtebnnknijbgekaaDoorW.PrintWords Go.Proofs.YtebnnknijbgekaaDoor.Q
set_option linter.unusedVariables false
def GIns (x : SIns) : Prop := (Lit.int .i64 (x.f0)).wf = true ∧ (Lit.int .i64 (x.f1)).wf = true ∧ (Lit.int .i64 (x.f2)).wf = true ∧ (Lit.int .i64 (x.f3)).wf = true ∧ (x.f4).size ≤ 140737488351232 ∧ ((x.f5).length * 8 ≤ 140737488351232 ∧ (x.f5).length ≤ maxLen ∧ ∀ y1 ∈ (x.f5), (Lit.int .i64 (y1)).wf = true)
def LiveAhead.Pure : Prop := ∀ (a0_0 : ByteArray) (a0_1 : Int) (a0_2 : Int) (l0_3 : List (List (SIns))) (a1 : Int) (a2 : Int), (a0_0).size ≤ 140737488351232 → (Lit.int .i64 (a0_1)).wf = true → (Lit.int .i64 (a0_2)).wf = true → ((l0_3).length * 24 ≤ 140737488351232 ∧ (l0_3).length ≤ maxLen ∧ ∀ y1 ∈ (l0_3), ((y1).length * 72 ≤ 140737488351232 ∧ (y1).length ≤ maxLen ∧ ∀ y2 ∈ (y1), GIns (y2))) → (Lit.int .i64 (a1)).wf = true → (Lit.int .i64 (a2)).wf = true → ∃ k, cubbylaw11_LiveAhead.f k a0_0 a0_1 a0_2 l0_3 a1 a2 = some true
end Go.Proofs.YtebnnknijbgekaaDoor.RLiveAhead
namespace Go.Proofs.YtebnnknijbgekaaDoor.RLiveAhead.Pure
open Go Go.RowKit Go.Proofs.YtebnnknijbgekaaDoorW.PrintWords Go.Proofs.YtebnnknijbgekaaDoorW.PrintMore Go.Proofs.YtebnnknijbgekaaDoor.Q Go.Proofs.YtebnnknijbgekaaDoor.Plain Go.Proofs.YtebnnknijbgekaaDoor.PlainBits Go.Proofs.YtebnnknijbgekaaDoor.PlainFix Go.Proofs.YtebnnknijbgekaaDoor.PlainHeavy Go.Proofs.YtebnnknijbgekaaDoor.PlainCheck Go.Proofs.YtebnnknijbgekaaDoor.PlainLive
set_option linter.unusedVariables false
theorem tmod_in (a n : Int) (hn : 0 < n) : -n < Int.tmod a n ∧ Int.tmod a n < n := ⟨Int.lt_tmod_of_pos a hn, Int.tmod_lt_of_pos a hn⟩
theorem tmod_pos (a n : Int) (h : 0 ≤ a) (hn : 0 < n) : 0 ≤ Int.tmod a n ∧ Int.tmod a n < n := ⟨Int.tmod_nonneg n h, Int.tmod_lt_of_pos a hn⟩
theorem LiveAhead : LiveAhead.Pure := by
  intro pn pp rg bs a i hn h1 h2 hbs ha hi
  refine Ev.rounds ?_
  have hF : FairB bs := ⟨by omega, fun b hb => by have := (hbs.2.2 b hb).1; omega, fun b hb y hy => by have := ((hbs.2.2 b hb).2.2 y hy).2.2.2.2.2.1; omega⟩
  obtain ⟨hv, hE, hfalse⟩ := heavy11_ev pn pp rg bs hF
  refine Ev.bind hE ?_
  cases hv
  · obtain ⟨hc, -, -, -⟩ := hfalse rfl
    have F := checkE_zero hc
    have hS := F.shape
    obtain ⟨R, rfl⟩ := regs_nat F
    obtain ⟨z, hz, e1, e2⟩ := both pn pp hF F hc
    have O := ok_blocks F hF
    have hbl := O.len
    have hR := O.le
    have hb0 := hS.2.2.2.2.1
    have t1 := tmod_in a (bs.length : Int) (by omega)
    have t2 := tmod_pos (wrap64 (Int.tmod a (bs.length : Int) + (bs.length : Int))) (bs.length : Int) (by rw [wrap_id (by omega) (by omega)]; omega) (by omega)
    obtain ⟨l, hl, l1, l2⟩ := aheads pn pp hF F hc hz e1 e2 a i
    refine Ev.congr (fun k => by rw [if_neg Bool.false_ne_true, if_neg (by omega), if_pos t2.1, if_pos t2.2]) (Ev.bind l1 (Ev.bind l2 (Ev.bind (same_ev11 l (by omega)) ?_)))
    generalize Int.tmod (wrap64 (Int.tmod a (bs.length : Int) + (bs.length : Int))) (bs.length : Int) = b at t2 ⊢
    have hb : b.toNat < bs.length := by omega
    have hrow : rd_LIns bs b = bs[b.toNat] := getD_get hb
    have hr := O.row _ (List.getElem_mem hb)
    have e3 : wrap64 (((rd_LIns bs b).length : Int) + 1) = ((rd_LIns bs b).length : Int) + 1 := wrap_id (by omega) (by rw [hrow]; omega)
    obtain ⟨l', hl', l1', l2'⟩ := aheads pn pp hF F hc hz e1 e2 b (Int.tmod (wrap64 (Int.tmod i (((rd_LIns bs b).length : Int) + 1) + (((rd_LIns bs b).length : Int) + 1))) (((rd_LIns bs b).length : Int) + 1))
    refine Ev.congr (fun k => by rw [if_pos rfl, e3, if_neg (by omega)]) (Ev.bind l1' (Ev.bind l2' (Ev.bind (same_ev11 l' (by omega)) (Ev.now _))))
  · exact Ev.congr (fun k => by rw [if_pos rfl]) (Ev.bind livenone_ev (Ev.now _))
end Go.Proofs.YtebnnknijbgekaaDoor.RLiveAhead.Pure
namespace Go.Proofs.YtebnnknijbgekaaDoor.RLiveAhead
open Go.ChangeShapes Go.WideShapes Go.ChangeAt
open Go.ChangeMaps (open_string shut_string)
open Go Go.RowKit Go.Proofs.YtebnnknijbgekaaDoorW.PrintWords Go.Proofs.YtebnnknijbgekaaDoorW.PrintLast Go.Proofs.YtebnnknijbgekaaDoorW.PrintMore Go.Proofs.YtebnnknijbgekaaDoor.Q Go.Proofs.YtebnnknijbgekaaDoor.Open
set_option linter.unusedVariables false
theorem own : ownKnob Tryd.prog.godebug = none := by kernel_rfl
theorem laidOut : laidOutB Tryd.prog = true := by kernel_rfl
theorem opensIns : Opens Tryd.prog 31 kIns GIns :=
  (Opens.iso (fun x : SIns => (x.f0, x.f1, x.f2, x.f3, x.f4, x.f5)) (fun y => ⟨y.1, y.2.1, y.2.2.1, y.2.2.2.1, y.2.2.2.2.1, y.2.2.2.2.2⟩) (fun _ => rfl) (Opens.struct Tryd.underlying31 (by kernel_rfl) (OpensFs.cons rfl (Opens.int (Tryd.underlying3) (by kernel_rfl)) (OpensFs.cons rfl (Opens.int (Tryd.underlying3) (by kernel_rfl)) (OpensFs.cons rfl (Opens.int (Tryd.underlying3) (by kernel_rfl)) (OpensFs.cons rfl (Opens.int (Tryd.underlying3) (by kernel_rfl)) (OpensFs.cons rfl (Opens.string (Tryd.underlying9) (by kernel_rfl)) (OpensFs.one rfl (Opens.slice (B := 8) (Tryd.underlying29) (by kernel_rfl) (by kernel_rfl) (Opens.int (Tryd.underlying3) (by kernel_rfl))))))))))).imp (fun _ h => h)
set_option maxRecDepth 100000 in
theorem lifted (os : Os) (started : os.Started) (H : Type) (enc : TypeId × Value → H) :
    ReturnsInHanded {} Tryd.checked os 6 .any (fun w args => (Rows.liveAheadSpec.pre enc Tryd.prog Tryd.f6 [] false w args ∧ laidMetH Tryd.prog Rows.liveAheadRow.laid w) ∧ sizedMet enc Tryd.prog Tryd.f6 (OpenSpec.ofChange Rows.liveAheadSpec) false w args) (Rows.liveAheadSpec.post enc Tryd.prog Tryd.f6 false true false false) := by
  refine returnsInHanded_of_change_and (C := Tryd.checked) (X := fun w _ => laidMetH Tryd.prog Rows.liveAheadRow.laid w) (fun _ _ _ hh h => h.of_heap hh) own started (by kernel_rfl) Tryd.func6
    (ChangeSpec.witness_shaped (enc := enc) (C := Tryd.checked) (os := os) (X := fun w _ => laidMetH Tryd.prog Rows.liveAheadRow.laid w) false (World.laidAll Tryd.prog os Rows.liveAheadRow.laid) #[.agg #[.string ByteArray.empty, .int .i64 0, .int .i64 0, .slice none 0 0], .int .i64 0, .int .i64 0] 8 (World.laidAll_os _ _ _)
      (World.shaped_of_ZipB (by kernel_rfl) (by kernel_rfl)) (by kernel_rfl) (by kernel_rfl) (by kernel_rfl)
      (by rw [MakeChecks.laidMetH_plain _ _ _ (by kernel_rfl)]; exact laidMet_laidAll _ (by kernel_rfl) (by kernel_rfl))) ?_
  intro W base args ds gs before hval0 hW hcnd hsz0 hL0 _
  rw [MakeChecks.laidMetH_plain _ _ _ (by kernel_rfl)] at hL0
  have LAIDF : LaidW W := LaidW.of_reads2 (show Lib.VarReads Tryd.prog W "cubby/ir.shapes" shapesD from Lib.laidMet.reads hL0 (n := "cubby/ir.shapes") (d := Rows.laid_cubby_ir_shapes) (by simp [Rows.liveAheadRow])) (show Lib.VarReads Tryd.prog W "math/bits.deBruijn64tab" tabD from Lib.laidMet.reads hL0 (n := "math/bits.deBruijn64tab") (d := Rows.laid_math_bits_deBruijn64tab) (by simp [Rows.liveAheadRow]))
  have hsz : (DataW.weightsEach Tryd.prog (Tryd.f6.params.toList ++ Rows.liveAheadSpec.plain.varTypes Tryd.prog) (ds ++ gs)).all (· ≤ reachBytes) = true := hsz0
  have hval : ∀ (j : Nat) t v, Tryd.f6.params[j]? = some t → args[j]? = some v → Value.okWide Tryd.prog W .any base t v := hval0
  have hW' := hW
  obtain ⟨p, q, hA0, hV, rfl, hfz, hnd⟩ := hW
  have hA : DataW.TrodAll enc Tryd.prog W 0 (fun _ => true) true Tryd.f6.params.toList args.toList ds p := hA0
  rw [Tryd.params6] at hA hval hsz
  obtain ⟨v0, vs0, d0, ds0, p0, q0, hargs, rfl, rfl, h0, r0⟩ := trodAll_cons hA
  obtain ⟨v1, vs1, d1, ds1, p1, q1, rfl, rfl, rfl, h1, r1⟩ := trodAll_cons r0
  obtain ⟨v2, vs2, d2, ds2, p2, q2, rfl, rfl, rfl, h2, r2⟩ := trodAll_cons r1
  obtain ⟨rfl, rfl, rfl⟩ := trodAll_nil r2
  obtain rfl : args = #[v0, v1, v2] := by cases args; simp_all
  obtain ⟨rfl, rfl⟩ := trodVars_none hV
  have lt0 : ∀ x ∈ p0, x.block < W.heap.size := by obtain ⟨m, hm⟩ := h0; exact DataW.trod_lt m _ _ _ hm
  obtain ⟨cs0, rfl, -⟩ := okWide_struct Tryd.underlying34 (hval 0 34 v0 rfl rfl)
  obtain ⟨⟨a0_0, a0_1, a0_2, l0_3⟩, hk0, gg0⟩ := (Opens.struct Tryd.underlying34 (by kernel_rfl) (OpensFs.cons rfl (Opens.string (Tryd.underlying9) (by kernel_rfl)) (OpensFs.cons rfl (Opens.int (Tryd.underlying3) (by kernel_rfl)) (OpensFs.cons rfl (Opens.int (Tryd.underlying3) (by kernel_rfl)) (OpensFs.one rfl (Opens.slice (B := 24) (Tryd.underlying22) (by kernel_rfl) (by kernel_rfl) (Opens.slice (B := 72) (Tryd.underlying28) (by kernel_rfl) (by kernel_rfl) opensIns)))))) : Opens Tryd.prog 34 (Kd.pair Kd.string (Kd.pair (Kd.int .i64) (Kd.pair (Kd.int .i64) (Kd.slice 28 (Kd.slice 31 kIns))))) (fun y => ((y.1).size ≤ 140737488351232 ∧ ((Lit.int .i64 (y.2.1)).wf = true ∧ ((Lit.int .i64 (y.2.2.1)).wf = true ∧ ((y.2.2.2).length * 24 ≤ 140737488351232 ∧ (y.2.2.2).length ≤ maxLen ∧ ∀ y1 ∈ (y.2.2.2), ((y1).length * 72 ≤ 140737488351232 ∧ (y1).length ≤ maxLen ∧ ∀ y2 ∈ (y1), GIns (y2)))))))).arg h0 hsz (j := 0) rfl rfl
  obtain ⟨g0_0, g0_1, g0_2, g0_3⟩ := gg0
  obtain ⟨_, _, h0_, rfl, ⟨_, _, rfl, rfl, ⟨_, _, rfl, rfl, ⟨A0_3, c0_3, rfl, hc0_3, hr0_3⟩⟩⟩⟩ := hk0
  obtain rfl : cs0 = #[.string a0_0, .int .i64 a0_1, .int .i64 a0_2, .slice A0_3 l0_3.length c0_3] := by
    cases cs0
    simp [Value.cells] at h0_
    simp [h0_]
  have lt1 : ∀ x ∈ p1, x.block < W.heap.size := by obtain ⟨m, hm⟩ := h1; exact DataW.trod_lt m _ _ _ hm
  obtain ⟨a1, rfl, rfl, rfl, w1⟩ := open_int Tryd.underlying3 (hval 1 3 v1 rfl rfl) h1
  have lt2 : ∀ x ∈ p2, x.block < W.heap.size := by obtain ⟨m, hm⟩ := h2; exact DataW.trod_lt m _ _ _ hm
  obtain ⟨a2, rfl, rfl, rfl, w2⟩ := open_int Tryd.underlying3 (hval 2 3 v2 rfl rfl) h2
  clear hA0 hval0 hsz0 hsz
  obtain ⟨k, hf⟩ := Pure.LiveAhead a0_0 a0_1 a0_2 l0_3 a1 a2 g0_0 g0_1 g0_2 g0_3 w1 w2
  refine (Q.cubbylaw11_LiveAhead.calls k a0_0 a0_1 a0_2 A0_3 c0_3 l0_3 a1 a2 true W LAIDF rfl hr0_3 hc0_3 hf).mono ?_
  rintro e W' ⟨rfl, hd⟩
  have bel : Below W.heap.size W W' := hd
  exact ⟨_, rfl, _, _, _, [], _, [], hW', trodAll_mk1 (shut_bool Tryd.underlying4 _), (trodAll_cons_mk (Below.trod laidOut (by kernel_rfl) (of_decide_eq_true (by kernel_rfl)) h0 bel lt0) (trodAll_cons_mk (Below.trod laidOut (by kernel_rfl) (of_decide_eq_true (by kernel_rfl)) h1 bel lt1) (trodAll_cons_mk (Below.trod laidOut (by kernel_rfl) (of_decide_eq_true (by kernel_rfl)) h2 bel lt2) trodAll_mk0))), rfl, bel.frame _, fun h => by cases h⟩
theorem over : Rows.liveAheadRow.holds Tryd.pinned (OpenSpec.ofChange Rows.liveAheadSpec) :=
  OpenClaim.holds_of_wide 6 Tryd.f6 rfl rfl rfl rfl rfl rfl rfl ⟨rfl, rfl, rfl, rfl, rfl⟩ rfl rfl rfl rfl rfl (by kernel_rfl) Tryd.func6 (by kernel_rfl)
    (of_decide_eq_true (by kernel_rfl)) (by unfold Func.isWrapper; first | (rw [if_pos (by decide +kernel)]; kernel_rfl) | (rw [if_neg (by decide +kernel)]; exact ⟨rfl, rfl⟩))
    (fun os started H enc _ => lifted os started H enc)
end Go.Proofs.YtebnnknijbgekaaDoor.RLiveAhead
namespace Go.Proofs.YtebnnknijbgekaaDoor
/-- The row, under a short name, for the claim. -/
theorem liveAhead_holds : Rows.LiveAheadSaid := RLiveAhead.over
/-- The tied card. -/
theorem liveAhead_card : Rows.LiveAheadCardSaid :=
  Claim7.holds_tied_plain_at .later [] [.data, .data, .data, .pinned] true (true, "f478bf7cf80a0a19cd0e3ed25470ae850c7921cd0ccad9bb821bd05bde23d4b3") false liveAhead_holds (fun _ h => by cases h) (by kernel_rfl) (fun _ h => by cases h) liveAhead_row_tie rfl ⟨rfl, rfl⟩ (by kernel_rfl) rfl
    (fun f fn hf hfn => by
      obtain rfl : f = 6 := Option.some.inj ((show Tryd.prog.funcNamed "cubby/cubbylaw11.LiveAhead" = some 6 by kernel_rfl).symm.trans hf) |>.symm
      obtain rfl : fn = Tryd.f6 := (Option.some.inj (Tryd.func6.symm.trans hfn)).symm
      exact ⟨by kernel_rfl, fun j t ht => by
        rw [Tryd.params6] at ht
        have hm : t ∈ [34, 3, 3] := by simpa using Array.mem_of_getElem? ht
        have hall : ([34, 3, 3].all fun u => !Tryd.prog.wantsStandIn u) = true := by kernel_rfl
        exact (show Tryd.prog.wantsStandIn t = false by simpa using List.all_eq_true.1 hall t hm)⟩)
    (by kernel_rfl)
#print axioms liveAhead_card
end Go.Proofs.YtebnnknijbgekaaDoor
