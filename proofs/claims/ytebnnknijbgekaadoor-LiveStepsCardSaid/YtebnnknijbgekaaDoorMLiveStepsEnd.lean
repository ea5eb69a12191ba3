/- For every input the law LiveSteps returns true, and its arguments read behind the call as they did: no condition. -/
import Derived.Test.YtebnnknijbgekaaDoorRows
import Derived.WalkKit
import Derived.ProofKit
import Derived.OpenShut
import Derived.ShutString
import Derived.ChangeOld
import Derived.Below
import Derived.SizedLaws
import Derived.Test.YtebnnknijbgekaaDoorCards
import Derived.Test.YtebnnknijbgekaaDoorTie
import Derived.LaidMore
import Derived.Lay
import Derived.SevenTiedAt
import Derived.Stop.Joined
import Derived.Lib.LaidU8
import Derived.Test.YtebnnknijbgekaaDoorMLv1
import Derived.Test.YtebnnknijbgekaaDoorMLv2
import Derived.Test.YtebnnknijbgekaaDoorMLv3
import Derived.Test.YtebnnknijbgekaaDoorMLv4
import Derived.Test.YtebnnknijbgekaaDoorMLv5
namespace Go.Proofs.YtebnnknijbgekaaDoor.Q
open Go.RowKit Go.Proofs.YtebnnknijbgekaaDoorW.PrintWords Go.Proofs.YtebnnknijbgekaaDoorW.PrintLast Go.Proofs.YtebnnknijbgekaaDoorW.PrintMore
attribute [local go_sem] max2_int min2_int max_two min_two max_three min_three max_four min_four   -- for this text's walks alone
set_option linter.unusedVariables false
set_option linter.unusedSimpArgs false

/-! ### cubbylaw11_LiveSteps: function 7 -/
def cubbylaw11_LiveSteps.l0 : Nat → List Int → List Int → Int → ByteArray → Int → Int → List (List (SIns)) → Int → Int → Int → Int → ByteArray → List Int → Option (Bool)
 | 0, _, _, _, _, _, _, _, _, _, _, _, _, _ => none
 | k + 1, x10, x11, x12, x400000, x400001, x400002, x400003, x406000, x406001, x406002, x406003, x406004, x406005 => if x12 < x400002 then ((cubbyref07_Uses.f k x406000 x406001 x406002 x406003 x406004 x406005).bind fun t416 => ((cubbylaw11_has.f k t416 x12).bind fun t419 => (if t419 = true then ((cubbylaw11_has.f k x10 x12).bind fun t420 => (if (t420 != true) = true then (some false) else (cubbylaw11_LiveSteps.l0 k x10 x11 (wrap64 (x12 + 1)) x400000 x400001 x400002 x400003 x406000 x406001 x406002 x406003 x406004 x406005))) else ((cubbylaw11_has.f k x11 x12).bind fun t421 => (if t421 = true then ((cubbyref07_Def.f x406000 x406001 x406002 x406003 x406004 x406005).bind fun t422 => ((cubbylaw11_has.f k x10 x12).bind fun t423 => (if (t423 != (t422 != x12)) = true then (some false) else (cubbylaw11_LiveSteps.l0 k x10 x11 (wrap64 (x12 + 1)) x400000 x400001 x400002 x400003 x406000 x406001 x406002 x406003 x406004 x406005)))) else ((cubbylaw11_has.f k x10 x12).bind fun t424 => (if (t424 != false) = true then (some false) else (cubbylaw11_LiveSteps.l0 k x10 x11 (wrap64 (x12 + 1)) x400000 x400001 x400002 x400003 x406000 x406001 x406002 x406003 x406004 x406005)))))))) else (some true)
def cubbylaw11_LiveSteps.f (k : Nat) (a0_0 : ByteArray) (a0_1 : Int) (a0_2 : Int) (l0_3 : List (List (SIns))) (a1 : Int) (a2 : Int) : Option (Bool) := (cubbylaw11_heavy.f k a0_0 a0_1 a0_2 l0_3).bind fun t400 => (if t400 = true then ((live_Check.f k (⟨#[]⟩ : ByteArray) 0 0 ([] : List (List (SIns)))).bind fun t401 => (some (t401 == 70))) else (if (l0_3.length : Int) = 0 then (none) else (if 0 ≤ (Int.tmod (wrap64 (a1)) (l0_3.length : Int)) then (if (Int.tmod (wrap64 (a1)) (l0_3.length : Int)) < (l0_3.length : Int) then (if ((rd_LIns l0_3 (Int.tmod (wrap64 (a1)) (l0_3.length : Int))).length : Int) = 0 then (none) else (if 0 ≤ (Int.tmod (wrap64 (a2)) ((rd_LIns l0_3 (Int.tmod (wrap64 (a1)) (l0_3.length : Int))).length : Int)) then (if (Int.tmod (wrap64 (a2)) ((rd_LIns l0_3 (Int.tmod (wrap64 (a1)) (l0_3.length : Int))).length : Int)) < ((rd_LIns l0_3 (Int.tmod (wrap64 (a1)) (l0_3.length : Int))).length : Int) then ((live_Ahead.f k a0_0 a0_1 a0_2 l0_3 (Int.tmod (wrap64 (a1)) (l0_3.length : Int)) (Int.tmod (wrap64 (a2)) ((rd_LIns l0_3 (Int.tmod (wrap64 (a1)) (l0_3.length : Int))).length : Int))).bind fun t406 => ((live_Ahead.f k a0_0 a0_1 a0_2 l0_3 (Int.tmod (wrap64 (a1)) (l0_3.length : Int)) (wrap64 ((Int.tmod (wrap64 (a2)) ((rd_LIns l0_3 (Int.tmod (wrap64 (a1)) (l0_3.length : Int))).length : Int)) + 1))).bind fun t409 => ((cubbyref11_Ahead.f k a0_0 a0_1 a0_2 l0_3 (Int.tmod (wrap64 (a1)) (l0_3.length : Int)) (Int.tmod (wrap64 (a2)) ((rd_LIns l0_3 (Int.tmod (wrap64 (a1)) (l0_3.length : Int))).length : Int))).bind fun t412 => ((cubbylaw11_same.f k t406 t412).bind fun t415 => (if t415 = true then (cubbylaw11_LiveSteps.l0 k t406 t409 0 a0_0 a0_1 a0_2 l0_3 ((rd_TIns (rd_LIns l0_3 (Int.tmod (wrap64 (a1)) (l0_3.length : Int))) (Int.tmod (wrap64 (a2)) ((rd_LIns l0_3 (Int.tmod (wrap64 (a1)) (l0_3.length : Int))).length : Int))).f0) ((rd_TIns (rd_LIns l0_3 (Int.tmod (wrap64 (a1)) (l0_3.length : Int))) (Int.tmod (wrap64 (a2)) ((rd_LIns l0_3 (Int.tmod (wrap64 (a1)) (l0_3.length : Int))).length : Int))).f1) ((rd_TIns (rd_LIns l0_3 (Int.tmod (wrap64 (a1)) (l0_3.length : Int))) (Int.tmod (wrap64 (a2)) ((rd_LIns l0_3 (Int.tmod (wrap64 (a1)) (l0_3.length : Int))).length : Int))).f2) ((rd_TIns (rd_LIns l0_3 (Int.tmod (wrap64 (a1)) (l0_3.length : Int))) (Int.tmod (wrap64 (a2)) ((rd_LIns l0_3 (Int.tmod (wrap64 (a1)) (l0_3.length : Int))).length : Int))).f3) ((rd_TIns (rd_LIns l0_3 (Int.tmod (wrap64 (a1)) (l0_3.length : Int))) (Int.tmod (wrap64 (a2)) ((rd_LIns l0_3 (Int.tmod (wrap64 (a1)) (l0_3.length : Int))).length : Int))).f4) ((rd_TIns (rd_LIns l0_3 (Int.tmod (wrap64 (a1)) (l0_3.length : Int))) (Int.tmod (wrap64 (a2)) ((rd_LIns l0_3 (Int.tmod (wrap64 (a1)) (l0_3.length : Int))).length : Int))).f5)) else (some false)))))) else (none)) else (none))) else (none)) else (none))))
theorem cubbylaw11_LiveSteps.mono_l : ∀ k, (∀ y0 y1 y2 y3 y4 y5 y6 y7 y8 y9 y10 y11 y12, LeO (cubbylaw11_LiveSteps.l0 k y0 y1 y2 y3 y4 y5 y6 y7 y8 y9 y10 y11 y12) (cubbylaw11_LiveSteps.l0 (k + 1) y0 y1 y2 y3 y4 y5 y6 y7 y8 y9 y10 y11 y12))
 | 0 => fun _ _ _ _ _ _ _ _ _ _ _ _ _ r h => by simp [cubbylaw11_LiveSteps.l0] at h
 | k + 1 => by
  have ih0 := cubbylaw11_LiveSteps.mono_l k
  ·intro y0 y1 y2 y3 y4 y5 y6 y7 y8 y9 y10 y11 y12
   unfold cubbylaw11_LiveSteps.l0
   repeat' first | (with_reducible exact ih0 _ _ _ _ _ _ _ _ _ _ _ _ _) | (with_reducible exact cubbylaw11_has.mono _ _ _) | (with_reducible exact cubbylaw11_heavy.mono _ _ _ _ _) | (with_reducible exact cubbylaw11_same.mono _ _ _) | (with_reducible exact cubbyref07_Uses.mono _ _ _ _ _ _ _) | (with_reducible exact cubbyref11_Ahead.mono _ _ _ _ _ _ _) | (with_reducible exact live_Ahead.mono _ _ _ _ _ _ _) | (with_reducible exact live_Check.mono _ _ _ _ _) | (with_reducible exact LeO.refl _) | (with_reducible exact LeO.none _) | (with_reducible refine LeO.ite ?_ ?_) | (with_reducible refine LeO.bind ?_ (fun _ => ?_)) | exact LeO.none _ | refine LeO.ite ?_ ?_ | refine LeO.bind ?_ (fun _ => ?_)
theorem cubbylaw11_LiveSteps.mono : ∀ a0 a1 a2 a3 a4 a5 k, LeO (cubbylaw11_LiveSteps.f k a0 a1 a2 a3 a4 a5) (cubbylaw11_LiveSteps.f (k + 1) a0 a1 a2 a3 a4 a5) := by
 intro a0 a1 a2 a3 a4 a5 k
 have ih0 := cubbylaw11_LiveSteps.mono_l k
 unfold cubbylaw11_LiveSteps.f
 repeat' first | (with_reducible exact ih0 _ _ _ _ _ _ _ _ _ _ _ _ _) | (with_reducible exact cubbylaw11_has.mono _ _ _) | (with_reducible exact cubbylaw11_heavy.mono _ _ _ _ _) | (with_reducible exact cubbylaw11_same.mono _ _ _) | (with_reducible exact cubbyref07_Uses.mono _ _ _ _ _ _ _) | (with_reducible exact cubbyref11_Ahead.mono _ _ _ _ _ _ _) | (with_reducible exact live_Ahead.mono _ _ _ _ _ _ _) | (with_reducible exact live_Check.mono _ _ _ _ _) | (with_reducible exact LeO.refl _) | (with_reducible exact LeO.none _) | (with_reducible refine LeO.ite ?_ ?_) | (with_reducible refine LeO.bind ?_ (fun _ => ?_)) | exact LeO.none _ | refine LeO.ite ?_ ?_ | refine LeO.bind ?_ (fun _ => ?_)
set_option maxHeartbeats 8000000 in
set_option maxRecDepth 100000 in
theorem cubbylaw11_LiveSteps.calls (k : Nat) (a0_0 : ByteArray) (a0_1 : Int) (a0_2 : Int) (A0_3 : Option Addr) (c0_3 : Nat) (l0_3 : List (List (SIns))) (a1 : Int) (a2 : Int) (r : Bool) (w : World) (hL : LaidW w) (hr : r = true) (hr0_3 : Kd.C (Kd.slice 31 kIns) w A0_3 l0_3.length l0_3) (hc0_3 : l0_3.length ≤ c0_3) (h : cubbylaw11_LiveSteps.f k a0_0 a0_1 a0_2 l0_3 a1 a2 = some r) :
  Calls Tryd.prog 7 #[.agg #[.string a0_0, .int .i64 a0_1, .int .i64 a0_2, .slice A0_3 l0_3.length c0_3], .int .u8 a1, .int .u8 a2] w fun e w' => e = .returned (.bool r) ∧ Below w.heap.size w w' := by
 have hu34 := Tryd.underlying34
 have hu31 := Tryd.underlying31
 have HR0_3 := Aside0.mk hr0_3
 have HC0_3 := Aside0.mk hc0_3
 clear hr0_3 hc0_3
 have HB := Aside0.mk (Below.refl w.heap.size w)
 have HLd := Aside0.mk hL
 clear hL
 have HRt := Aside0.mk hr
 clear hr
 have H := h; clear h; unfold cubbylaw11_LiveSteps.f at H
 replace H := qb H; obtain ⟨t400, A4, H⟩ := H
 by_cases c5 : t400 = true
 ·subst c5
  have H1 : ((live_Check.f k (⟨#[]⟩ : ByteArray) 0 0 ([] : List (List (SIns)))).bind fun t401 => (some (t401 == 70))) = some r := by rw [if_pos rfl] at H; exact H
  clear H
  have H := H1
  clear H1
  replace H := qb H; obtain ⟨t401, A6, H⟩ := H
  obtain rfl := Option.some.inj H
  go_enter Tryd.func7, Tryd.ntmps7
  go_wp2_with (first | ((with_reducible refine gate_dst (N := 3) rfl ?_); refine box_event (by rfl) (N := 3) (by rfl) (cs := #[.string a0_0, .int .i64 a0_1, .int .i64 a0_2, .slice A0_3 l0_3.length c0_3]) (t := 34) ?hr ?_; (case hr => first | (go_simp; done) | (go_simp; rfl)); intro gb399 hg w7 hbox hb; have BK399 := Aside0.mk (hbox); have GW399 := qG hg; have GE399 := GW399; replace HB := qH hb; clear hb hbox hg; obtain ⟨hcz8_0, hcz8_1, hcz8_2, hcz8_3, hfz8_0, hfz8_1, hfz8_2, hfz8_3⟩ := bk4 BK399.out) | ((with_reducible refine gate_callee (f := 19) rfl ?_); refine goesL_ (some 15) rfl rfl Tryd.func19 (by kernel_rfl) rfl #[.agg #[.string a0_0, .int .i64 a0_1, .int .i64 a0_2, .slice A0_3 l0_3.length c0_3]] rfl qL ?_; (with_reducible refine (cubbylaw11_heavy.calls k a0_0 a0_1 a0_2 _ _ l0_3 true _ ?side1 ?side2 A4.out).mono ?_); (case side1 => exact qCB HR0_3.out); (case side2 => exact HC0_3.out); rintro e w9 ⟨rfl, hb⟩; refine ⟨_, rfl, ?_⟩; replace BK399 := qW BK399 hb; replace HB := qH hb; (try clear hb)) | ((with_reducible refine gate_callee (f := 20) rfl ?_); refine goesL_ (some 17) rfl rfl Tryd.func20 (by kernel_rfl) rfl #[.agg #[.string (⟨#[]⟩ : ByteArray), .int .i64 0, .int .i64 0, .slice none 0 0]] rfl qL ?_; (refine (live_Check.calls k (⟨#[]⟩ : ByteArray) 0 0 _ _ ([] : List (List (SIns))) t401 _ ?side1 ?side2 A6.out (hL := ?side99)).mono ?_); (case side1 => exact Kd.C_nil _ _); (case side2 => exact Nat.le_refl _); (case side99 => exact LaidW.below HLd.out qB); rintro e w10 ⟨rfl, hb⟩; refine ⟨_, rfl, ?_⟩; replace BK399 := qW BK399 hb; replace HB := qH hb; (try clear hb)))
  go_ret
  exact ⟨qE, qB⟩
 ·replace c5 := Bool.eq_false_iff.mpr c5
  subst c5
  have H1 : (if (l0_3.length : Int) = 0 then (none) else (if 0 ≤ (Int.tmod (wrap64 (a1)) (l0_3.length : Int)) then (if (Int.tmod (wrap64 (a1)) (l0_3.length : Int)) < (l0_3.length : Int) then (if ((rd_LIns l0_3 (Int.tmod (wrap64 (a1)) (l0_3.length : Int))).length : Int) = 0 then (none) else (if 0 ≤ (Int.tmod (wrap64 (a2)) ((rd_LIns l0_3 (Int.tmod (wrap64 (a1)) (l0_3.length : Int))).length : Int)) then (if (Int.tmod (wrap64 (a2)) ((rd_LIns l0_3 (Int.tmod (wrap64 (a1)) (l0_3.length : Int))).length : Int)) < ((rd_LIns l0_3 (Int.tmod (wrap64 (a1)) (l0_3.length : Int))).length : Int) then ((live_Ahead.f k a0_0 a0_1 a0_2 l0_3 (Int.tmod (wrap64 (a1)) (l0_3.length : Int)) (Int.tmod (wrap64 (a2)) ((rd_LIns l0_3 (Int.tmod (wrap64 (a1)) (l0_3.length : Int))).length : Int))).bind fun t406 => ((live_Ahead.f k a0_0 a0_1 a0_2 l0_3 (Int.tmod (wrap64 (a1)) (l0_3.length : Int)) (wrap64 ((Int.tmod (wrap64 (a2)) ((rd_LIns l0_3 (Int.tmod (wrap64 (a1)) (l0_3.length : Int))).length : Int)) + 1))).bind fun t409 => ((cubbyref11_Ahead.f k a0_0 a0_1 a0_2 l0_3 (Int.tmod (wrap64 (a1)) (l0_3.length : Int)) (Int.tmod (wrap64 (a2)) ((rd_LIns l0_3 (Int.tmod (wrap64 (a1)) (l0_3.length : Int))).length : Int))).bind fun t412 => ((cubbylaw11_same.f k t406 t412).bind fun t415 => (if t415 = true then (cubbylaw11_LiveSteps.l0 k t406 t409 0 a0_0 a0_1 a0_2 l0_3 ((rd_TIns (rd_LIns l0_3 (Int.tmod (wrap64 (a1)) (l0_3.length : Int))) (Int.tmod (wrap64 (a2)) ((rd_LIns l0_3 (Int.tmod (wrap64 (a1)) (l0_3.length : Int))).length : Int))).f0) ((rd_TIns (rd_LIns l0_3 (Int.tmod (wrap64 (a1)) (l0_3.length : Int))) (Int.tmod (wrap64 (a2)) ((rd_LIns l0_3 (Int.tmod (wrap64 (a1)) (l0_3.length : Int))).length : Int))).f1) ((rd_TIns (rd_LIns l0_3 (Int.tmod (wrap64 (a1)) (l0_3.length : Int))) (Int.tmod (wrap64 (a2)) ((rd_LIns l0_3 (Int.tmod (wrap64 (a1)) (l0_3.length : Int))).length : Int))).f2) ((rd_TIns (rd_LIns l0_3 (Int.tmod (wrap64 (a1)) (l0_3.length : Int))) (Int.tmod (wrap64 (a2)) ((rd_LIns l0_3 (Int.tmod (wrap64 (a1)) (l0_3.length : Int))).length : Int))).f3) ((rd_TIns (rd_LIns l0_3 (Int.tmod (wrap64 (a1)) (l0_3.length : Int))) (Int.tmod (wrap64 (a2)) ((rd_LIns l0_3 (Int.tmod (wrap64 (a1)) (l0_3.length : Int))).length : Int))).f4) ((rd_TIns (rd_LIns l0_3 (Int.tmod (wrap64 (a1)) (l0_3.length : Int))) (Int.tmod (wrap64 (a2)) ((rd_LIns l0_3 (Int.tmod (wrap64 (a1)) (l0_3.length : Int))).length : Int))).f5)) else (some false)))))) else (none)) else (none))) else (none)) else (none))) = some r := by rw [if_neg (show ¬ (false = true) by decide)] at H; exact H
  clear H
  have H := H1
  clear H1
  by_cases c11 : (l0_3.length : Int) = 0
  ·rw [if_pos c11] at H
   exact absurd H (by simp)
  ·rw [if_neg c11] at H
   obtain ⟨c11b0, c11b1⟩ := qn c11
   have c11b2 : ¬ (l0_3 = []) := fun h_ => c11 (by rw [h_]; rfl)
   obtain ⟨ji12, hji12⟩ : ∃ j_ : Int, (Int.tmod (wrap64 (a1)) (l0_3.length : Int)) = j_ := ⟨_, rfl⟩
   replace H : (if 0 ≤ (ji12) then (if (ji12) < (l0_3.length : Int) then (if ((rd_LIns l0_3 (ji12)).length : Int) = 0 then (none) else (if 0 ≤ (Int.tmod (wrap64 (a2)) ((rd_LIns l0_3 (ji12)).length : Int)) then (if (Int.tmod (wrap64 (a2)) ((rd_LIns l0_3 (ji12)).length : Int)) < ((rd_LIns l0_3 (ji12)).length : Int) then ((live_Ahead.f k a0_0 a0_1 a0_2 l0_3 (ji12) (Int.tmod (wrap64 (a2)) ((rd_LIns l0_3 (ji12)).length : Int))).bind fun t406 => ((live_Ahead.f k a0_0 a0_1 a0_2 l0_3 (ji12) (wrap64 ((Int.tmod (wrap64 (a2)) ((rd_LIns l0_3 (ji12)).length : Int)) + 1))).bind fun t409 => ((cubbyref11_Ahead.f k a0_0 a0_1 a0_2 l0_3 (ji12) (Int.tmod (wrap64 (a2)) ((rd_LIns l0_3 (ji12)).length : Int))).bind fun t412 => ((cubbylaw11_same.f k t406 t412).bind fun t415 => (if t415 = true then (cubbylaw11_LiveSteps.l0 k t406 t409 0 a0_0 a0_1 a0_2 l0_3 ((rd_TIns (rd_LIns l0_3 (ji12)) (Int.tmod (wrap64 (a2)) ((rd_LIns l0_3 (ji12)).length : Int))).f0) ((rd_TIns (rd_LIns l0_3 (ji12)) (Int.tmod (wrap64 (a2)) ((rd_LIns l0_3 (ji12)).length : Int))).f1) ((rd_TIns (rd_LIns l0_3 (ji12)) (Int.tmod (wrap64 (a2)) ((rd_LIns l0_3 (ji12)).length : Int))).f2) ((rd_TIns (rd_LIns l0_3 (ji12)) (Int.tmod (wrap64 (a2)) ((rd_LIns l0_3 (ji12)).length : Int))).f3) ((rd_TIns (rd_LIns l0_3 (ji12)) (Int.tmod (wrap64 (a2)) ((rd_LIns l0_3 (ji12)).length : Int))).f4) ((rd_TIns (rd_LIns l0_3 (ji12)) (Int.tmod (wrap64 (a2)) ((rd_LIns l0_3 (ji12)).length : Int))).f5)) else (some false)))))) else (none)) else (none))) else (none)) else (none)) = some r := by first | (rw [hji12] at H; exact H) | (simp only [hji12] at H ⊢; exact H)
   (try rw [hji12] at A4)
   by_cases c13 : 0 ≤ (ji12)
   ·rw [if_pos c13] at H
    have c13b0 := decide_eq_true c13
    clear c13
    by_cases c14 : (ji12) < (l0_3.length : Int)
    ·rw [if_pos c14] at H
     have c14b0 := decide_eq_true c14
     clear c14
     by_cases c15 : ((rd_LIns l0_3 (ji12)).length : Int) = 0
     ·rw [if_pos c15] at H
      exact absurd H (by simp)
     ·rw [if_neg c15] at H
      obtain ⟨c15b0, c15b1⟩ := qn c15
      have c15b2 : ¬ ((rd_LIns l0_3 (ji12)) = []) := fun h_ => c15 (by rw [h_]; rfl)
      obtain ⟨ji16, hji16⟩ : ∃ j_ : Int, (Int.tmod (wrap64 (a2)) ((rd_LIns l0_3 (ji12)).length : Int)) = j_ := ⟨_, rfl⟩
      replace H : (if 0 ≤ (ji16) then (if (ji16) < ((rd_LIns l0_3 (ji12)).length : Int) then ((live_Ahead.f k a0_0 a0_1 a0_2 l0_3 (ji12) (ji16)).bind fun t406 => ((live_Ahead.f k a0_0 a0_1 a0_2 l0_3 (ji12) (wrap64 ((ji16) + 1))).bind fun t409 => ((cubbyref11_Ahead.f k a0_0 a0_1 a0_2 l0_3 (ji12) (ji16)).bind fun t412 => ((cubbylaw11_same.f k t406 t412).bind fun t415 => (if t415 = true then (cubbylaw11_LiveSteps.l0 k t406 t409 0 a0_0 a0_1 a0_2 l0_3 ((rd_TIns (rd_LIns l0_3 (ji12)) (ji16)).f0) ((rd_TIns (rd_LIns l0_3 (ji12)) (ji16)).f1) ((rd_TIns (rd_LIns l0_3 (ji12)) (ji16)).f2) ((rd_TIns (rd_LIns l0_3 (ji12)) (ji16)).f3) ((rd_TIns (rd_LIns l0_3 (ji12)) (ji16)).f4) ((rd_TIns (rd_LIns l0_3 (ji12)) (ji16)).f5)) else (some false)))))) else (none)) else (none)) = some r := by first | (rw [hji16] at H; exact H) | (simp only [hji16] at H ⊢; exact H)
      (try rw [hji16] at A4)
      by_cases c17 : 0 ≤ (ji16)
      ·rw [if_pos c17] at H
       have c17b0 := decide_eq_true c17
       clear c17
       by_cases c18 : (ji16) < ((rd_LIns l0_3 (ji12)).length : Int)
       ·rw [if_pos c18] at H
        have c18b0 := decide_eq_true c18
        clear c18
        replace H := qb H; obtain ⟨t406, A19, H⟩ := H
        replace H := qb H; obtain ⟨t409, A20, H⟩ := H
        replace H := qb H; obtain ⟨t412, A21, H⟩ := H
        replace H := qb H; obtain ⟨t415, A22, H⟩ := H
        by_cases c23 : t415 = true
        ·subst c23
         have H1 : (cubbylaw11_LiveSteps.l0 k t406 t409 0 a0_0 a0_1 a0_2 l0_3 ((rd_TIns (rd_LIns l0_3 (ji12)) (ji16)).f0) ((rd_TIns (rd_LIns l0_3 (ji12)) (ji16)).f1) ((rd_TIns (rd_LIns l0_3 (ji12)) (ji16)).f2) ((rd_TIns (rd_LIns l0_3 (ji12)) (ji16)).f3) ((rd_TIns (rd_LIns l0_3 (ji12)) (ji16)).f4) ((rd_TIns (rd_LIns l0_3 (ji12)) (ji16)).f5)) = some r := by rw [if_pos rfl] at H; exact H
         clear H
         have H := H1
         clear H1
         have H' := Aside0.mk H
         clear H
         go_enter Tryd.func7, Tryd.ntmps7
         go_wp2_with (first | ((with_reducible refine gate_dst (N := 3) rfl ?_); refine box_event (by rfl) (N := 3) (by rfl) (cs := #[.string a0_0, .int .i64 a0_1, .int .i64 a0_2, .slice A0_3 l0_3.length c0_3]) (t := 34) ?hr ?_; (case hr => first | (go_simp; done) | (go_simp; rfl)); intro gb399 hg w24 hbox hb; have BK399 := Aside0.mk (hbox); have GW399 := qG hg; have GE399 := GW399; replace HB := qH hb; clear hb hbox hg; obtain ⟨hcz25_0, hcz25_1, hcz25_2, hcz25_3, hfz25_0, hfz25_1, hfz25_2, hfz25_3⟩ := bk4 BK399.out) | ((with_reducible refine gate_callee (f := 19) rfl ?_); refine goesL_ (some 15) rfl rfl Tryd.func19 (by kernel_rfl) rfl #[.agg #[.string a0_0, .int .i64 a0_1, .int .i64 a0_2, .slice A0_3 l0_3.length c0_3]] rfl qL ?_; (with_reducible refine (cubbylaw11_heavy.calls k a0_0 a0_1 a0_2 _ _ l0_3 false _ ?side1 ?side2 A4.out).mono ?_); (case side1 => exact qCB HR0_3.out); (case side2 => exact HC0_3.out); rintro e w26 ⟨rfl, hb⟩; refine ⟨_, rfl, ?_⟩; replace BK399 := qW BK399 hb; replace HB := qH hb; (try clear hb); obtain ⟨hcz27_0, hcz27_1, hcz27_2, hcz27_3, hfz27_0, hfz27_1, hfz27_2, hfz27_3⟩ := bk4 BK399.out; have p402 : 0 ≤ ((ji12) : Int) := of_decide_eq_true qA; have q402 : (ji12) < (l0_3.length : Int) := of_decide_eq_true qA; obtain ⟨ad402, A402_0, c402_0, e402, hx402_0, hl402_0, hi402_0⟩ := at_LIns HR0_3.out (ji12) p402 q402; cases e402; replace hx402_0 := (HB.out.cell (World.block_lt_of_cell? w _ hx402_0)).trans hx402_0; have HR402_0 := Aside0.mk hi402_0; have HC402_0 := Aside0.mk hl402_0; clear hi402_0 hl402_0; replace p402 := eq_true p402; replace q402 := eq_true q402; have p403 : 0 ≤ ((ji12) : Int) := of_decide_eq_true qA; have q403 : (ji12) < (l0_3.length : Int) := of_decide_eq_true qA; obtain ⟨ad403, A403_0, c403_0, e403, hx403_0, hl403_0, hi403_0⟩ := at_LIns HR0_3.out (ji12) p403 q403; obtain rfl : ad402 = ad403 := (by injection e403); replace hx403_0 := (HB.out.cell (World.block_lt_of_cell? w _ hx403_0)).trans hx403_0; have HR403_0 := Aside0.mk hi403_0; have HC403_0 := Aside0.mk hl403_0; clear hi403_0 hl403_0; replace p403 := eq_true p403; replace q403 := eq_true q403; have ea_ := Option.some.inj (hx402_0.symm.trans hx403_0); injection ea_ with ea_ en_ ec_; subst ea_; subst ec_; clear en_; have p404 : 0 ≤ ((ji16) : Int) := of_decide_eq_true qA; have q404 : (ji16) < ((rd_LIns l0_3 (ji12)).length : Int) := of_decide_eq_true qA; obtain ⟨ad404, A404_5, c404_5, e404, hx404_0, hx404_1, hx404_2, hx404_3, hx404_4, hx404_5, hl404_5, hi404_5⟩ := at_TIns HR403_0.out (ji16) p404 q404; cases e404; replace hx404_0 := (HB.out.cell (World.block_lt_of_cell? w _ hx404_0)).trans hx404_0; replace hx404_1 := (HB.out.cell (World.block_lt_of_cell? w _ hx404_1)).trans hx404_1; replace hx404_2 := (HB.out.cell (World.block_lt_of_cell? w _ hx404_2)).trans hx404_2; replace hx404_3 := (HB.out.cell (World.block_lt_of_cell? w _ hx404_3)).trans hx404_3; replace hx404_4 := (HB.out.cell (World.block_lt_of_cell? w _ hx404_4)).trans hx404_4; replace hx404_5 := (HB.out.cell (World.block_lt_of_cell? w _ hx404_5)).trans hx404_5; have HR404_5 := Aside0.mk hi404_5; have HC404_5 := Aside0.mk hl404_5; clear hi404_5 hl404_5; replace p404 := eq_true p404; replace q404 := eq_true q404) | ((with_reducible refine gate_dst (N := 9) rfl ?_); refine box_event (by rfl) (N := 9) (by rfl) (cs := #[.int .i64 0, .int .i64 0, .int .i64 0, .int .i64 0, .string (⟨#[]⟩ : ByteArray), .slice none 0 0]) (t := 31) ?hr ?_; (case hr => first | (go_simp; done) | (go_simp; rfl)); intro gb405 hg w28 hbox hb; have BK405 := Aside0.mk (hbox); have GW405 := qG hg; have GE405 := GW405; replace HB := qH hb; have NB399_405 := Aside0.mk ((by rw [hg]; exact Nat.ne_of_lt (blk_lt (g := gb399) (o := .cells #[.string a0_0, .int .i64 a0_1, .int .i64 a0_2, .slice (some ad402) l0_3.length c0_3] 34 (0, 0)) (qK BK399.out)) : gb399 ≠ gb405)); have NB405_399 := Aside0.mk ((by rw [hg]; exact Nat.ne_of_gt (blk_lt (g := gb399) (o := .cells #[.string a0_0, .int .i64 a0_1, .int .i64 a0_2, .slice (some ad402) l0_3.length c0_3] 34 (0, 0)) (qK BK399.out)) : gb405 ≠ gb399)); replace BK399 := qW BK399 hb; clear hb hbox hg; have hnb29 := NB405_399.out; have hnc29 := NB399_405.out; obtain ⟨hcz30_0, hcz30_1, hcz30_2, hcz30_3, hcz30_4, hcz30_5, hfz30_0, hfz30_1, hfz30_2, hfz30_3, hfz30_4, hfz30_5⟩ := bk6 BK405.out; obtain ⟨hcz31_0, hcz31_1, hcz31_2, hcz31_3, hfz31_0, hfz31_1, hfz31_2, hfz31_3⟩ := bk4 BK399.out) | ((with_reducible refine gate_callee (f := 22) rfl ?_); refine goesL_ (some 45) rfl rfl Tryd.func22 (by kernel_rfl) rfl #[.agg #[.string a0_0, .int .i64 a0_1, .int .i64 a0_2, .slice (some ad402) l0_3.length c0_3], .int .i64 ji12, .int .i64 ji16] rfl (by (try simp only [List.map_toArray, List.map_cons, List.map_nil]); first | done | (simp only [hji12, hji16]; rfl) | rfl | (simp only [List.length_drop, List.length_take]; rfl)) ?_; (with_reducible refine (live_Ahead.calls k a0_0 a0_1 a0_2 _ _ l0_3 ji12 ji16 t406 _ ?side1 ?side2 A19.out (hL := ?side99)).mono ?_); (case side1 => exact Kd.C_below HR0_3.out qB); (case side2 => exact HC0_3.out); (case side99 => exact LaidW.below HLd.out qB); rintro e w32 ⟨v407, rfl, ho0, hb⟩; refine ⟨_, rfl, ?_⟩; have HO408 := Aside0.mk (Kd.R_lower ho0 (below_size qB)); replace BK399 := Aside0.mk (blk_below (g := gb399) (o := .cells #[.string a0_0, .int .i64 a0_1, .int .i64 a0_2, .slice (some ad402) l0_3.length c0_3] 34 (0, 0)) (by (with_reducible repeat (first | refine blk_drewN ?_ _ | refine blk_drew ?_ | refine blk_alloc ?_ _)); refine blk_far ?_ NB399_405.out _; (with_reducible repeat (first | refine blk_drewN ?_ _ | refine blk_drew ?_ | refine blk_alloc ?_ _)); refine blk_far ?_ NB399_405.out _; (with_reducible repeat (first | refine blk_drewN ?_ _ | refine blk_drew ?_ | refine blk_alloc ?_ _)); refine blk_far ?_ NB399_405.out _; (with_reducible repeat (first | refine blk_drewN ?_ _ | refine blk_drew ?_ | refine blk_alloc ?_ _)); refine blk_far ?_ NB399_405.out _; (with_reducible repeat (first | refine blk_drewN ?_ _ | refine blk_drew ?_ | refine blk_alloc ?_ _)); refine blk_far ?_ NB399_405.out _; (with_reducible repeat (first | refine blk_drewN ?_ _ | refine blk_drew ?_ | refine blk_alloc ?_ _)); refine blk_far ?_ NB399_405.out _; (with_reducible repeat (first | refine blk_drewN ?_ _ | refine blk_drew ?_ | refine blk_alloc ?_ _)); exact BK399.out) hb); replace BK405 := Aside0.mk (blk_below (g := gb405) (o := .cells #[.int .i64 ((rd_TIns (rd_LIns l0_3 (ji12)) (ji16)).f0), .int .i64 ((rd_TIns (rd_LIns l0_3 (ji12)) (ji16)).f1), .int .i64 ((rd_TIns (rd_LIns l0_3 (ji12)) (ji16)).f2), .int .i64 ((rd_TIns (rd_LIns l0_3 (ji12)) (ji16)).f3), .string ((rd_TIns (rd_LIns l0_3 (ji12)) (ji16)).f4), .slice A404_5 ((rd_TIns (rd_LIns l0_3 (ji12)) (ji16)).f5).length c404_5] 31 (0, 0)) (by (with_reducible repeat (first | refine blk_drewN ?_ _ | refine blk_drew ?_ | refine blk_alloc ?_ _)); refine blk_put (cs := #[.int .i64 ((rd_TIns (rd_LIns l0_3 (ji12)) (ji16)).f0), .int .i64 ((rd_TIns (rd_LIns l0_3 (ji12)) (ji16)).f1), .int .i64 ((rd_TIns (rd_LIns l0_3 (ji12)) (ji16)).f2), .int .i64 ((rd_TIns (rd_LIns l0_3 (ji12)) (ji16)).f3), .string ((rd_TIns (rd_LIns l0_3 (ji12)) (ji16)).f4), .slice none 0 0]) ?_ 5 _ rfl; (with_reducible repeat (first | refine blk_drewN ?_ _ | refine blk_drew ?_ | refine blk_alloc ?_ _)); refine blk_put (cs := #[.int .i64 ((rd_TIns (rd_LIns l0_3 (ji12)) (ji16)).f0), .int .i64 ((rd_TIns (rd_LIns l0_3 (ji12)) (ji16)).f1), .int .i64 ((rd_TIns (rd_LIns l0_3 (ji12)) (ji16)).f2), .int .i64 ((rd_TIns (rd_LIns l0_3 (ji12)) (ji16)).f3), .string (⟨#[]⟩ : ByteArray), .slice none 0 0]) ?_ 4 _ rfl; (with_reducible repeat (first | refine blk_drewN ?_ _ | refine blk_drew ?_ | refine blk_alloc ?_ _)); refine blk_put (cs := #[.int .i64 ((rd_TIns (rd_LIns l0_3 (ji12)) (ji16)).f0), .int .i64 ((rd_TIns (rd_LIns l0_3 (ji12)) (ji16)).f1), .int .i64 ((rd_TIns (rd_LIns l0_3 (ji12)) (ji16)).f2), .int .i64 0, .string (⟨#[]⟩ : ByteArray), .slice none 0 0]) ?_ 3 _ rfl; (with_reducible repeat (first | refine blk_drewN ?_ _ | refine blk_drew ?_ | refine blk_alloc ?_ _)); refine blk_put (cs := #[.int .i64 ((rd_TIns (rd_LIns l0_3 (ji12)) (ji16)).f0), .int .i64 ((rd_TIns (rd_LIns l0_3 (ji12)) (ji16)).f1), .int .i64 0, .int .i64 0, .string (⟨#[]⟩ : ByteArray), .slice none 0 0]) ?_ 2 _ rfl; (with_reducible repeat (first | refine blk_drewN ?_ _ | refine blk_drew ?_ | refine blk_alloc ?_ _)); refine blk_put (cs := #[.int .i64 ((rd_TIns (rd_LIns l0_3 (ji12)) (ji16)).f0), .int .i64 0, .int .i64 0, .int .i64 0, .string (⟨#[]⟩ : ByteArray), .slice none 0 0]) ?_ 1 _ rfl; (with_reducible repeat (first | refine blk_drewN ?_ _ | refine blk_drew ?_ | refine blk_alloc ?_ _)); refine blk_put (cs := #[.int .i64 0, .int .i64 0, .int .i64 0, .int .i64 0, .string (⟨#[]⟩ : ByteArray), .slice none 0 0]) ?_ 0 _ rfl; (with_reducible repeat (first | refine blk_drewN ?_ _ | refine blk_drew ?_ | refine blk_alloc ?_ _)); exact BK405.out) hb); replace HB := qH hb; obtain ⟨hcz33_0, hcz33_1, hcz33_2, hcz33_3, hfz33_0, hfz33_1, hfz33_2, hfz33_3⟩ := bk4 BK399.out) | ((with_reducible refine gate_callee (f := 22) rfl ?_); refine goesL_ (some 50) rfl rfl Tryd.func22 (by kernel_rfl) rfl #[.agg #[.string a0_0, .int .i64 a0_1, .int .i64 a0_2, .slice (some ad402) l0_3.length c0_3], .int .i64 ji12, .int .i64 (wrap64 ((ji16) + 1))] rfl (by (try simp only [List.map_toArray, List.map_cons, List.map_nil]); first | done | (simp only [hji12, hji16]; rfl) | rfl | (simp only [List.length_drop, List.length_take]; rfl)) ?_; (with_reducible refine (live_Ahead.calls k a0_0 a0_1 a0_2 _ _ l0_3 ji12 (wrap64 ((ji16) + 1)) t409 _ ?side1 ?side2 A20.out (hL := ?side99)).mono ?_); (case side1 => exact qCB HR0_3.out); (case side2 => exact HC0_3.out); (case side99 => exact LaidW.below HLd.out qB); rintro e w34 ⟨v410, rfl, ho0, hb⟩; refine ⟨_, rfl, ?_⟩; have HO411 := Aside0.mk (Kd.R_lower (Kd.R_new' ho0 (Kd.R_lt (qR HO408.out))) (below_size qB)); replace HO408 := Aside0.mk (Kd.R_elder' (qR HO408.out) (Kd.R_base ho0) hb); replace BK399 := qW BK399 hb; replace BK405 := qW BK405 hb; replace HB := qH hb; (try clear hb); (try clear ho0); obtain ⟨hcz35_0, hcz35_1, hcz35_2, hcz35_3, hfz35_0, hfz35_1, hfz35_2, hfz35_3⟩ := bk4 BK399.out) | ((with_reducible refine gate_callee (f := 23) rfl ?_); refine goesL_ (some 55) rfl rfl Tryd.func23 (by kernel_rfl) rfl #[.agg #[.string a0_0, .int .i64 a0_1, .int .i64 a0_2, .slice (some ad402) l0_3.length c0_3], .int .i64 ji12, .int .i64 ji16] rfl (by (try simp only [List.map_toArray, List.map_cons, List.map_nil]); first | done | (simp only [hji12, hji16]; rfl) | rfl | (simp only [List.length_drop, List.length_take]; rfl)) ?_; (with_reducible refine (cubbyref11_Ahead.calls k a0_0 a0_1 a0_2 _ _ l0_3 ji12 ji16 t412 _ ?side1 ?side2 A21.out).mono ?_); (case side1 => exact qCB HR0_3.out); (case side2 => exact HC0_3.out); rintro e w36 ⟨v413, rfl, ho0, hb⟩; refine ⟨_, rfl, ?_⟩; have HO414 := Aside0.mk (Kd.R_lower (Kd.R_new' (Kd.R_new' ho0 (Kd.R_lt (qR HO408.out))) (Kd.R_lt (qR HO411.out))) (below_size qB)); replace HO408 := Aside0.mk (Kd.R_elder' (qR HO408.out) (Kd.R_base ho0) hb); replace HO411 := Aside0.mk (Kd.R_elder' (qR HO411.out) (Kd.R_base ho0) hb); replace BK399 := qW BK399 hb; replace BK405 := qW BK405 hb; replace HB := qH hb; (try clear hb); (try clear ho0); obtain ⟨Ao37, co37, eo37⟩ := Kd.R_slice HO408.out; subst eo37; obtain ⟨Ao38, co38, eo38⟩ := Kd.R_slice HO414.out; subst eo38) | ((with_reducible refine gate_callee (f := 21) rfl ?_); refine goesL_ (some 56) rfl rfl Tryd.func21 (by kernel_rfl) rfl #[.slice Ao37 t406.length co37, .slice Ao38 t412.length co38] rfl qL ?_; (with_reducible refine (cubbylaw11_same.calls k _ _ t406 _ _ t412 true _ ?side1 ?side2 ?side3 ?side4 A22.out).mono ?_); (case side1 => repeat (first | exact (Kd.R_reads' HO408.out).2.2 | (with_reducible refine Kd.C_alloc ?_ _) | (with_reducible refine Kd.C_drewN ?_ _) | (with_reducible refine Kd.C_drew ?_))); (case side2 => exact (Kd.R_reads' HO408.out).2.1); (case side3 => repeat (first | exact (Kd.R_reads' HO414.out).2.2 | (with_reducible refine Kd.C_alloc ?_ _) | (with_reducible refine Kd.C_drewN ?_ _) | (with_reducible refine Kd.C_drew ?_))); (case side4 => exact (Kd.R_reads' HO414.out).2.1); rintro e w' ⟨rfl, ⟨nd, rfl⟩⟩; refine ⟨_, rfl, ?_⟩))
         go_loopg [12] k (fun kq v12 w' => ∃ (x12_1 : Int), v12 = .int .i64 x12_1 ∧ Aside0 (cubbylaw11_LiveSteps.l0 kq t406 t409 x12_1 a0_0 a0_1 a0_2 l0_3 ((rd_TIns (rd_LIns l0_3 (ji12)) (ji16)).f0) ((rd_TIns (rd_LIns l0_3 (ji12)) (ji16)).f1) ((rd_TIns (rd_LIns l0_3 (ji12)) (ji16)).f2) ((rd_TIns (rd_LIns l0_3 (ji12)) (ji16)).f3) ((rd_TIns (rd_LIns l0_3 (ji12)) (ji16)).f4) ((rd_TIns (rd_LIns l0_3 (ji12)) (ji16)).f5) = some r) ∧ Aside0 (kq ≤ k) ∧ Aside0 (Kd.R (Kd.int .i64) 3 w' w.heap.size (fun k_ => some k_ ≠ (v410 : Value).ownBlock) (.slice Ao37 t406.length co37) t406) ∧ Aside0 (Kd.R (Kd.int .i64) 3 w' w.heap.size (fun k_ => some k_ ≠ ((.slice Ao37 t406.length co37) : Value).ownBlock) v410 t409) ∧ Aside0 (w'.heap[gb399]? = some (.cells #[.string a0_0, .int .i64 a0_1, .int .i64 a0_2, (.slice (some ad402) l0_3.length c0_3)] 34 (0, 0))) ∧ Aside0 (w'.heap[gb405]? = some (.cells #[.int .i64 ((rd_TIns (rd_LIns l0_3 (ji12)) (ji16)).f0), .int .i64 ((rd_TIns (rd_LIns l0_3 (ji12)) (ji16)).f1), .int .i64 ((rd_TIns (rd_LIns l0_3 (ji12)) (ji16)).f2), .int .i64 ((rd_TIns (rd_LIns l0_3 (ji12)) (ji16)).f3), .string ((rd_TIns (rd_LIns l0_3 (ji12)) (ji16)).f4), (.slice A404_5 ((rd_TIns (rd_LIns l0_3 (ji12)) (ji16)).f5).length c404_5)] 31 (0, 0))) ∧ Aside0 (Below w.heap.size w w'))
         case atStart => exact ⟨(0), qT, H', ⟨Nat.le_refl _⟩, ⟨by (with_reducible repeat (first | apply Kd.R_alloc | apply Kd.R_drewN | apply Kd.R_drew)); exact Kd.R_mono HO408.out (fun _ hk => hk.1.2)⟩, ⟨by (with_reducible repeat (first | apply Kd.R_alloc | apply Kd.R_drewN | apply Kd.R_drew)); exact Kd.R_mono HO411.out (fun _ hk => hk.1.2)⟩, ⟨qK BK399.out⟩, ⟨qK BK405.out⟩, ⟨qB⟩⟩
         case round =>
          clear H'
          try clear c1; try clear c2; try clear p2; try clear c4; try clear p4; try clear q4; try clear hx4; try clear c5; try clear p6; try clear c7; try clear c11; try clear c11b0 c11b1 c11b2; try clear c13; try clear c13b0; try clear c14; try clear c14b0; try clear c15; try clear c15b0 c15b1 c15b2; try clear c17; try clear c17b0; try clear c18; try clear c18b0; try clear c19; try clear c20; try clear c21; try clear c22; try clear c23; try clear c29; try clear hcz25_0 hcz25_1 hcz25_2 hcz25_3 hfz25_0 hfz25_1 hfz25_2 hfz25_3; try clear hcz27_0 hcz27_1 hcz27_2 hcz27_3 hfz27_0 hfz27_1 hfz27_2 hfz27_3; try clear hcz30_0 hcz30_1 hcz30_2 hcz30_3 hcz30_4 hcz30_5 hfz30_0 hfz30_1 hfz30_2 hfz30_3 hfz30_4 hfz30_5; try clear hcz31_0 hcz31_1 hcz31_2 hcz31_3 hfz31_0 hfz31_1 hfz31_2 hfz31_3; try clear hcz33_0 hcz33_1 hcz33_2 hcz33_3 hfz33_0 hfz33_1 hfz33_2 hfz33_3; try clear hcz35_0 hcz35_1 hcz35_2 hcz35_3 hfz35_0 hfz35_1 hfz35_2 hfz35_3; try clear hcz8_0 hcz8_1 hcz8_2 hcz8_3 hfz8_0 hfz8_1 hfz8_2 hfz8_3; try clear hx402_0; try clear hx403_0; try clear hx404_0; try clear hx404_1; try clear hx404_2; try clear hx404_3; try clear hx404_4; try clear hx404_5; try clear p402; try clear p403; try clear p404; try clear q402; try clear q403; try clear q404
          obtain ⟨x12_1, rfl, HA, HK1, HO_10, HO_11, BK399, BK405, HB⟩ := hrel
          cases gk with
          | zero => exact absurd HA.out (by simp [cubbylaw11_LiveSteps.l0])
          | succ k1 =>
           have H := HA.out
           clear HA
           simp only [cubbylaw11_LiveSteps.l0] at H
           by_cases c39 : x12_1 < a0_2
           ·rw [if_pos c39] at H
            have c39b0 := decide_eq_true c39
            clear c39
            replace H := qb H; obtain ⟨t416, A40, H⟩ := H
            replace H := qb H; obtain ⟨t419, A41, H⟩ := H
            by_cases c42 : t419 = true
            ·subst c42
             have H1 : ((cubbylaw11_has.f k1 t406 x12_1).bind fun t420 => (if (t420 != true) = true then (some false) else (cubbylaw11_LiveSteps.l0 k1 t406 t409 (wrap64 (x12_1 + 1)) a0_0 a0_1 a0_2 l0_3 ((rd_TIns (rd_LIns l0_3 (ji12)) (ji16)).f0) ((rd_TIns (rd_LIns l0_3 (ji12)) (ji16)).f1) ((rd_TIns (rd_LIns l0_3 (ji12)) (ji16)).f2) ((rd_TIns (rd_LIns l0_3 (ji12)) (ji16)).f3) ((rd_TIns (rd_LIns l0_3 (ji12)) (ji16)).f4) ((rd_TIns (rd_LIns l0_3 (ji12)) (ji16)).f5)))) = some r := by rw [if_pos rfl] at H; exact H
             clear H
             have H := H1
             clear H1
             replace H := qb H; obtain ⟨t420, A43, H⟩ := H
             by_cases c44 : (t420 != true) = true
             ·rw [if_pos c44] at H
              have c44b0 : (t420 != true) = true := c44
              (try (have c44b1 : decide (t420 = true) = false := by simpa using c44))
              (try (have c44b2 : (t420 == true) = false := by simpa using c44))
              (try (have c44b3 : ¬ (t420 = true) := by simpa using c44))
              clear c44
              exact absurd ((Option.some.inj H).trans HRt.out) (by decide)
             ·rw [if_neg c44] at H
              have c44b0 : (t420 != true) = false := by simpa using c44
              (try (have c44b1 : decide (t420 = true) = true := by simpa using c44))
              (try (have c44b2 : (t420 == true) = true := by simpa using c44))
              clear c44
              have H' := Aside0.mk H
              clear H
              have hnb45 := NB399_405.out
              have hnc45 := NB405_399.out
              obtain ⟨hcz46_0, hcz46_1, hcz46_2, hcz46_3, hfz46_0, hfz46_1, hfz46_2, hfz46_3⟩ := bk4 BK399.out
              have hcz47_0 : wr.cell? ⟨gb405, 0, none⟩ = some (.int .i64 ((rd_TIns (rd_LIns l0_3 (ji12)) (ji16)).f0)) := (blk_cell BK405.out 0).trans rfl
              have hcz47_1 : wr.cell? ⟨gb405, 1, none⟩ = some (.int .i64 ((rd_TIns (rd_LIns l0_3 (ji12)) (ji16)).f1)) := (blk_cell BK405.out 1).trans rfl
              have hcz47_2 : wr.cell? ⟨gb405, 2, none⟩ = some (.int .i64 ((rd_TIns (rd_LIns l0_3 (ji12)) (ji16)).f2)) := (blk_cell BK405.out 2).trans rfl
              have hcz47_3 : wr.cell? ⟨gb405, 3, none⟩ = some (.int .i64 ((rd_TIns (rd_LIns l0_3 (ji12)) (ji16)).f3)) := (blk_cell BK405.out 3).trans rfl
              have hcz47_4 : wr.cell? ⟨gb405, 4, none⟩ = some (.string ((rd_TIns (rd_LIns l0_3 (ji12)) (ji16)).f4)) := (blk_cell BK405.out 4).trans rfl
              have hcz47_5 : wr.cell? ⟨gb405, 5, none⟩ = some (.slice A404_5 ((rd_TIns (rd_LIns l0_3 ji12) ji16).f5).length c404_5) := (blk_cell BK405.out 5).trans rfl
              have hfz47_0 := blk_frozen BK405.out 0
              have hfz47_1 := blk_frozen BK405.out 1
              have hfz47_2 := blk_frozen BK405.out 2
              have hfz47_3 := blk_frozen BK405.out 3
              have hfz47_4 := blk_frozen BK405.out 4
              have hfz47_5 := blk_frozen BK405.out 5
              go_wp2_with (first | ((with_reducible refine gate_callee (f := 25) rfl ?_); refine goesL_ (some 65) rfl rfl Tryd.func25 (by kernel_rfl) rfl #[.agg #[.int .i64 ((rd_TIns (rd_LIns l0_3 (ji12)) (ji16)).f0), .int .i64 ((rd_TIns (rd_LIns l0_3 (ji12)) (ji16)).f1), .int .i64 ((rd_TIns (rd_LIns l0_3 (ji12)) (ji16)).f2), .int .i64 ((rd_TIns (rd_LIns l0_3 (ji12)) (ji16)).f3), .string ((rd_TIns (rd_LIns l0_3 (ji12)) (ji16)).f4), .slice A404_5 ((rd_TIns (rd_LIns l0_3 ji12) ji16).f5).length c404_5]] rfl (by (try simp only [List.map_toArray, List.map_cons, List.map_nil]); first | done | (simp only [hji12, hji16]; rfl) | rfl | (simp only [List.length_drop, List.length_take]; rfl)) ?_; (with_reducible refine (cubbyref07_Uses.calls k1 ((rd_TIns (rd_LIns l0_3 (ji12)) (ji16)).f0) ((rd_TIns (rd_LIns l0_3 (ji12)) (ji16)).f1) ((rd_TIns (rd_LIns l0_3 (ji12)) (ji16)).f2) ((rd_TIns (rd_LIns l0_3 (ji12)) (ji16)).f3) ((rd_TIns (rd_LIns l0_3 (ji12)) (ji16)).f4) _ _ ((rd_TIns (rd_LIns l0_3 (ji12)) (ji16)).f5) t416 _ ?side1 ?side2 A40.out).mono ?_); (case side1 => exact qCB HR404_5.out); (case side2 => exact HC404_5.out); rintro e w48 ⟨v417, rfl, ho0, hb⟩; refine ⟨_, rfl, ?_⟩; have HO418 := Aside0.mk (Kd.R_lower (Kd.R_new' (Kd.R_new' ho0 (Kd.R_lt (qR HO_10.out))) (Kd.R_lt (qR HO_11.out))) (below_size qB)); replace HO_10 := Aside0.mk (Kd.R_elder' (qR HO_10.out) (Kd.R_base ho0) hb); replace HO_11 := Aside0.mk (Kd.R_elder' (qR HO_11.out) (Kd.R_base ho0) hb); replace BK399 := qW BK399 hb; replace BK405 := qW BK405 hb; replace HB := qH hb; (try clear hb); (try clear ho0); obtain ⟨Ao49, co49, eo49⟩ := Kd.R_slice HO418.out; subst eo49) | ((with_reducible refine gate_callee (f := 24) rfl ?_); refine goesL_ (some 67) rfl rfl Tryd.func24 (by kernel_rfl) rfl #[.slice Ao49 t416.length co49, .int .i64 x12_1] rfl qL ?_; (with_reducible refine (cubbylaw11_has.calls k1 _ _ t416 x12_1 true _ ?side1 ?side2 A41.out).mono ?_); (case side1 => repeat (first | exact (Kd.R_reads' HO418.out).2.2 | (with_reducible refine Kd.C_alloc ?_ _) | (with_reducible refine Kd.C_drewN ?_ _) | (with_reducible refine Kd.C_drew ?_))); (case side2 => exact (Kd.R_reads' HO418.out).2.1); rintro e w' ⟨rfl, ⟨nd, rfl⟩⟩; refine ⟨_, rfl, ?_⟩) | ((with_reducible refine gate_callee (f := 24) rfl ?_); refine goesL_ (some 81) rfl rfl Tryd.func24 (by kernel_rfl) rfl #[.slice Ao37 t406.length co37, .int .i64 x12_1] rfl qL ?_; (with_reducible refine (cubbylaw11_has.calls k1 _ _ t406 x12_1 t420 _ ?side1 ?side2 A43.out).mono ?_); (case side1 => repeat (first | exact (Kd.R_reads' HO_10.out).2.2 | (with_reducible refine Kd.C_alloc ?_ _) | (with_reducible refine Kd.C_drewN ?_ _) | (with_reducible refine Kd.C_drew ?_))); (case side2 => exact (Kd.R_reads' HO_10.out).2.1); rintro e w' ⟨rfl, ⟨nd, rfl⟩⟩; refine ⟨_, rfl, ?_⟩))
              go_roundg k1
              case measure => have := HK1.out; omega
              case rel => exact ⟨(wrap64 (x12_1 + 1)), qT, H', ⟨by have := HK1.out; omega⟩, ⟨by (with_reducible repeat (first | apply Kd.R_alloc | apply Kd.R_drewN | apply Kd.R_drew)); exact Kd.R_mono HO_10.out (fun _ hk => hk.1)⟩, ⟨by (with_reducible repeat (first | apply Kd.R_alloc | apply Kd.R_drewN | apply Kd.R_drew)); exact Kd.R_mono HO_11.out (fun _ hk => hk.1)⟩, ⟨qK BK399.out⟩, ⟨qK BK405.out⟩, ⟨qB⟩⟩
            ·replace c42 := Bool.eq_false_iff.mpr c42
             subst c42
             have H1 : ((cubbylaw11_has.f k1 t409 x12_1).bind fun t421 => (if t421 = true then ((cubbyref07_Def.f ((rd_TIns (rd_LIns l0_3 (ji12)) (ji16)).f0) ((rd_TIns (rd_LIns l0_3 (ji12)) (ji16)).f1) ((rd_TIns (rd_LIns l0_3 (ji12)) (ji16)).f2) ((rd_TIns (rd_LIns l0_3 (ji12)) (ji16)).f3) ((rd_TIns (rd_LIns l0_3 (ji12)) (ji16)).f4) ((rd_TIns (rd_LIns l0_3 (ji12)) (ji16)).f5)).bind fun t422 => ((cubbylaw11_has.f k1 t406 x12_1).bind fun t423 => (if (t423 != (t422 != x12_1)) = true then (some false) else (cubbylaw11_LiveSteps.l0 k1 t406 t409 (wrap64 (x12_1 + 1)) a0_0 a0_1 a0_2 l0_3 ((rd_TIns (rd_LIns l0_3 (ji12)) (ji16)).f0) ((rd_TIns (rd_LIns l0_3 (ji12)) (ji16)).f1) ((rd_TIns (rd_LIns l0_3 (ji12)) (ji16)).f2) ((rd_TIns (rd_LIns l0_3 (ji12)) (ji16)).f3) ((rd_TIns (rd_LIns l0_3 (ji12)) (ji16)).f4) ((rd_TIns (rd_LIns l0_3 (ji12)) (ji16)).f5))))) else ((cubbylaw11_has.f k1 t406 x12_1).bind fun t424 => (if (t424 != false) = true then (some false) else (cubbylaw11_LiveSteps.l0 k1 t406 t409 (wrap64 (x12_1 + 1)) a0_0 a0_1 a0_2 l0_3 ((rd_TIns (rd_LIns l0_3 (ji12)) (ji16)).f0) ((rd_TIns (rd_LIns l0_3 (ji12)) (ji16)).f1) ((rd_TIns (rd_LIns l0_3 (ji12)) (ji16)).f2) ((rd_TIns (rd_LIns l0_3 (ji12)) (ji16)).f3) ((rd_TIns (rd_LIns l0_3 (ji12)) (ji16)).f4) ((rd_TIns (rd_LIns l0_3 (ji12)) (ji16)).f5)))))) = some r := by rw [if_neg (show ¬ (false = true) by decide)] at H; exact H
             clear H
             have H := H1
             clear H1
             replace H := qb H; obtain ⟨t421, A50, H⟩ := H
             by_cases c51 : t421 = true
             ·subst c51
              have H1 : ((cubbyref07_Def.f ((rd_TIns (rd_LIns l0_3 (ji12)) (ji16)).f0) ((rd_TIns (rd_LIns l0_3 (ji12)) (ji16)).f1) ((rd_TIns (rd_LIns l0_3 (ji12)) (ji16)).f2) ((rd_TIns (rd_LIns l0_3 (ji12)) (ji16)).f3) ((rd_TIns (rd_LIns l0_3 (ji12)) (ji16)).f4) ((rd_TIns (rd_LIns l0_3 (ji12)) (ji16)).f5)).bind fun t422 => ((cubbylaw11_has.f k1 t406 x12_1).bind fun t423 => (if (t423 != (t422 != x12_1)) = true then (some false) else (cubbylaw11_LiveSteps.l0 k1 t406 t409 (wrap64 (x12_1 + 1)) a0_0 a0_1 a0_2 l0_3 ((rd_TIns (rd_LIns l0_3 (ji12)) (ji16)).f0) ((rd_TIns (rd_LIns l0_3 (ji12)) (ji16)).f1) ((rd_TIns (rd_LIns l0_3 (ji12)) (ji16)).f2) ((rd_TIns (rd_LIns l0_3 (ji12)) (ji16)).f3) ((rd_TIns (rd_LIns l0_3 (ji12)) (ji16)).f4) ((rd_TIns (rd_LIns l0_3 (ji12)) (ji16)).f5))))) = some r := by rw [if_pos rfl] at H; exact H
              clear H
              have H := H1
              clear H1
              replace H := qb H; obtain ⟨t422, A52, H⟩ := H
              replace H := qb H; obtain ⟨t423, A53, H⟩ := H
              by_cases c54 : (t423 != (t422 != x12_1)) = true
              ·rw [if_pos c54] at H
               have c54b0 : (t423 != (t422 != x12_1)) = true := c54
               (try (have c54b1 : decide (t423 = (t422 != x12_1)) = false := by simpa using c54))
               (try (have c54b2 : (t423 == (t422 != x12_1)) = false := by simpa using c54))
               (try (have c54b3 : ¬ (t423 = (t422 != x12_1)) := by simpa using c54))
               clear c54
               exact absurd ((Option.some.inj H).trans HRt.out) (by decide)
              ·rw [if_neg c54] at H
               have c54b0 : (t423 != (t422 != x12_1)) = false := by simpa using c54
               (try (have c54b1 : decide (t423 = (t422 != x12_1)) = true := by simpa using c54))
               (try (have c54b2 : (t423 == (t422 != x12_1)) = true := by simpa using c54))
               clear c54
               have H' := Aside0.mk H
               clear H
               have hnb55 := NB399_405.out
               have hnc55 := NB405_399.out
               obtain ⟨hcz56_0, hcz56_1, hcz56_2, hcz56_3, hfz56_0, hfz56_1, hfz56_2, hfz56_3⟩ := bk4 BK399.out
               have hcz57_0 : wr.cell? ⟨gb405, 0, none⟩ = some (.int .i64 ((rd_TIns (rd_LIns l0_3 (ji12)) (ji16)).f0)) := (blk_cell BK405.out 0).trans rfl
               have hcz57_1 : wr.cell? ⟨gb405, 1, none⟩ = some (.int .i64 ((rd_TIns (rd_LIns l0_3 (ji12)) (ji16)).f1)) := (blk_cell BK405.out 1).trans rfl
               have hcz57_2 : wr.cell? ⟨gb405, 2, none⟩ = some (.int .i64 ((rd_TIns (rd_LIns l0_3 (ji12)) (ji16)).f2)) := (blk_cell BK405.out 2).trans rfl
               have hcz57_3 : wr.cell? ⟨gb405, 3, none⟩ = some (.int .i64 ((rd_TIns (rd_LIns l0_3 (ji12)) (ji16)).f3)) := (blk_cell BK405.out 3).trans rfl
               have hcz57_4 : wr.cell? ⟨gb405, 4, none⟩ = some (.string ((rd_TIns (rd_LIns l0_3 (ji12)) (ji16)).f4)) := (blk_cell BK405.out 4).trans rfl
               have hcz57_5 : wr.cell? ⟨gb405, 5, none⟩ = some (.slice A404_5 ((rd_TIns (rd_LIns l0_3 ji12) ji16).f5).length c404_5) := (blk_cell BK405.out 5).trans rfl
               have hfz57_0 := blk_frozen BK405.out 0
               have hfz57_1 := blk_frozen BK405.out 1
               have hfz57_2 := blk_frozen BK405.out 2
               have hfz57_3 := blk_frozen BK405.out 3
               have hfz57_4 := blk_frozen BK405.out 4
               have hfz57_5 := blk_frozen BK405.out 5
               go_wp2_with (first | ((with_reducible refine gate_callee (f := 25) rfl ?_); refine goesL_ (some 65) rfl rfl Tryd.func25 (by kernel_rfl) rfl #[.agg #[.int .i64 ((rd_TIns (rd_LIns l0_3 (ji12)) (ji16)).f0), .int .i64 ((rd_TIns (rd_LIns l0_3 (ji12)) (ji16)).f1), .int .i64 ((rd_TIns (rd_LIns l0_3 (ji12)) (ji16)).f2), .int .i64 ((rd_TIns (rd_LIns l0_3 (ji12)) (ji16)).f3), .string ((rd_TIns (rd_LIns l0_3 (ji12)) (ji16)).f4), .slice A404_5 ((rd_TIns (rd_LIns l0_3 ji12) ji16).f5).length c404_5]] rfl (by (try simp only [List.map_toArray, List.map_cons, List.map_nil]); first | done | (simp only [hji12, hji16]; rfl) | rfl | (simp only [List.length_drop, List.length_take]; rfl)) ?_; (with_reducible refine (cubbyref07_Uses.calls k1 ((rd_TIns (rd_LIns l0_3 (ji12)) (ji16)).f0) ((rd_TIns (rd_LIns l0_3 (ji12)) (ji16)).f1) ((rd_TIns (rd_LIns l0_3 (ji12)) (ji16)).f2) ((rd_TIns (rd_LIns l0_3 (ji12)) (ji16)).f3) ((rd_TIns (rd_LIns l0_3 (ji12)) (ji16)).f4) _ _ ((rd_TIns (rd_LIns l0_3 (ji12)) (ji16)).f5) t416 _ ?side1 ?side2 A40.out).mono ?_); (case side1 => exact qCB HR404_5.out); (case side2 => exact HC404_5.out); rintro e w58 ⟨v417, rfl, ho0, hb⟩; refine ⟨_, rfl, ?_⟩; have HO418 := Aside0.mk (Kd.R_lower (Kd.R_new' (Kd.R_new' ho0 (Kd.R_lt (qR HO_10.out))) (Kd.R_lt (qR HO_11.out))) (below_size qB)); replace HO_10 := Aside0.mk (Kd.R_elder' (qR HO_10.out) (Kd.R_base ho0) hb); replace HO_11 := Aside0.mk (Kd.R_elder' (qR HO_11.out) (Kd.R_base ho0) hb); replace BK399 := qW BK399 hb; replace BK405 := qW BK405 hb; replace HB := qH hb; (try clear hb); (try clear ho0); obtain ⟨Ao59, co59, eo59⟩ := Kd.R_slice HO418.out; subst eo59) | ((with_reducible refine gate_callee (f := 24) rfl ?_); refine goesL_ (some 67) rfl rfl Tryd.func24 (by kernel_rfl) rfl #[.slice Ao59 t416.length co59, .int .i64 x12_1] rfl qL ?_; (with_reducible refine (cubbylaw11_has.calls k1 _ _ t416 x12_1 false _ ?side1 ?side2 A41.out).mono ?_); (case side1 => repeat (first | exact (Kd.R_reads' HO418.out).2.2 | (with_reducible refine Kd.C_alloc ?_ _) | (with_reducible refine Kd.C_drewN ?_ _) | (with_reducible refine Kd.C_drew ?_))); (case side2 => exact (Kd.R_reads' HO418.out).2.1); rintro e w' ⟨rfl, ⟨nd, rfl⟩⟩; refine ⟨_, rfl, ?_⟩; obtain ⟨Ao60, co60, eo60⟩ := Kd.R_slice HO_11.out; subst eo60) | (go_at_call 24; (with_reducible refine (cubbylaw11_has.calls k1 _ _ t409 x12_1 true _ ?side1 ?side2 A50.out).mono ?_); (case side1 => repeat (first | exact (Kd.R_reads' HO_11.out).2.2 | (with_reducible refine Kd.C_alloc ?_ _) | (with_reducible refine Kd.C_drewN ?_ _) | (with_reducible refine Kd.C_drew ?_))); (case side2 => exact (Kd.R_reads' HO_11.out).2.1); (try clear A50); rintro e w' ⟨rfl, ⟨nd, rfl⟩⟩; have hcz61_0 : w58.cell? ⟨gb405, 0, none⟩ = some (.int .i64 ((rd_TIns (rd_LIns l0_3 (ji12)) (ji16)).f0)) := (blk_cell BK405.out 0).trans rfl; have hcz61_1 : w58.cell? ⟨gb405, 1, none⟩ = some (.int .i64 ((rd_TIns (rd_LIns l0_3 (ji12)) (ji16)).f1)) := (blk_cell BK405.out 1).trans rfl; have hcz61_2 : w58.cell? ⟨gb405, 2, none⟩ = some (.int .i64 ((rd_TIns (rd_LIns l0_3 (ji12)) (ji16)).f2)) := (blk_cell BK405.out 2).trans rfl; have hcz61_3 : w58.cell? ⟨gb405, 3, none⟩ = some (.int .i64 ((rd_TIns (rd_LIns l0_3 (ji12)) (ji16)).f3)) := (blk_cell BK405.out 3).trans rfl; have hcz61_4 : w58.cell? ⟨gb405, 4, none⟩ = some (.string ((rd_TIns (rd_LIns l0_3 (ji12)) (ji16)).f4)) := (blk_cell BK405.out 4).trans rfl; have hcz61_5 : w58.cell? ⟨gb405, 5, none⟩ = some (.slice A404_5 ((rd_TIns (rd_LIns l0_3 ji12) ji16).f5).length c404_5) := (blk_cell BK405.out 5).trans rfl; have hfz61_0 := blk_frozen BK405.out 0; have hfz61_1 := blk_frozen BK405.out 1; have hfz61_2 := blk_frozen BK405.out 2; have hfz61_3 := blk_frozen BK405.out 3; have hfz61_4 := blk_frozen BK405.out 4; have hfz61_5 := blk_frozen BK405.out 5) | (go_at_call 26; (with_reducible refine (cubbyref07_Def.calls ((rd_TIns (rd_LIns l0_3 (ji12)) (ji16)).f0) ((rd_TIns (rd_LIns l0_3 (ji12)) (ji16)).f1) ((rd_TIns (rd_LIns l0_3 (ji12)) (ji16)).f2) ((rd_TIns (rd_LIns l0_3 (ji12)) (ji16)).f3) ((rd_TIns (rd_LIns l0_3 (ji12)) (ji16)).f4) _ _ ((rd_TIns (rd_LIns l0_3 (ji12)) (ji16)).f5) t422 _ ?side1 ?side2 A52.out).mono ?_); (case side1 => repeat (first | exact (Kd.C_below HR404_5.out qB) | (with_reducible refine Kd.C_alloc ?_ _) | (with_reducible refine Kd.C_drewN ?_ _) | (with_reducible refine Kd.C_drew ?_))); (case side2 => exact HC404_5.out); (try clear A52); rintro e w62 ⟨rfl, hb⟩; replace HO_10 := Aside0.mk (Kd.R_below (qR HO_10.out) hb); replace HO_11 := Aside0.mk (Kd.R_below (qR HO_11.out) hb); replace HO418 := Aside0.mk (Kd.R_below (qR HO418.out) hb); replace BK399 := qW BK399 hb; replace BK405 := qW BK405 hb; replace HB := qH hb; (try clear hb)) | ((with_reducible refine gate_callee (f := 24) rfl ?_); refine goesL_ (some 81) rfl rfl Tryd.func24 (by kernel_rfl) rfl #[.slice Ao37 t406.length co37, .int .i64 x12_1] rfl qL ?_; (with_reducible refine (cubbylaw11_has.calls k1 _ _ t406 x12_1 t423 _ ?side1 ?side2 A53.out).mono ?_); (case side1 => repeat (first | exact (Kd.R_reads' HO_10.out).2.2 | (with_reducible refine Kd.C_alloc ?_ _) | (with_reducible refine Kd.C_drewN ?_ _) | (with_reducible refine Kd.C_drew ?_))); (case side2 => exact (Kd.R_reads' HO_10.out).2.1); rintro e w' ⟨rfl, ⟨nd, rfl⟩⟩; refine ⟨_, rfl, ?_⟩))
               go_roundg k1
               case measure => have := HK1.out; omega
               case rel => exact ⟨(wrap64 (x12_1 + 1)), qT, H', ⟨by have := HK1.out; omega⟩, ⟨by (with_reducible repeat (first | apply Kd.R_alloc | apply Kd.R_drewN | apply Kd.R_drew)); exact Kd.R_mono HO_10.out (fun _ hk => hk.1)⟩, ⟨by (with_reducible repeat (first | apply Kd.R_alloc | apply Kd.R_drewN | apply Kd.R_drew)); exact Kd.R_mono HO_11.out (fun _ hk => hk.1)⟩, ⟨qK BK399.out⟩, ⟨qK BK405.out⟩, ⟨qB⟩⟩
             ·replace c51 := Bool.eq_false_iff.mpr c51
              subst c51
              have H1 : ((cubbylaw11_has.f k1 t406 x12_1).bind fun t424 => (if (t424 != false) = true then (some false) else (cubbylaw11_LiveSteps.l0 k1 t406 t409 (wrap64 (x12_1 + 1)) a0_0 a0_1 a0_2 l0_3 ((rd_TIns (rd_LIns l0_3 (ji12)) (ji16)).f0) ((rd_TIns (rd_LIns l0_3 (ji12)) (ji16)).f1) ((rd_TIns (rd_LIns l0_3 (ji12)) (ji16)).f2) ((rd_TIns (rd_LIns l0_3 (ji12)) (ji16)).f3) ((rd_TIns (rd_LIns l0_3 (ji12)) (ji16)).f4) ((rd_TIns (rd_LIns l0_3 (ji12)) (ji16)).f5)))) = some r := by rw [if_neg (show ¬ (false = true) by decide)] at H; exact H
              clear H
              have H := H1
              clear H1
              replace H := qb H; obtain ⟨t424, A63, H⟩ := H
              by_cases c64 : (t424 != false) = true
              ·rw [if_pos c64] at H
               have c64b0 : (t424 != false) = true := c64
               (try (have c64b1 : decide (t424 = false) = false := by simpa using c64))
               (try (have c64b2 : (t424 == false) = false := by simpa using c64))
               (try (have c64b3 : ¬ (t424 = false) := by simpa using c64))
               clear c64
               exact absurd ((Option.some.inj H).trans HRt.out) (by decide)
              ·rw [if_neg c64] at H
               have c64b0 : (t424 != false) = false := by simpa using c64
               (try (have c64b1 : decide (t424 = false) = true := by simpa using c64))
               (try (have c64b2 : (t424 == false) = true := by simpa using c64))
               clear c64
               have H' := Aside0.mk H
               clear H
               have hnb65 := NB399_405.out
               have hnc65 := NB405_399.out
               obtain ⟨hcz66_0, hcz66_1, hcz66_2, hcz66_3, hfz66_0, hfz66_1, hfz66_2, hfz66_3⟩ := bk4 BK399.out
               have hcz67_0 : wr.cell? ⟨gb405, 0, none⟩ = some (.int .i64 ((rd_TIns (rd_LIns l0_3 (ji12)) (ji16)).f0)) := (blk_cell BK405.out 0).trans rfl
               have hcz67_1 : wr.cell? ⟨gb405, 1, none⟩ = some (.int .i64 ((rd_TIns (rd_LIns l0_3 (ji12)) (ji16)).f1)) := (blk_cell BK405.out 1).trans rfl
               have hcz67_2 : wr.cell? ⟨gb405, 2, none⟩ = some (.int .i64 ((rd_TIns (rd_LIns l0_3 (ji12)) (ji16)).f2)) := (blk_cell BK405.out 2).trans rfl
               have hcz67_3 : wr.cell? ⟨gb405, 3, none⟩ = some (.int .i64 ((rd_TIns (rd_LIns l0_3 (ji12)) (ji16)).f3)) := (blk_cell BK405.out 3).trans rfl
               have hcz67_4 : wr.cell? ⟨gb405, 4, none⟩ = some (.string ((rd_TIns (rd_LIns l0_3 (ji12)) (ji16)).f4)) := (blk_cell BK405.out 4).trans rfl
               have hcz67_5 : wr.cell? ⟨gb405, 5, none⟩ = some (.slice A404_5 ((rd_TIns (rd_LIns l0_3 ji12) ji16).f5).length c404_5) := (blk_cell BK405.out 5).trans rfl
               have hfz67_0 := blk_frozen BK405.out 0
               have hfz67_1 := blk_frozen BK405.out 1
               have hfz67_2 := blk_frozen BK405.out 2
               have hfz67_3 := blk_frozen BK405.out 3
               have hfz67_4 := blk_frozen BK405.out 4
               have hfz67_5 := blk_frozen BK405.out 5
               go_wp2_with (first | ((with_reducible refine gate_callee (f := 25) rfl ?_); refine goesL_ (some 65) rfl rfl Tryd.func25 (by kernel_rfl) rfl #[.agg #[.int .i64 ((rd_TIns (rd_LIns l0_3 (ji12)) (ji16)).f0), .int .i64 ((rd_TIns (rd_LIns l0_3 (ji12)) (ji16)).f1), .int .i64 ((rd_TIns (rd_LIns l0_3 (ji12)) (ji16)).f2), .int .i64 ((rd_TIns (rd_LIns l0_3 (ji12)) (ji16)).f3), .string ((rd_TIns (rd_LIns l0_3 (ji12)) (ji16)).f4), .slice A404_5 ((rd_TIns (rd_LIns l0_3 ji12) ji16).f5).length c404_5]] rfl (by (try simp only [List.map_toArray, List.map_cons, List.map_nil]); first | done | (simp only [hji12, hji16]; rfl) | rfl | (simp only [List.length_drop, List.length_take]; rfl)) ?_; (with_reducible refine (cubbyref07_Uses.calls k1 ((rd_TIns (rd_LIns l0_3 (ji12)) (ji16)).f0) ((rd_TIns (rd_LIns l0_3 (ji12)) (ji16)).f1) ((rd_TIns (rd_LIns l0_3 (ji12)) (ji16)).f2) ((rd_TIns (rd_LIns l0_3 (ji12)) (ji16)).f3) ((rd_TIns (rd_LIns l0_3 (ji12)) (ji16)).f4) _ _ ((rd_TIns (rd_LIns l0_3 (ji12)) (ji16)).f5) t416 _ ?side1 ?side2 A40.out).mono ?_); (case side1 => exact qCB HR404_5.out); (case side2 => exact HC404_5.out); rintro e w68 ⟨v417, rfl, ho0, hb⟩; refine ⟨_, rfl, ?_⟩; have HO418 := Aside0.mk (Kd.R_lower (Kd.R_new' (Kd.R_new' ho0 (Kd.R_lt (qR HO_10.out))) (Kd.R_lt (qR HO_11.out))) (below_size qB)); replace HO_10 := Aside0.mk (Kd.R_elder' (qR HO_10.out) (Kd.R_base ho0) hb); replace HO_11 := Aside0.mk (Kd.R_elder' (qR HO_11.out) (Kd.R_base ho0) hb); replace BK399 := qW BK399 hb; replace BK405 := qW BK405 hb; replace HB := qH hb; (try clear hb); (try clear ho0); obtain ⟨Ao69, co69, eo69⟩ := Kd.R_slice HO418.out; subst eo69) | ((with_reducible refine gate_callee (f := 24) rfl ?_); refine goesL_ (some 67) rfl rfl Tryd.func24 (by kernel_rfl) rfl #[.slice Ao69 t416.length co69, .int .i64 x12_1] rfl qL ?_; (with_reducible refine (cubbylaw11_has.calls k1 _ _ t416 x12_1 false _ ?side1 ?side2 A41.out).mono ?_); (case side1 => repeat (first | exact (Kd.R_reads' HO418.out).2.2 | (with_reducible refine Kd.C_alloc ?_ _) | (with_reducible refine Kd.C_drewN ?_ _) | (with_reducible refine Kd.C_drew ?_))); (case side2 => exact (Kd.R_reads' HO418.out).2.1); rintro e w' ⟨rfl, ⟨nd, rfl⟩⟩; refine ⟨_, rfl, ?_⟩; obtain ⟨Ao70, co70, eo70⟩ := Kd.R_slice HO_11.out; subst eo70) | (go_at_call 24; (with_reducible refine (cubbylaw11_has.calls k1 _ _ t409 x12_1 false _ ?side1 ?side2 A50.out).mono ?_); (case side1 => repeat (first | exact (Kd.R_reads' HO_11.out).2.2 | (with_reducible refine Kd.C_alloc ?_ _) | (with_reducible refine Kd.C_drewN ?_ _) | (with_reducible refine Kd.C_drew ?_))); (case side2 => exact (Kd.R_reads' HO_11.out).2.1); (try clear A50); rintro e w' ⟨rfl, ⟨nd, rfl⟩⟩) | ((with_reducible refine gate_callee (f := 24) rfl ?_); refine goesL_ (some 81) rfl rfl Tryd.func24 (by kernel_rfl) rfl #[.slice Ao37 t406.length co37, .int .i64 x12_1] rfl qL ?_; (with_reducible refine (cubbylaw11_has.calls k1 _ _ t406 x12_1 t424 _ ?side1 ?side2 A63.out).mono ?_); (case side1 => repeat (first | exact (Kd.R_reads' HO_10.out).2.2 | (with_reducible refine Kd.C_alloc ?_ _) | (with_reducible refine Kd.C_drewN ?_ _) | (with_reducible refine Kd.C_drew ?_))); (case side2 => exact (Kd.R_reads' HO_10.out).2.1); rintro e w' ⟨rfl, ⟨nd, rfl⟩⟩; refine ⟨_, rfl, ?_⟩))
               go_roundg k1
               case measure => have := HK1.out; omega
               case rel => exact ⟨(wrap64 (x12_1 + 1)), qT, H', ⟨by have := HK1.out; omega⟩, ⟨by (with_reducible repeat (first | apply Kd.R_alloc | apply Kd.R_drewN | apply Kd.R_drew)); exact Kd.R_mono HO_10.out (fun _ hk => hk.1)⟩, ⟨by (with_reducible repeat (first | apply Kd.R_alloc | apply Kd.R_drewN | apply Kd.R_drew)); exact Kd.R_mono HO_11.out (fun _ hk => hk.1)⟩, ⟨qK BK399.out⟩, ⟨qK BK405.out⟩, ⟨qB⟩⟩
           ·rw [if_neg c39] at H
            have c39b0 := decide_eq_false c39
            clear c39
            obtain rfl := Option.some.inj H
            have hnb71 := NB399_405.out
            have hnc71 := NB405_399.out
            obtain ⟨hcz72_0, hcz72_1, hcz72_2, hcz72_3, hfz72_0, hfz72_1, hfz72_2, hfz72_3⟩ := bk4 BK399.out
            go_wp2
            go_ret
            exact ⟨by first | rfl | (simp [errW_none, errW_some] <;> rfl) | (simp only [← hji12, ← hji16]; first | rfl | (simp [errW_none, errW_some] <;> rfl)) | (simp [*, errW_none, errW_some] <;> rfl), qB⟩
        ·replace c23 := Bool.eq_false_iff.mpr c23
         subst c23
         have H1 : (some false) = some r := by rw [if_neg (show ¬ (false = true) by decide)] at H; exact H
         clear H
         have H := H1
         clear H1
         exact absurd ((Option.some.inj H).trans HRt.out) (by decide)
       ·rw [if_neg c18] at H
        exact absurd H (by simp)
      ·rw [if_neg c17] at H
       exact absurd H (by simp)
    ·rw [if_neg c14] at H
     exact absurd H (by simp)
   ·rw [if_neg c13] at H
    exact absurd H (by simp)

end Go.Proofs.YtebnnknijbgekaaDoor.Q
namespace Go.Proofs.YtebnnknijbgekaaDoor.RLiveSteps
open Go Go.RowKit Go.Proofs.YtebnnknijbgekaaDoorW.PrintWords Go.Proofs.YtebnnknijbgekaaDoor.Q
set_option linter.unusedVariables false
def GIns (x : SIns) : Prop := (Lit.int .i64 (x.f0)).wf = true ∧ (Lit.int .i64 (x.f1)).wf = true ∧ (Lit.int .i64 (x.f2)).wf = true ∧ (Lit.int .i64 (x.f3)).wf = true ∧ (x.f4).size ≤ 140737488351232 ∧ ((x.f5).length * 8 ≤ 140737488351232 ∧ (x.f5).length ≤ maxLen ∧ ∀ y1 ∈ (x.f5), (Lit.int .i64 (y1)).wf = true)
def LiveSteps.Pure : Prop := ∀ (a0_0 : ByteArray) (a0_1 : Int) (a0_2 : Int) (l0_3 : List (List (SIns))) (a1 : Int) (a2 : Int), (a0_0).size ≤ 140737488351232 → (Lit.int .i64 (a0_1)).wf = true → (Lit.int .i64 (a0_2)).wf = true → ((l0_3).length * 24 ≤ 140737488351232 ∧ (l0_3).length ≤ maxLen ∧ ∀ y1 ∈ (l0_3), ((y1).length * 72 ≤ 140737488351232 ∧ (y1).length ≤ maxLen ∧ ∀ y2 ∈ (y1), GIns (y2))) → (Lit.int .u8 (a1)).wf = true → (Lit.int .u8 (a2)).wf = true → ∃ k, cubbylaw11_LiveSteps.f k a0_0 a0_1 a0_2 l0_3 a1 a2 = some true
end Go.Proofs.YtebnnknijbgekaaDoor.RLiveSteps
namespace Go.Proofs.YtebnnknijbgekaaDoor.RLiveSteps.Pure
open Go Go.RowKit Go.Proofs.YtebnnknijbgekaaDoorW.PrintWords Go.Proofs.YtebnnknijbgekaaDoorW.PrintMore Go.Proofs.YtebnnknijbgekaaDoor.Q Go.Proofs.YtebnnknijbgekaaDoor.Plain Go.Proofs.YtebnnknijbgekaaDoor.PlainIr Go.Proofs.YtebnnknijbgekaaDoor.PlainOne Go.Proofs.YtebnnknijbgekaaDoor.PlainBits Go.Proofs.YtebnnknijbgekaaDoor.PlainFix Go.Proofs.YtebnnknijbgekaaDoor.PlainHeavy Go.Proofs.YtebnnknijbgekaaDoor.PlainCheck Go.Proofs.YtebnnknijbgekaaDoor.PlainLive
set_option linter.unusedVariables false
theorem tmod_pos (a n : Int) (h : 0 ≤ a) (hn : 0 < n) : 0 ≤ Int.tmod a n ∧ Int.tmod a n < n := ⟨Int.tmod_nonneg n h, Int.tmod_lt_of_pos a hn⟩
theorem u8_range {n : Int} (h : (Lit.int .u8 n).wf = true) : 0 ≤ n ∧ n ≤ 255 := by
  have := bounds_u8 h
  omega
theorem LiveSteps : LiveSteps.Pure := by
  intro pn pp rg bs a i hn h1 h2 hbs ha hi
  refine Ev.rounds ?_
  have hF : FairB bs := ⟨by omega, fun b hb => by have := (hbs.2.2 b hb).1; omega, fun b hb y hy => by have := ((hbs.2.2 b hb).2.2 y hy).2.2.2.2.2.1; omega⟩
  have ha := u8_range ha
  have hi := u8_range hi
  obtain ⟨hv, hE, hfalse⟩ := heavy11_ev pn pp rg bs hF
  refine Ev.bind hE ?_
  cases hv
  · obtain ⟨hc, -, -, -⟩ := hfalse rfl
    have F := checkE_zero hc
    have hS := F.shape
    obtain ⟨R, rfl⟩ := regs_nat F
    obtain ⟨z, hz, e1, e2⟩ := both pn pp hF F hc
    have O := ok_blocks F hF
    have hbl := O.len
    have hR := O.le
    have hb0 := hS.2.2.2.2.1
    rw [wrap_id (by omega) (by omega), wrap_id (by omega) (by omega)]
    have t1 := tmod_pos a (bs.length : Int) (by omega) (by omega)
    refine Ev.congr (fun k => by rw [if_neg Bool.false_ne_true, if_neg (by omega), if_pos t1.1, if_pos t1.2]) ?_
    generalize Int.tmod a (bs.length : Int) = b at t1 ⊢
    obtain ⟨b, rfl⟩ : ∃ b' : Nat, b = b' := ⟨b.toNat, by omega⟩
    have hb : b < bs.length := by omega
    have hrow : rd_LIns bs (b : Int) = bs[b] := getD_get hb
    have hgd : bs.getD b [] = bs[b] := getD_get hb
    have hr := O.row _ (List.getElem_mem hb)
    have hne := F.row _ (List.getElem_mem hb)
    have hregs := O.regs _ (List.getElem_mem hb)
    have hargs := O.args _ (List.getElem_mem hb)
    rw [hrow]
    have t2 := tmod_pos i ((bs[b].length : Nat) : Int) (by omega) (by omega)
    refine Ev.congr (fun k => by rw [if_neg (by omega), if_pos t2.1, if_pos t2.2]) ?_
    generalize Int.tmod i ((bs[b].length : Nat) : Int) = n at t2 ⊢
    obtain ⟨n, rfl⟩ : ∃ b' : Nat, n = b' := ⟨n.toNat, by omega⟩
    have hnl : n < bs[b].length := by omega
    have hx := hregs _ (List.getElem_mem hnl)
    have hxa := hargs _ (List.getElem_mem hnl)
    rw [wrap_nat (by omega), rd_ins hnl]
    have l1 := aheadL_ev pn pp hF F hc hz e1 (b := b) (i := n) hb (by rw [hgd]; omega)
    have l2 := aheadL_ev pn pp hF F hc hz e1 (b := b) (i := n + 1) hb (by rw [hgd]; omega)
    have l3 := refaheadL_ev pn pp hF F hc hz e2 (b := b) (i := n) hb (by rw [hgd]; omega)
    have hA : aheadN bs z b n = thrN bs[b][n] (aheadN bs z b (n + 1)) := by
      unfold aheadN
      rw [hgd, drop_cons hnl]
      rfl
    have hlt := aheadN_lt O hz (b := b) (i := n + 1) hb
    rw [hA] at l1 l3
    refine Ev.bind l1 (Ev.bind l2 (Ev.bind l3 (Ev.bind (same_ev11 _ (by have := toL_len R (thrN bs[b][n] (aheadN bs z b (n + 1))); omega)) ?_)))
    generalize aheadN bs z b (n + 1) = m at hlt ⊢
    generalize bs[b][n] = x at hx hxa ⊢
    refine Ev.congr (f := fun k => cubbylaw11_LiveSteps.l0 k (toL R (thrN x m)) (toL R m) ((0 : Nat) : Int) pn pp (R : Int) bs x.f0 x.f1 x.f2 x.f3 x.f4 x.f5) (fun k => by rw [if_pos rfl]; rfl) ?_
    have hl1 := toL_len R (thrN x m)
    have hl2 := toL_len R m
    refine scan (fun k r => cubbylaw11_LiveSteps.l0 k (toL R (thrN x m)) (toL R m) (r : Int) pn pp (R : Int) bs x.f0 x.f1 x.f2 x.f3 x.f4 x.f5) R (fun _ => true) ?_ ?_ 0 (Nat.zero_le _)
    · exact Ev.step (f := fun _ => some true) (fun k => by simp only [cubbylaw11_LiveSteps.l0]; rw [if_neg (by omega)]) (Ev.now _)
    · intro r hr hE
      have k1 := has11_ev (uses x.f0 x.f2 x.f3 x.f5) (r : Int) (uses_short hxa)
      have k2 := has11_ev (toL R (thrN x m)) (r : Int) (by omega)
      have k3 := has11_ev (toL R m) (r : Int) (by omega)
      have hbit := thrN_bit hx hlt r
      have m1 : decide ((r : Int) ∈ toL R (thrN x m)) = (thrN x m).testBit r := by
        rw [Bool.eq_iff_iff, decide_eq_true_iff, mem_toL]
        simp [hr]
      have m2 : decide ((r : Int) ∈ toL R m) = m.testBit r := by
        rw [Bool.eq_iff_iff, decide_eq_true_iff, mem_toL]
        simp [hr]
      rw [m1, hbit] at k2
      rw [m2] at k3
      refine Ev.step (fun k => by simp only [cubbylaw11_LiveSteps.l0]; rw [if_pos (by omega)]) (Ev.bind (refuses_ev x.f0 x.f1 x.f2 x.f3 x.f4 x.f5 hxa) (Ev.bind k1 ?_))
      by_cases c1 : (r : Int) ∈ uses x.f0 x.f2 x.f3 x.f5
      · rw [decide_eq_true c1] at k2 ⊢
        rw [Bool.or_true] at k2
        refine Ev.congr (fun k => by rw [if_pos rfl]) (Ev.bind k2 ?_)
        exact Ev.congr (fun k => by rw [if_neg (by simp), wrap_nat (by omega)]) hE
      · rw [decide_eq_false c1] at k2 ⊢
        rw [Bool.or_false] at k2
        refine Ev.congr (fun k => by rw [if_neg Bool.false_ne_true]) (Ev.bind k3 ?_)
        cases hm : m.testBit r
        · rw [hm, Bool.false_and] at k2
          refine Ev.congr (fun k => by rw [if_neg Bool.false_ne_true]) (Ev.bind k2 ?_)
          exact Ev.congr (fun k => by rw [if_neg (by simp), wrap_nat (by omega)]) hE
        · rw [hm, Bool.true_and] at k2
          refine Ev.congr (fun k => by rw [if_pos rfl, refdef_eq, Option.bind_some]) (Ev.bind k2 ?_)
          refine Ev.congr (fun k => ?_) hE
          rw [if_neg, wrap_nat (by omega)]
          by_cases c2 : (r : Int) = defOf x.f0 x.f1
          · rw [decide_eq_false (fun h => h c2), show (defOf x.f0 x.f1 != (r : Int)) = false by rw [← c2]; simp]
            simp
          · rw [decide_eq_true c2, show (defOf x.f0 x.f1 != (r : Int)) = true by simp; omega]
            simp
  · exact Ev.congr (fun k => by rw [if_pos rfl]) (Ev.bind livenone_ev (Ev.now _))
end Go.Proofs.YtebnnknijbgekaaDoor.RLiveSteps.Pure
namespace Go.Proofs.YtebnnknijbgekaaDoor.RLiveSteps
open Go.ChangeShapes Go.WideShapes Go.ChangeAt
open Go.ChangeMaps (open_string shut_string)
open Go Go.RowKit Go.Proofs.YtebnnknijbgekaaDoorW.PrintWords Go.Proofs.YtebnnknijbgekaaDoorW.PrintLast Go.Proofs.YtebnnknijbgekaaDoorW.PrintMore Go.Proofs.YtebnnknijbgekaaDoor.Q Go.Proofs.YtebnnknijbgekaaDoor.Open
set_option linter.unusedVariables false
theorem own : ownKnob Tryd.prog.godebug = none := by kernel_rfl
theorem laidOut : laidOutB Tryd.prog = true := by kernel_rfl
theorem opensIns : Opens Tryd.prog 31 kIns GIns :=
  (Opens.iso (fun x : SIns => (x.f0, x.f1, x.f2, x.f3, x.f4, x.f5)) (fun y => ⟨y.1, y.2.1, y.2.2.1, y.2.2.2.1, y.2.2.2.2.1, y.2.2.2.2.2⟩) (fun _ => rfl) (Opens.struct Tryd.underlying31 (by kernel_rfl) (OpensFs.cons rfl (Opens.int (Tryd.underlying3) (by kernel_rfl)) (OpensFs.cons rfl (Opens.int (Tryd.underlying3) (by kernel_rfl)) (OpensFs.cons rfl (Opens.int (Tryd.underlying3) (by kernel_rfl)) (OpensFs.cons rfl (Opens.int (Tryd.underlying3) (by kernel_rfl)) (OpensFs.cons rfl (Opens.string (Tryd.underlying9) (by kernel_rfl)) (OpensFs.one rfl (Opens.slice (B := 8) (Tryd.underlying29) (by kernel_rfl) (by kernel_rfl) (Opens.int (Tryd.underlying3) (by kernel_rfl))))))))))).imp (fun _ h => h)
set_option maxRecDepth 100000 in
theorem lifted (os : Os) (started : os.Started) (H : Type) (enc : TypeId × Value → H) :
    ReturnsInHanded {} Tryd.checked os 7 .any (fun w args => (Rows.liveStepsSpec.pre enc Tryd.prog Tryd.f7 [] false w args ∧ laidMetH Tryd.prog Rows.liveStepsRow.laid w) ∧ sizedMet enc Tryd.prog Tryd.f7 (OpenSpec.ofChange Rows.liveStepsSpec) false w args) (Rows.liveStepsSpec.post enc Tryd.prog Tryd.f7 false true false false) := by
  refine returnsInHanded_of_change_and (C := Tryd.checked) (X := fun w _ => laidMetH Tryd.prog Rows.liveStepsRow.laid w) (fun _ _ _ hh h => h.of_heap hh) own started (by kernel_rfl) Tryd.func7
    (ChangeSpec.witness_shaped (enc := enc) (C := Tryd.checked) (os := os) (X := fun w _ => laidMetH Tryd.prog Rows.liveStepsRow.laid w) false (World.laidAll Tryd.prog os Rows.liveStepsRow.laid) #[.agg #[.string ByteArray.empty, .int .i64 0, .int .i64 0, .slice none 0 0], .int .u8 0, .int .u8 0] 8 (World.laidAll_os _ _ _)
      (World.shaped_of_ZipB (by kernel_rfl) (by kernel_rfl)) (by kernel_rfl) (by kernel_rfl) (by kernel_rfl)
      (by rw [MakeChecks.laidMetH_plain _ _ _ (by kernel_rfl)]; exact laidMet_laidAll _ (by kernel_rfl) (by kernel_rfl))) ?_
  intro W base args ds gs before hval0 hW hcnd hsz0 hL0 _
  rw [MakeChecks.laidMetH_plain _ _ _ (by kernel_rfl)] at hL0
  have LAIDF : LaidW W := LaidW.of_reads2 (show Lib.VarReads Tryd.prog W "cubby/ir.shapes" shapesD from Lib.laidMet.reads hL0 (n := "cubby/ir.shapes") (d := Rows.laid_cubby_ir_shapes) (by simp [Rows.liveStepsRow])) (show Lib.VarReads Tryd.prog W "math/bits.deBruijn64tab" tabD from Lib.laidMet.reads hL0 (n := "math/bits.deBruijn64tab") (d := Rows.laid_math_bits_deBruijn64tab) (by simp [Rows.liveStepsRow]))
  have hsz : (DataW.weightsEach Tryd.prog (Tryd.f7.params.toList ++ Rows.liveStepsSpec.plain.varTypes Tryd.prog) (ds ++ gs)).all (· ≤ reachBytes) = true := hsz0
  have hval : ∀ (j : Nat) t v, Tryd.f7.params[j]? = some t → args[j]? = some v → Value.okWide Tryd.prog W .any base t v := hval0
  have hW' := hW
  obtain ⟨p, q, hA0, hV, rfl, hfz, hnd⟩ := hW
  have hA : DataW.TrodAll enc Tryd.prog W 0 (fun _ => true) true Tryd.f7.params.toList args.toList ds p := hA0
  rw [Tryd.params7] at hA hval hsz
  obtain ⟨v0, vs0, d0, ds0, p0, q0, hargs, rfl, rfl, h0, r0⟩ := trodAll_cons hA
  obtain ⟨v1, vs1, d1, ds1, p1, q1, rfl, rfl, rfl, h1, r1⟩ := trodAll_cons r0
  obtain ⟨v2, vs2, d2, ds2, p2, q2, rfl, rfl, rfl, h2, r2⟩ := trodAll_cons r1
  obtain ⟨rfl, rfl, rfl⟩ := trodAll_nil r2
  obtain rfl : args = #[v0, v1, v2] := by cases args; simp_all
  obtain ⟨rfl, rfl⟩ := trodVars_none hV
  have lt0 : ∀ x ∈ p0, x.block < W.heap.size := by obtain ⟨m, hm⟩ := h0; exact DataW.trod_lt m _ _ _ hm
  obtain ⟨cs0, rfl, -⟩ := okWide_struct Tryd.underlying34 (hval 0 34 v0 rfl rfl)
  obtain ⟨⟨a0_0, a0_1, a0_2, l0_3⟩, hk0, gg0⟩ := (Opens.struct Tryd.underlying34 (by kernel_rfl) (OpensFs.cons rfl (Opens.string (Tryd.underlying9) (by kernel_rfl)) (OpensFs.cons rfl (Opens.int (Tryd.underlying3) (by kernel_rfl)) (OpensFs.cons rfl (Opens.int (Tryd.underlying3) (by kernel_rfl)) (OpensFs.one rfl (Opens.slice (B := 24) (Tryd.underlying22) (by kernel_rfl) (by kernel_rfl) (Opens.slice (B := 72) (Tryd.underlying28) (by kernel_rfl) (by kernel_rfl) opensIns)))))) : Opens Tryd.prog 34 (Kd.pair Kd.string (Kd.pair (Kd.int .i64) (Kd.pair (Kd.int .i64) (Kd.slice 28 (Kd.slice 31 kIns))))) (fun y => ((y.1).size ≤ 140737488351232 ∧ ((Lit.int .i64 (y.2.1)).wf = true ∧ ((Lit.int .i64 (y.2.2.1)).wf = true ∧ ((y.2.2.2).length * 24 ≤ 140737488351232 ∧ (y.2.2.2).length ≤ maxLen ∧ ∀ y1 ∈ (y.2.2.2), ((y1).length * 72 ≤ 140737488351232 ∧ (y1).length ≤ maxLen ∧ ∀ y2 ∈ (y1), GIns (y2)))))))).arg h0 hsz (j := 0) rfl rfl
  obtain ⟨g0_0, g0_1, g0_2, g0_3⟩ := gg0
  obtain ⟨_, _, h0_, rfl, ⟨_, _, rfl, rfl, ⟨_, _, rfl, rfl, ⟨A0_3, c0_3, rfl, hc0_3, hr0_3⟩⟩⟩⟩ := hk0
  obtain rfl : cs0 = #[.string a0_0, .int .i64 a0_1, .int .i64 a0_2, .slice A0_3 l0_3.length c0_3] := by
    cases cs0
    simp [Value.cells] at h0_
    simp [h0_]
  have lt1 : ∀ x ∈ p1, x.block < W.heap.size := by obtain ⟨m, hm⟩ := h1; exact DataW.trod_lt m _ _ _ hm
  obtain ⟨a1, rfl, rfl, rfl, w1⟩ := open_int Tryd.underlying5 (hval 1 5 v1 rfl rfl) h1
  have lt2 : ∀ x ∈ p2, x.block < W.heap.size := by obtain ⟨m, hm⟩ := h2; exact DataW.trod_lt m _ _ _ hm
  obtain ⟨a2, rfl, rfl, rfl, w2⟩ := open_int Tryd.underlying5 (hval 2 5 v2 rfl rfl) h2
  clear hA0 hval0 hsz0 hsz
  obtain ⟨k, hf⟩ := Pure.LiveSteps a0_0 a0_1 a0_2 l0_3 a1 a2 g0_0 g0_1 g0_2 g0_3 w1 w2
  refine (Q.cubbylaw11_LiveSteps.calls k a0_0 a0_1 a0_2 A0_3 c0_3 l0_3 a1 a2 true W LAIDF rfl hr0_3 hc0_3 hf).mono ?_
  rintro e W' ⟨rfl, hd⟩
  have bel : Below W.heap.size W W' := hd
  exact ⟨_, rfl, _, _, _, [], _, [], hW', trodAll_mk1 (shut_bool Tryd.underlying4 _), (trodAll_cons_mk (Below.trod laidOut (by kernel_rfl) (of_decide_eq_true (by kernel_rfl)) h0 bel lt0) (trodAll_cons_mk (Below.trod laidOut (by kernel_rfl) (of_decide_eq_true (by kernel_rfl)) h1 bel lt1) (trodAll_cons_mk (Below.trod laidOut (by kernel_rfl) (of_decide_eq_true (by kernel_rfl)) h2 bel lt2) trodAll_mk0))), rfl, bel.frame _, fun h => by cases h⟩
theorem over : Rows.liveStepsRow.holds Tryd.pinned (OpenSpec.ofChange Rows.liveStepsSpec) :=
  OpenClaim.holds_of_wide 7 Tryd.f7 rfl rfl rfl rfl rfl rfl rfl ⟨rfl, rfl, rfl, rfl, rfl⟩ rfl rfl rfl rfl rfl (by kernel_rfl) Tryd.func7 (by kernel_rfl)
    (of_decide_eq_true (by kernel_rfl)) (by unfold Func.isWrapper; first | (rw [if_pos (by decide +kernel)]; kernel_rfl) | (rw [if_neg (by decide +kernel)]; exact ⟨rfl, rfl⟩))
    (fun os started H enc _ => lifted os started H enc)
end Go.Proofs.YtebnnknijbgekaaDoor.RLiveSteps
namespace Go.Proofs.YtebnnknijbgekaaDoor
/-- The row, under a short name, for the claim. -/
theorem liveSteps_holds : Rows.LiveStepsSaid := RLiveSteps.over
/-- The tied card. -/
theorem liveSteps_card : Rows.LiveStepsCardSaid :=
  Claim7.holds_tied_plain_at .later [] [.data, .data, .data, .pinned] true (true, "f478bf7cf80a0a19cd0e3ed25470ae850c7921cd0ccad9bb821bd05bde23d4b3") false liveSteps_holds (fun _ h => by cases h) (by kernel_rfl) (fun _ h => by cases h) liveSteps_row_tie rfl ⟨rfl, rfl⟩ (by kernel_rfl) rfl
    (fun f fn hf hfn => by
      obtain rfl : f = 7 := Option.some.inj ((show Tryd.prog.funcNamed "cubby/cubbylaw11.LiveSteps" = some 7 by kernel_rfl).symm.trans hf) |>.symm
      obtain rfl : fn = Tryd.f7 := (Option.some.inj (Tryd.func7.symm.trans hfn)).symm
      exact ⟨by kernel_rfl, fun j t ht => by
        rw [Tryd.params7] at ht
        have hm : t ∈ [34, 5, 5] := by simpa using Array.mem_of_getElem? ht
        have hall : ([34, 5, 5].all fun u => !Tryd.prog.wantsStandIn u) = true := by kernel_rfl
        exact (show Tryd.prog.wantsStandIn t = false by simpa using List.all_eq_true.1 hall t hm)⟩)
    (by kernel_rfl)
#print axioms liveSteps_card
end Go.Proofs.YtebnnknijbgekaaDoor
