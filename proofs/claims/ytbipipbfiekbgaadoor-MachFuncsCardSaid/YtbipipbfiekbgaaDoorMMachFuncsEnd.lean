/- For every input the law MachFuncs returns true, and its arguments read behind the call as they did: no condition. -/
import Derived.Test.YtbipipbfiekbgaaDoorQ0
import Derived.Test.YtbipipbfiekbgaaDoorSq
import Derived.Test.YtbipipbfiekbgaaDoorLaid
import Derived.Test.YtbipipbfiekbgaaDoorQcubbyref07Check
import Derived.Test.YtbipipbfiekbgaaDoorQcubbyref13Check
import Derived.Test.YtbipipbfiekbgaaDoorQmachCheck
import Derived.Test.YtbipipbfiekbgaaDoorQmachWrites
import Derived.Test.YtbipipbfiekbgaaDoorWWords
import Derived.Test.YtbipipbfiekbgaaDoorWMore
import Derived.OpenShut
import Derived.Test.YtbipipbfiekbgaaDoorQcubbyref07Uses
import Derived.Test.YtbipipbfiekbgaaDoorQirDef
import Derived.Test.YtbipipbfiekbgaaDoorQcubbyref07Def
import Derived.Test.YtbipipbfiekbgaaDoorQirTargets
import Derived.Test.YtbipipbfiekbgaaDoorQcubbyref07Targets
import Derived.Test.YtbipipbfiekbgaaDoorQirLast
import Derived.Test.YtbipipbfiekbgaaDoorQcubbyref07Last
import Derived.Test.YtbipipbfiekbgaaDoorTrim
import Derived.Test.YtbipipbfiekbgaaDoorQirName
import Derived.Test.YtbipipbfiekbgaaDoorQcubbyref07Name
import Derived.Test.YtbipipbfiekbgaaDoorClo
import Derived.Test.YtbipipbfiekbgaaDoorQcubbyref07One
import Derived.Test.YtbipipbfiekbgaaDoorQirone
import Derived.Test.YtbipipbfiekbgaaDoorQirCheck
import Derived.Test.YtbipipbfiekbgaaDoorCloM
import Derived.Test.YtbipipbfiekbgaaDoorQmachone
import Derived.Test.YtbipipbfiekbgaaDoorQcubbyref13one
import Derived.Test.YtbipipbfiekbgaaDoorRows
import Derived.Test.YtbipipbfiekbgaaDoorOpen
import Derived.WalkKit
import Derived.ProofKit
import Derived.ShutString
import Derived.ChangeOld
import Derived.Below
import Derived.SizedLaws
import Derived.Test.YtbipipbfiekbgaaDoorCards
import Derived.Test.YtbipipbfiekbgaaDoorTie
import Derived.LaidMore
import Derived.Lay
import Derived.SevenTiedAt
import Derived.Stop.Joined
import Derived.Lib.LaidU8
/- Lean functions that answer as the Go functions named below do, and the proofs of that. Written by a program out of the translation. -/
namespace Go.Proofs.YtbipipbfiekbgaaDoor.Q
open Go.RowKit Go.Proofs.YtbipipbfiekbgaaDoorW.PrintWords Go.Proofs.YtbipipbfiekbgaaDoorW.PrintLast Go.Proofs.YtbipipbfiekbgaaDoorW.PrintMore
attribute [local go_sem] max2_int min2_int max_two min_two max_three min_three max_four min_four   -- for this text's walks alone
set_option linter.unusedVariables false
set_option linter.unusedSimpArgs false

/-! ### cubbylaw13_MachFuncs: function 5 -/
mutual
def cubbylaw13_MachFuncs.j0 : Nat → Bool → ByteArray → Int → Int → List (List (SIns)) → Option (Bool)
 | 0, _, _, _, _, _ => none
 | k + 1, x22, x311000, x311001, x311002, x311003 => if x22 = true then ((mach_Writes.f 11 0 0 0 (⟨#[]⟩ : ByteArray) ([] : List Int)).bind fun t312 => (if t312 = 0 then ((mach_Writes.f 22 0 0 0 (⟨#[]⟩ : ByteArray) ([] : List Int)).bind fun t313 => (some (t313 == (-1)))) else (some false))) else ((mach_Check.f k x311000 x311001 x311002 1 x311003).bind fun t315 => ((cubbyref13_Check.f k x311000 x311001 x311002 1 x311003).bind fun t316 => (if t315 = t316 then (if x311002 < 6 then (cubbylaw13_MachFuncs.j1 k t315 true x311000 x311001 x311002 x311003) else (cubbylaw13_MachFuncs.j1 k t315 (decide (x311002 > 16)) x311000 x311001 x311002 x311003)) else (some false))))
def cubbylaw13_MachFuncs.j1 : Nat → Int → Bool → ByteArray → Int → Int → List (List (SIns)) → Option (Bool)
 | 0, _, _, _, _, _, _ => none
 | k + 1, x4, x53, x311000, x311001, x311002, x311003 => if x53 = true then (some (x4 == 71)) else (cubbylaw13_MachFuncs.l0 k x4 0 x311000 x311001 x311002 x311003)
def cubbylaw13_MachFuncs.l0 : Nat → Int → Int → ByteArray → Int → Int → List (List (SIns)) → Option (Bool)
 | 0, _, _, _, _, _, _ => none
 | k + 1, x4, x5, x311000, x311001, x311002, x311003 => if x5 < (x311003.length : Int) then (cubbylaw13_MachFuncs.l1 k x4 x5 0 x311000 x311001 x311002 x311003) else (some (x4 == 0))
def cubbylaw13_MachFuncs.l1 : Nat → Int → Int → Int → ByteArray → Int → Int → List (List (SIns)) → Option (Bool)
 | 0, _, _, _, _, _, _, _ => none
 | k + 1, x4, x5, x6, x311000, x311001, x311002, x311003 => if 0 ≤ x5 then (if x5 < (x311003.length : Int) then (if x6 < ((rd_LIns x311003 x5).length : Int) then (if 0 ≤ x6 then (if ((rd_TIns (rd_LIns x311003 x5) x6).f0) = 11 then (some true) else (cubbylaw13_MachFuncs.l1 k x4 x5 (wrap64 (x6 + 1)) x311000 x311001 x311002 x311003)) else (none)) else (cubbylaw13_MachFuncs.l0 k x4 (wrap64 (x5 + 1)) x311000 x311001 x311002 x311003)) else (none)) else (none)
end
def cubbylaw13_MachFuncs.f (k : Nat) (a0_0 : ByteArray) (a0_1 : Int) (a0_2 : Int) (l0_3 : List (List (SIns))) : Option (Bool) := if (a0_0.size : Int) > 256 then (cubbylaw13_MachFuncs.j0 k true a0_0 a0_1 a0_2 l0_3) else (if (l0_3.length : Int) > 50 then (cubbylaw13_MachFuncs.j0 k true a0_0 a0_1 a0_2 l0_3) else ((cubbyref07_Check.f k a0_0 a0_1 a0_2 l0_3).bind fun t311 => (cubbylaw13_MachFuncs.j0 k (t311 != 0) a0_0 a0_1 a0_2 l0_3)))
theorem cubbylaw13_MachFuncs.mono_l : ∀ k, (∀ y0 y1 y2 y3 y4, LeO (cubbylaw13_MachFuncs.j0 k y0 y1 y2 y3 y4) (cubbylaw13_MachFuncs.j0 (k + 1) y0 y1 y2 y3 y4)) ∧ (∀ y0 y1 y2 y3 y4 y5, LeO (cubbylaw13_MachFuncs.j1 k y0 y1 y2 y3 y4 y5) (cubbylaw13_MachFuncs.j1 (k + 1) y0 y1 y2 y3 y4 y5)) ∧ (∀ y0 y1 y2 y3 y4 y5, LeO (cubbylaw13_MachFuncs.l0 k y0 y1 y2 y3 y4 y5) (cubbylaw13_MachFuncs.l0 (k + 1) y0 y1 y2 y3 y4 y5)) ∧ (∀ y0 y1 y2 y3 y4 y5 y6, LeO (cubbylaw13_MachFuncs.l1 k y0 y1 y2 y3 y4 y5 y6) (cubbylaw13_MachFuncs.l1 (k + 1) y0 y1 y2 y3 y4 y5 y6))
 | 0 => ⟨fun _ _ _ _ _ r h => by simp [cubbylaw13_MachFuncs.j0] at h, fun _ _ _ _ _ _ r h => by simp [cubbylaw13_MachFuncs.j1] at h, fun _ _ _ _ _ _ r h => by simp [cubbylaw13_MachFuncs.l0] at h, fun _ _ _ _ _ _ _ r h => by simp [cubbylaw13_MachFuncs.l1] at h⟩
 | k + 1 => by
  obtain ⟨ih0, ih1, ih2, ih3⟩ := cubbylaw13_MachFuncs.mono_l k
  refine ⟨?_, ?_, ?_, ?_⟩ <;> intros <;> (first | unfold cubbylaw13_MachFuncs.j0 | unfold cubbylaw13_MachFuncs.j1 | unfold cubbylaw13_MachFuncs.l0 | unfold cubbylaw13_MachFuncs.l1) <;> repeat' first | (with_reducible exact ih0 _ _ _ _ _) | (with_reducible exact ih1 _ _ _ _ _ _) | (with_reducible exact ih2 _ _ _ _ _ _) | (with_reducible exact ih3 _ _ _ _ _ _ _) | (with_reducible exact cubbyref07_Check.mono _ _ _ _ _) | (with_reducible exact cubbyref13_Check.mono _ _ _ _ _ _) | (with_reducible exact mach_Check.mono _ _ _ _ _ _) | (with_reducible exact LeO.refl _) | (with_reducible exact LeO.none _) | (with_reducible refine LeO.ite ?_ ?_) | (with_reducible refine LeO.bind ?_ (fun _ => ?_)) | exact LeO.none _ | refine LeO.ite ?_ ?_ | refine LeO.bind ?_ (fun _ => ?_)
theorem cubbylaw13_MachFuncs.mono : ∀ a0 a1 a2 a3 k, LeO (cubbylaw13_MachFuncs.f k a0 a1 a2 a3) (cubbylaw13_MachFuncs.f (k + 1) a0 a1 a2 a3) := by
 intro a0 a1 a2 a3 k
 obtain ⟨ih0, ih1, ih2, ih3⟩ := cubbylaw13_MachFuncs.mono_l k
 unfold cubbylaw13_MachFuncs.f
 repeat' first | (with_reducible exact ih0 _ _ _ _ _) | (with_reducible exact ih1 _ _ _ _ _ _) | (with_reducible exact ih2 _ _ _ _ _ _) | (with_reducible exact ih3 _ _ _ _ _ _ _) | (with_reducible exact cubbyref07_Check.mono _ _ _ _ _) | (with_reducible exact cubbyref13_Check.mono _ _ _ _ _ _) | (with_reducible exact mach_Check.mono _ _ _ _ _ _) | (with_reducible exact LeO.refl _) | (with_reducible exact LeO.none _) | (with_reducible refine LeO.ite ?_ ?_) | (with_reducible refine LeO.bind ?_ (fun _ => ?_)) | exact LeO.none _ | refine LeO.ite ?_ ?_ | refine LeO.bind ?_ (fun _ => ?_)
set_option maxHeartbeats 8000000 in
set_option maxRecDepth 100000 in
theorem cubbylaw13_MachFuncs.calls (k : Nat) (a0_0 : ByteArray) (a0_1 : Int) (a0_2 : Int) (A0_3 : Option Addr) (c0_3 : Nat) (l0_3 : List (List (SIns))) (r : Bool) (w : World) (hL : LaidW w) (hr : r = true) (hr0_3 : Kd.C (Kd.slice 31 kIns) w A0_3 l0_3.length l0_3) (hc0_3 : l0_3.length ≤ c0_3) (h : cubbylaw13_MachFuncs.f k a0_0 a0_1 a0_2 l0_3 = some r) :
  Calls Tryd.prog 5 #[.agg #[.string a0_0, .int .i64 a0_1, .int .i64 a0_2, .slice A0_3 l0_3.length c0_3]] w fun e w' => e = .returned (.bool r) ∧ Below w.heap.size w w' := by
 have hu34 := Tryd.underlying34
 have hu31 := Tryd.underlying31
 have hu24 := Tryd.underlying24
 have HR0_3 := Aside0.mk hr0_3
 have HC0_3 := Aside0.mk hc0_3
 clear hr0_3 hc0_3
 have HB := Aside0.mk (Below.refl w.heap.size w)
 have HLd := Aside0.mk hL
 clear hL
 have HRt := Aside0.mk hr
 clear hr
 have H := h; clear h; unfold cubbylaw13_MachFuncs.f at H
 have HC2 := Aside0.mk H
 clear H
 go_enter Tryd.func5, Tryd.ntmps5
 go_upto_region 1 with (first | ((with_reducible refine gate_dst (N := 1) rfl ?_); (try (refine gate_guard (by rfl) ?_; dsimp only)); refine box_event (by rfl) (N := 1) (by rfl) (cs := #[.string a0_0, .int .i64 a0_1, .int .i64 a0_2, .slice A0_3 l0_3.length c0_3]) (t := 34) ?hr ?_; (case hr => first | (go_simp; done) | (go_simp; rfl)); intro gb310 hg w3 hbox hb; have BK310 := Aside0.mk (hbox); have GW310 := qG hg; have GE310 := GW310; replace HB := qH hb; clear hb hbox hg))
 (try simp only [Act.put, List.setIfInBounds_toArray, List.set_cons_zero, List.set_cons_succ])
 go_cut [22] (fun v22 wc => ∃ (kq : Nat) (x22_1 : Bool), v22 = .bool x22_1 ∧ Aside0 (cubbylaw13_MachFuncs.j0 kq x22_1 a0_0 a0_1 a0_2 l0_3 = some r) ∧ Aside0 (kq ≤ k) ∧ Aside0 (wc.heap[gb310]? = some (.cells #[.string a0_0, .int .i64 a0_1, .int .i64 a0_2, (.slice A0_3 l0_3.length c0_3)] 34 (0, 0))) ∧ Aside0 (Below w.heap.size w wc))
 case first =>
  have H := HC2.out
  clear HC2
  by_cases c4 : (a0_0.size : Int) > 256
  ·rw [if_pos c4] at H
   have c4b0 : decide (256 < (a0_0.size : Int)) = true := decide_eq_true c4
   have c4b1 : decide (256 < a0_0.size) = true := decide_eq_true (by omega)
   clear c4
   (first | rw [c4b0] | (simp only [i64_w, i32_w]; rw [c4b0]) | skip)
   have H' := Aside0.mk H
   clear H
   have z5_0 := bk4 BK310.out
   go_wp2
   go_meet
   case rel => exact ⟨_, (true), qT, H', ⟨qO⟩, ⟨qK BK310.out⟩, ⟨qB⟩⟩
  ·rw [if_neg c4] at H
   have c4b0 : decide (256 < (a0_0.size : Int)) = false := decide_eq_false c4
   have c4b1 : decide (256 < a0_0.size) = false := decide_eq_false (by omega)
   clear c4
   (first | rw [c4b0] | (simp only [i64_w, i32_w]; rw [c4b0]) | skip)
   by_cases c6 : (l0_3.length : Int) > 50
   ·rw [if_pos c6] at H
    have c6b0 : decide (50 < (l0_3.length : Int)) = true := decide_eq_true c6
    have c6b1 : decide (50 < l0_3.length) = true := decide_eq_true (by omega)
    clear c6
    have H' := Aside0.mk H
    clear H
    have z7_0 := bk4 BK310.out
    go_wp2
    go_meet
    case rel => exact ⟨_, (true), qT, H', ⟨qO⟩, ⟨qK BK310.out⟩, ⟨qB⟩⟩
   ·rw [if_neg c6] at H
    have c6b0 : decide (50 < (l0_3.length : Int)) = false := decide_eq_false c6
    have c6b1 : decide (50 < l0_3.length) = false := decide_eq_false (by omega)
    clear c6
    replace H := qb H; obtain ⟨t311, A8, H⟩ := H
    have H' := Aside0.mk H
    clear H
    have z9_0 := bk4 BK310.out
    go_wp2_with (first | (go_at_call 12; (with_reducible refine (cubbyref07_Check.calls k a0_0 a0_1 a0_2 _ _ l0_3 t311 _ ?side1 ?side2 A8.out).mono ?_); (case side1 => exact qCB HR0_3.out); (case side2 => exact HC0_3.out); (try clear A8); rintro e w10 ⟨rfl, hb⟩; replace BK310 := qW BK310 hb; replace HB := qH hb; (try clear hb)))
    go_meet
    case rel => exact ⟨_, ((t311 != 0)), qT, H', ⟨qO⟩, ⟨qK BK310.out⟩, ⟨qB⟩⟩
 case rest =>
  clear HC2
  try clear p2; try clear c4; try clear c4b0 c4b1; try clear c5; try clear c6; try clear c6b0 c6b1; try clear z5_0; try clear z7_0; try clear z9_0
  obtain ⟨kq, x22_1, rfl, HA, HJ1, BK310, HB⟩ := hcut
  cases kq with
  | zero => exact absurd HA.out (by simp [cubbylaw13_MachFuncs.j0])
  | succ kj1 =>
   have H := HA.out
   clear HA
   simp only [cubbylaw13_MachFuncs.j0] at H
   by_cases c11 : x22_1 = true
   ·subst c11
    have H1 : ((mach_Writes.f 11 0 0 0 (⟨#[]⟩ : ByteArray) ([] : List Int)).bind fun t312 => (if t312 = 0 then ((mach_Writes.f 22 0 0 0 (⟨#[]⟩ : ByteArray) ([] : List Int)).bind fun t313 => (some (t313 == (-1)))) else (some false))) = some r := by rw [if_pos rfl] at H; exact H
    clear H
    have H := H1
    clear H1
    replace H := qb H; obtain ⟨t312, A12, H⟩ := H
    by_cases c13 : t312 = 0
    ·rw [if_pos c13] at H
     obtain ⟨c13b0, c13b1⟩ := qe c13; clear c13
     replace H := qb H; obtain ⟨t313, A14, H⟩ := H
     obtain rfl := Option.some.inj H
     go_wp2_with (first | ((with_reducible refine gate_callee (f := 13) rfl ?_); refine goesL_ (some 24) rfl rfl Tryd.func13 (by kernel_rfl) rfl #[.agg #[.int .i64 11, .int .i64 0, .int .i64 0, .int .i64 0, .string (⟨#[]⟩ : ByteArray), .slice none 0 0]] rfl qL ?_; (refine (mach_Writes.calls 11 0 0 0 (⟨#[]⟩ : ByteArray) _ _ ([] : List Int) t312 _ ?side1 ?side2 A12.out (hL := ?side99)).mono ?_); (case side1 => exact Kd.C_nil _ _); (case side2 => exact Nat.le_refl _); (case side99 => exact LaidW.below HLd.out qB); rintro e w15 ⟨rfl, hb⟩; refine ⟨_, rfl, ?_⟩; replace BK310 := qW BK310 hb; replace HB := qH hb; (try clear hb)) | (go_at_call 13; (refine (mach_Writes.calls 22 0 0 0 (⟨#[]⟩ : ByteArray) _ _ ([] : List Int) t313 _ ?side1 ?side2 A14.out (hL := ?side99)).mono ?_); (case side1 => exact Kd.C_nil _ _); (case side2 => exact Nat.le_refl _); (case side99 => exact LaidW.below HLd.out qB); (try clear A14); rintro e w16 ⟨rfl, hb⟩; replace BK310 := qW BK310 hb; replace HB := qH hb; (try clear hb)))
     go_ret
     exact ⟨qE, qB⟩
    ·rw [if_neg c13] at H
     obtain ⟨c13b0, c13b1⟩ := qn c13
     exact absurd ((Option.some.inj H).trans HRt.out) (by decide)
   ·replace c11 := Bool.eq_false_iff.mpr c11
    subst c11
    have H1 : ((mach_Check.f kj1 a0_0 a0_1 a0_2 1 l0_3).bind fun t315 => ((cubbyref13_Check.f kj1 a0_0 a0_1 a0_2 1 l0_3).bind fun t316 => (if t315 = t316 then (if a0_2 < 6 then (cubbylaw13_MachFuncs.j1 kj1 t315 true a0_0 a0_1 a0_2 l0_3) else (cubbylaw13_MachFuncs.j1 kj1 t315 (decide (a0_2 > 16)) a0_0 a0_1 a0_2 l0_3)) else (some false)))) = some r := by rw [if_neg (show ¬ (false = true) by decide)] at H; exact H
    clear H
    have H := H1
    clear H1
    replace H := qb H; obtain ⟨t315, A17, H⟩ := H
    replace H := qb H; obtain ⟨t316, A18, H⟩ := H
    by_cases c19 : t315 = t316
    ·rw [if_pos c19] at H
     obtain ⟨c19b0, c19b1⟩ := qe c19; clear c19
     have HC20 := Aside0.mk H
     clear H
     have z21_0 := bk4 BK310.out
     go_upto_region 7 with (first | ((with_reducible refine gate_dst (N := 3) rfl ?_); (try (refine gate_guard (by rfl) ?_; dsimp only)); refine box_event (by rfl) (N := 3) (by rfl) (cs := #[.string (⟨#[]⟩ : ByteArray), .int .i64 0, .int .i64 0, .int .i64 0, .slice none 0 0]) (t := 24) ?hr ?_; (case hr => first | (go_simp; done) | (go_simp; rfl)); intro gb314 hg w22 hbox hb; have BK314 := Aside0.mk (hbox); have GW314 := qG hg; have GE314 := GW314; replace HB := qH hb; have NB310_314 := Aside0.mk ((by rw [hg]; exact Nat.ne_of_lt (blk_lt (g := gb310) (o := .cells #[.string a0_0, .int .i64 a0_1, .int .i64 a0_2, .slice A0_3 l0_3.length c0_3] 34 (0, 0)) (qK BK310.out)) : gb310 ≠ gb314)); have NB314_310 := Aside0.mk ((by rw [hg]; exact Nat.ne_of_gt (blk_lt (g := gb310) (o := .cells #[.string a0_0, .int .i64 a0_1, .int .i64 a0_2, .slice A0_3 l0_3.length c0_3] 34 (0, 0)) (qK BK310.out)) : gb314 ≠ gb310)); replace BK310 := qW BK310 hb; clear hb hbox hg; have hnb23 := NB314_310.out; have hnc23 := NB310_314.out; have z24_0 := bk5 BK314.out) | ((with_reducible refine gate_callee (f := 10) rfl ?_); refine goesL_ (some 41) rfl rfl Tryd.func10 (by kernel_rfl) rfl #[.agg #[.string a0_0, .int .i64 a0_1, .int .i64 a0_2, .int .i64 1, .slice A0_3 l0_3.length c0_3]] rfl qL ?_; (with_reducible refine (mach_Check.calls kj1 a0_0 a0_1 a0_2 1 _ _ l0_3 t315 _ ?side1 ?side2 A17.out (hL := ?side99)).mono ?_); (case side1 => exact Kd.C_below HR0_3.out qB); (case side2 => exact HC0_3.out); (case side99 => exact LaidW.below HLd.out qB); rintro e w25 ⟨rfl, hb⟩; refine ⟨_, rfl, ?_⟩; replace BK310 := Aside0.mk (blk_below (g := gb310) (o := .cells #[.string a0_0, .int .i64 a0_1, .int .i64 a0_2, .slice A0_3 l0_3.length c0_3] 34 (0, 0)) (by (with_reducible repeat (first | refine blk_drewN ?_ _ | refine blk_drew ?_ | refine blk_alloc ?_ _)); refine blk_far ?_ NB310_314.out _; (with_reducible repeat (first | refine blk_drewN ?_ _ | refine blk_drew ?_ | refine blk_alloc ?_ _)); refine blk_far ?_ NB310_314.out _; (with_reducible repeat (first | refine blk_drewN ?_ _ | refine blk_drew ?_ | refine blk_alloc ?_ _)); refine blk_far ?_ NB310_314.out _; (with_reducible repeat (first | refine blk_drewN ?_ _ | refine blk_drew ?_ | refine blk_alloc ?_ _)); refine blk_far ?_ NB310_314.out _; (with_reducible repeat (first | refine blk_drewN ?_ _ | refine blk_drew ?_ | refine blk_alloc ?_ _)); refine blk_far ?_ NB310_314.out _; (with_reducible repeat (first | refine blk_drewN ?_ _ | refine blk_drew ?_ | refine blk_alloc ?_ _)); exact BK310.out) hb); replace BK314 := Aside0.mk (blk_below (g := gb314) (o := .cells #[.string a0_0, .int .i64 a0_1, .int .i64 a0_2, .int .i64 1, .slice A0_3 l0_3.length c0_3] 24 (0, 0)) (by (with_reducible repeat (first | refine blk_drewN ?_ _ | refine blk_drew ?_ | refine blk_alloc ?_ _)); refine blk_put (cs := #[.string a0_0, .int .i64 a0_1, .int .i64 a0_2, .int .i64 1, .slice none 0 0]) ?_ 4 _ rfl; (with_reducible repeat (first | refine blk_drewN ?_ _ | refine blk_drew ?_ | refine blk_alloc ?_ _)); refine blk_put (cs := #[.string a0_0, .int .i64 a0_1, .int .i64 a0_2, .int .i64 0, .slice none 0 0]) ?_ 3 _ rfl; (with_reducible repeat (first | refine blk_drewN ?_ _ | refine blk_drew ?_ | refine blk_alloc ?_ _)); refine blk_put (cs := #[.string a0_0, .int .i64 a0_1, .int .i64 0, .int .i64 0, .slice none 0 0]) ?_ 2 _ rfl; (with_reducible repeat (first | refine blk_drewN ?_ _ | refine blk_drew ?_ | refine blk_alloc ?_ _)); refine blk_put (cs := #[.string a0_0, .int .i64 0, .int .i64 0, .int .i64 0, .slice none 0 0]) ?_ 1 _ rfl; (with_reducible repeat (first | refine blk_drewN ?_ _ | refine blk_drew ?_ | refine blk_alloc ?_ _)); refine blk_put (cs := #[.string (⟨#[]⟩ : ByteArray), .int .i64 0, .int .i64 0, .int .i64 0, .slice none 0 0]) ?_ 0 _ rfl; (with_reducible repeat (first | refine blk_drewN ?_ _ | refine blk_drew ?_ | refine blk_alloc ?_ _)); exact BK314.out) hb); replace HB := qH hb; have z26_0 := bk5 BK314.out) | ((with_reducible refine gate_callee (f := 11) rfl ?_); refine goesL_ (some 44) rfl rfl Tryd.func11 (by kernel_rfl) rfl #[.agg #[.string a0_0, .int .i64 a0_1, .int .i64 a0_2, .int .i64 1, .slice A0_3 l0_3.length c0_3]] rfl qL ?_; (with_reducible refine (cubbyref13_Check.calls kj1 a0_0 a0_1 a0_2 1 _ _ l0_3 t316 _ ?side1 ?side2 A18.out).mono ?_); (case side1 => exact qCB HR0_3.out); (case side2 => exact HC0_3.out); rintro e w27 ⟨rfl, hb⟩; refine ⟨_, rfl, ?_⟩; replace BK310 := qW BK310 hb; replace BK314 := qW BK314 hb; replace HB := qH hb; (try clear hb)))
     (try simp only [Act.put, List.setIfInBounds_toArray, List.set_cons_zero, List.set_cons_succ])
     go_cut [53] (fun v53 wc => ∃ (kq : Nat) (x53_19 : Bool), v53 = .bool x53_19 ∧ Aside0 (cubbylaw13_MachFuncs.j1 kq t315 x53_19 a0_0 a0_1 a0_2 l0_3 = some r) ∧ Aside0 (kq ≤ kj1) ∧ Aside0 (wc.heap[gb310]? = some (.cells #[.string a0_0, .int .i64 a0_1, .int .i64 a0_2, (.slice A0_3 l0_3.length c0_3)] 34 (0, 0))) ∧ Aside0 (wc.heap[gb314]? = some (.cells #[.string a0_0, .int .i64 a0_1, .int .i64 a0_2, .int .i64 1, (.slice A0_3 l0_3.length c0_3)] 24 (0, 0))) ∧ Aside0 (Below w.heap.size w wc))
     case first =>
      have H := HC20.out
      clear HC20
      by_cases c28 : a0_2 < 6
      ·rw [if_pos c28] at H
       have c28b0 := decide_eq_true c28
       clear c28
       (first | rw [c28b0] | (simp only [i64_w, i32_w]; rw [c28b0]) | skip)
       have H' := Aside0.mk H
       clear H
       have hnb29 := NB310_314.out
       have hnc29 := NB314_310.out
       have z30_0 := bk4 BK310.out
       go_wp2
       go_meet
       case rel => exact ⟨_, (true), qT, H', ⟨by have := HJ1.out; first | omega | exact Nat.le_refl _⟩, ⟨qK BK310.out⟩, ⟨qK BK314.out⟩, ⟨qB⟩⟩
      ·rw [if_neg c28] at H
       have c28b0 := decide_eq_false c28
       clear c28
       (first | rw [c28b0] | (simp only [i64_w, i32_w]; rw [c28b0]) | skip)
       have H' := Aside0.mk H
       clear H
       have hnb31 := NB310_314.out
       have hnc31 := NB314_310.out
       have z32_0 := bk4 BK310.out
       go_wp2
       go_meet
       case rel => exact ⟨_, (decide (a0_2 > 16)), qT, H', ⟨by have := HJ1.out; first | omega | exact Nat.le_refl _⟩, ⟨qK BK310.out⟩, ⟨qK BK314.out⟩, ⟨qB⟩⟩
     case rest =>
      clear HC20
      try clear c1; try clear c2; try clear p2; try clear c3; try clear c4; try clear c4b0 c4b1; try clear c5; try clear c6; try clear c6b0 c6b1; try clear c10; try clear c11; try clear c13; try clear c13b0 c13b1; try clear c19b0 c19b1; try clear c23; try clear c28; try clear c28b0; try clear c29; try clear c31; try clear z21_0; try clear z24_0; try clear z26_0; try clear z30_0; try clear z32_0; try clear z5_0; try clear z7_0; try clear z9_0
      obtain ⟨kq, x53_19, rfl, HA, HJ19, BK310, BK314, HB⟩ := hcut
      cases kq with
      | zero => exact absurd HA.out (by simp [cubbylaw13_MachFuncs.j1])
      | succ kj19 =>
       have H := HA.out
       clear HA
       simp only [cubbylaw13_MachFuncs.j1] at H
       by_cases c33 : x53_19 = true
       ·subst c33
        have H1 : (some (t315 == 71)) = some r := by rw [if_pos rfl] at H; exact H
        clear H
        have H := H1
        clear H1
        obtain rfl := Option.some.inj H
        go_wp2
        go_ret
        exact ⟨qE, qB⟩
       ·replace c33 := Bool.eq_false_iff.mpr c33
        subst c33
        have H1 : (cubbylaw13_MachFuncs.l0 kj19 t315 0 a0_0 a0_1 a0_2 l0_3) = some r := by rw [if_neg (show ¬ (false = true) by decide)] at H; exact H
        clear H
        have H := H1
        clear H1
        have H' := Aside0.mk H
        clear H
        go_wp2
        go_loopg [5] kj19 (fun kq v5 w' => ∃ (x5_3 : Int), v5 = .int .i64 x5_3 ∧ Aside0 (cubbylaw13_MachFuncs.l0 kq t315 x5_3 a0_0 a0_1 a0_2 l0_3 = some r) ∧ Aside0 (kq ≤ kj19) ∧ Aside0 (w'.heap[gb310]? = some (.cells #[.string a0_0, .int .i64 a0_1, .int .i64 a0_2, (.slice A0_3 l0_3.length c0_3)] 34 (0, 0))) ∧ Aside0 (w'.heap[gb314]? = some (.cells #[.string a0_0, .int .i64 a0_1, .int .i64 a0_2, .int .i64 1, (.slice A0_3 l0_3.length c0_3)] 24 (0, 0))) ∧ Aside0 (Below w.heap.size w w'))
        case atStart => exact ⟨(0), qT, H', ⟨Nat.le_refl _⟩, ⟨qK BK310.out⟩, ⟨qK BK314.out⟩, ⟨qB⟩⟩
        case round =>
         clear H'
         try clear c1; try clear c2; try clear p2; try clear c3; try clear c4; try clear c4b0 c4b1; try clear c5; try clear c6; try clear c6b0 c6b1; try clear c10; try clear c11; try clear c13; try clear c13b0 c13b1; try clear c19b0 c19b1; try clear c23; try clear c28; try clear c28b0; try clear c29; try clear c31; try clear c33; try clear z21_0; try clear z24_0; try clear z26_0; try clear z30_0; try clear z32_0; try clear z5_0; try clear z7_0; try clear z9_0
         obtain ⟨x5_3, rfl, HA, HK3, BK310, BK314, HB⟩ := hrel
         cases gk with
         | zero => exact absurd HA.out (by simp [cubbylaw13_MachFuncs.l0])
         | succ k3 =>
          have H := HA.out
          clear HA
          simp only [cubbylaw13_MachFuncs.l0] at H
          by_cases c34 : x5_3 < (l0_3.length : Int)
          ·rw [if_pos c34] at H
           have c34b0 := decide_eq_true c34
           clear c34
           have H' := Aside0.mk H
           clear H
           have hnb35 := NB310_314.out
           have hnc35 := NB314_310.out
           have z36_0 := bk4 BK310.out
           go_wp2
           go_loopg [6] k3 (fun kq v6 w' => ∃ (x6_4 : Int), v6 = .int .i64 x6_4 ∧ Aside0 (cubbylaw13_MachFuncs.l1 kq t315 x5_3 x6_4 a0_0 a0_1 a0_2 l0_3 = some r) ∧ Aside0 (kq ≤ k3) ∧ Aside0 (w'.heap[gb310]? = some (.cells #[.string a0_0, .int .i64 a0_1, .int .i64 a0_2, (.slice A0_3 l0_3.length c0_3)] 34 (0, 0))) ∧ Aside0 (w'.heap[gb314]? = some (.cells #[.string a0_0, .int .i64 a0_1, .int .i64 a0_2, .int .i64 1, (.slice A0_3 l0_3.length c0_3)] 24 (0, 0))) ∧ Aside0 (Below w.heap.size w w'))
           case atStart => exact ⟨(0), qT, H', ⟨Nat.le_refl _⟩, ⟨qK BK310.out⟩, ⟨qK BK314.out⟩, ⟨qB⟩⟩
           case round =>
            clear H'
            try clear c1; try clear c2; try clear p2; try clear c3; try clear c4; try clear c4b0 c4b1; try clear c5; try clear c6; try clear c6b0 c6b1; try clear c10; try clear c11; try clear c13; try clear c13b0 c13b1; try clear c19b0 c19b1; try clear c23; try clear c28; try clear c28b0; try clear c29; try clear c31; try clear c33; try clear c34b0; try clear c35; try clear z21_0; try clear z24_0; try clear z26_0; try clear z30_0; try clear z32_0; try clear z36_0; try clear z5_0; try clear z7_0; try clear z9_0
            obtain ⟨x6_4, rfl, HA, HK4, BK310, BK314, HB⟩ := hrel
            cases gk with
            | zero => exact absurd HA.out (by simp [cubbylaw13_MachFuncs.l1])
            | succ k4 =>
             have H := HA.out
             clear HA
             simp only [cubbylaw13_MachFuncs.l1] at H
             by_cases c37 : 0 ≤ x5_3
             ·rw [if_pos c37] at H
              have c37b0 := decide_eq_true c37
              clear c37
              by_cases c38 : x5_3 < (l0_3.length : Int)
              ·rw [if_pos c38] at H
               have c38b0 := decide_eq_true c38
               clear c38
               by_cases c39 : x6_4 < ((rd_LIns l0_3 x5_3).length : Int)
               ·rw [if_pos c39] at H
                have c39b0 := decide_eq_true c39
                clear c39
                by_cases c40 : 0 ≤ x6_4
                ·rw [if_pos c40] at H
                 have c40b0 := decide_eq_true c40
                 clear c40
                 by_cases c41 : ((rd_TIns (rd_LIns l0_3 x5_3) x6_4).f0) = 11
                 ·rw [if_pos c41] at H
                  obtain ⟨c41b0, c41b1⟩ := qe c41; clear c41
                  obtain rfl := Option.some.inj H
                  have hnb42 := NB310_314.out
                  have hnc42 := NB314_310.out
                  have z43_0 := bk4 BK310.out
                  have p317 : 0 ≤ (x5_3 : Int) := of_decide_eq_true qA
                  have q317 : x5_3 < (l0_3.length : Int) := of_decide_eq_true qA
                  obtain ⟨ad317, A317_0, c317_0, e317, hx317_0, hl317_0, hi317_0⟩ := at_LIns HR0_3.out x5_3 p317 q317
                  cases e317
                  replace hx317_0 := (HB.out.cell (World.block_lt_of_cell? w _ hx317_0)).trans hx317_0
                  have HR317_0 := Aside0.mk hi317_0
                  have HC317_0 := Aside0.mk hl317_0
                  clear hi317_0 hl317_0
                  replace p317 := eq_true p317
                  replace q317 := eq_true q317
                  have p318 : 0 ≤ (x5_3 : Int) := of_decide_eq_true qA
                  have q318 : x5_3 < (l0_3.length : Int) := of_decide_eq_true qA
                  obtain ⟨ad318, A318_0, c318_0, e318, hx318_0, hl318_0, hi318_0⟩ := at_LIns HR0_3.out x5_3 p318 q318
                  obtain rfl : ad317 = ad318 := (by injection e318)
                  replace hx318_0 := (HB.out.cell (World.block_lt_of_cell? w _ hx318_0)).trans hx318_0
                  have HR318_0 := Aside0.mk hi318_0
                  have HC318_0 := Aside0.mk hl318_0
                  clear hi318_0 hl318_0
                  replace p318 := eq_true p318
                  replace q318 := eq_true q318
                  have ea_ := Option.some.inj (hx317_0.symm.trans hx318_0)
                  injection ea_ with ea_ en_ ec_
                  subst ea_
                  subst ec_
                  clear en_
                  have p319 : 0 ≤ (x6_4 : Int) := of_decide_eq_true qA
                  have q319 : x6_4 < ((rd_LIns l0_3 x5_3).length : Int) := of_decide_eq_true qA
                  obtain ⟨ad319, A319_5, c319_5, e319, hx319_0, hx319_1, hx319_2, hx319_3, hx319_4, hx319_5, hl319_5, hi319_5⟩ := at_TIns HR318_0.out x6_4 p319 q319
                  cases e319
                  replace hx319_0 := (HB.out.cell (World.block_lt_of_cell? w _ hx319_0)).trans hx319_0
                  replace hx319_1 := (HB.out.cell (World.block_lt_of_cell? w _ hx319_1)).trans hx319_1
                  replace hx319_2 := (HB.out.cell (World.block_lt_of_cell? w _ hx319_2)).trans hx319_2
                  replace hx319_3 := (HB.out.cell (World.block_lt_of_cell? w _ hx319_3)).trans hx319_3
                  replace hx319_4 := (HB.out.cell (World.block_lt_of_cell? w _ hx319_4)).trans hx319_4
                  replace hx319_5 := (HB.out.cell (World.block_lt_of_cell? w _ hx319_5)).trans hx319_5
                  have HR319_5 := Aside0.mk hi319_5
                  have HC319_5 := Aside0.mk hl319_5
                  clear hi319_5 hl319_5
                  replace p319 := eq_true p319
                  replace q319 := eq_true q319
                  go_wp2_with (first | ((with_reducible refine gate_dst (N := 7) rfl ?_); (try (refine gate_guard (by rfl) ?_; dsimp only)); refine box_event (by rfl) (N := 7) (by rfl) (cs := #[.int .i64 0, .int .i64 0, .int .i64 0, .int .i64 0, .string (⟨#[]⟩ : ByteArray), .slice none 0 0]) (t := 31) ?hr ?_; (case hr => first | (go_simp; done) | (go_simp; rfl)); intro gb320 hg w44 hbox hb; have BK320 := Aside0.mk (hbox); have GW320 := qG hg; have GE320 := GW320; replace HB := qH hb; have NB310_320 := Aside0.mk ((by rw [hg]; exact Nat.ne_of_lt (blk_lt (g := gb310) (o := .cells #[.string a0_0, .int .i64 a0_1, .int .i64 a0_2, .slice (some ad317) l0_3.length c0_3] 34 (0, 0)) (qK BK310.out)) : gb310 ≠ gb320)); have NB320_310 := Aside0.mk ((by rw [hg]; exact Nat.ne_of_gt (blk_lt (g := gb310) (o := .cells #[.string a0_0, .int .i64 a0_1, .int .i64 a0_2, .slice (some ad317) l0_3.length c0_3] 34 (0, 0)) (qK BK310.out)) : gb320 ≠ gb310)); replace BK310 := qW BK310 hb; have NB314_320 := Aside0.mk ((by rw [hg]; exact Nat.ne_of_lt (blk_lt (g := gb314) (o := .cells #[.string a0_0, .int .i64 a0_1, .int .i64 a0_2, .int .i64 1, .slice (some ad317) l0_3.length c0_3] 24 (0, 0)) (qK BK314.out)) : gb314 ≠ gb320)); have NB320_314 := Aside0.mk ((by rw [hg]; exact Nat.ne_of_gt (blk_lt (g := gb314) (o := .cells #[.string a0_0, .int .i64 a0_1, .int .i64 a0_2, .int .i64 1, .slice (some ad317) l0_3.length c0_3] 24 (0, 0)) (qK BK314.out)) : gb320 ≠ gb314)); replace BK314 := qW BK314 hb; clear hb hbox hg; have hnb45 := NB320_310.out; have hnc45 := NB310_320.out; have hnb46 := NB320_314.out; have hnc46 := NB314_320.out; have z47_0 := bk6 BK320.out))
                  go_ret
                  exact ⟨qE, qB⟩
                 ·rw [if_neg c41] at H
                  obtain ⟨c41b0, c41b1⟩ := qn c41
                  have H' := Aside0.mk H
                  clear H
                  have hnb48 := NB310_314.out
                  have hnc48 := NB314_310.out
                  have z49_0 := bk4 BK310.out
                  have p317 : 0 ≤ (x5_3 : Int) := of_decide_eq_true qA
                  have q317 : x5_3 < (l0_3.length : Int) := of_decide_eq_true qA
                  obtain ⟨ad317, A317_0, c317_0, e317, hx317_0, hl317_0, hi317_0⟩ := at_LIns HR0_3.out x5_3 p317 q317
                  cases e317
                  replace hx317_0 := (HB.out.cell (World.block_lt_of_cell? w _ hx317_0)).trans hx317_0
                  have HR317_0 := Aside0.mk hi317_0
                  have HC317_0 := Aside0.mk hl317_0
                  clear hi317_0 hl317_0
                  replace p317 := eq_true p317
                  replace q317 := eq_true q317
                  have p318 : 0 ≤ (x5_3 : Int) := of_decide_eq_true qA
                  have q318 : x5_3 < (l0_3.length : Int) := of_decide_eq_true qA
                  obtain ⟨ad318, A318_0, c318_0, e318, hx318_0, hl318_0, hi318_0⟩ := at_LIns HR0_3.out x5_3 p318 q318
                  obtain rfl : ad317 = ad318 := (by injection e318)
                  replace hx318_0 := (HB.out.cell (World.block_lt_of_cell? w _ hx318_0)).trans hx318_0
                  have HR318_0 := Aside0.mk hi318_0
                  have HC318_0 := Aside0.mk hl318_0
                  clear hi318_0 hl318_0
                  replace p318 := eq_true p318
                  replace q318 := eq_true q318
                  have ea_ := Option.some.inj (hx317_0.symm.trans hx318_0)
                  injection ea_ with ea_ en_ ec_
                  subst ea_
                  subst ec_
                  clear en_
                  have p319 : 0 ≤ (x6_4 : Int) := of_decide_eq_true qA
                  have q319 : x6_4 < ((rd_LIns l0_3 x5_3).length : Int) := of_decide_eq_true qA
                  obtain ⟨ad319, A319_5, c319_5, e319, hx319_0, hx319_1, hx319_2, hx319_3, hx319_4, hx319_5, hl319_5, hi319_5⟩ := at_TIns HR318_0.out x6_4 p319 q319
                  cases e319
                  replace hx319_0 := (HB.out.cell (World.block_lt_of_cell? w _ hx319_0)).trans hx319_0
                  replace hx319_1 := (HB.out.cell (World.block_lt_of_cell? w _ hx319_1)).trans hx319_1
                  replace hx319_2 := (HB.out.cell (World.block_lt_of_cell? w _ hx319_2)).trans hx319_2
                  replace hx319_3 := (HB.out.cell (World.block_lt_of_cell? w _ hx319_3)).trans hx319_3
                  replace hx319_4 := (HB.out.cell (World.block_lt_of_cell? w _ hx319_4)).trans hx319_4
                  replace hx319_5 := (HB.out.cell (World.block_lt_of_cell? w _ hx319_5)).trans hx319_5
                  have HR319_5 := Aside0.mk hi319_5
                  have HC319_5 := Aside0.mk hl319_5
                  clear hi319_5 hl319_5
                  replace p319 := eq_true p319
                  replace q319 := eq_true q319
                  go_wp2_with (first | ((with_reducible refine gate_dst (N := 7) rfl ?_); (try (refine gate_guard (by rfl) ?_; dsimp only)); refine box_event (by rfl) (N := 7) (by rfl) (cs := #[.int .i64 0, .int .i64 0, .int .i64 0, .int .i64 0, .string (⟨#[]⟩ : ByteArray), .slice none 0 0]) (t := 31) ?hr ?_; (case hr => first | (go_simp; done) | (go_simp; rfl)); intro gb320 hg w50 hbox hb; have BK320 := Aside0.mk (hbox); have GW320 := qG hg; have GE320 := GW320; replace HB := qH hb; have NB310_320 := Aside0.mk ((by rw [hg]; exact Nat.ne_of_lt (blk_lt (g := gb310) (o := .cells #[.string a0_0, .int .i64 a0_1, .int .i64 a0_2, .slice (some ad317) l0_3.length c0_3] 34 (0, 0)) (qK BK310.out)) : gb310 ≠ gb320)); have NB320_310 := Aside0.mk ((by rw [hg]; exact Nat.ne_of_gt (blk_lt (g := gb310) (o := .cells #[.string a0_0, .int .i64 a0_1, .int .i64 a0_2, .slice (some ad317) l0_3.length c0_3] 34 (0, 0)) (qK BK310.out)) : gb320 ≠ gb310)); replace BK310 := qW BK310 hb; have NB314_320 := Aside0.mk ((by rw [hg]; exact Nat.ne_of_lt (blk_lt (g := gb314) (o := .cells #[.string a0_0, .int .i64 a0_1, .int .i64 a0_2, .int .i64 1, .slice (some ad317) l0_3.length c0_3] 24 (0, 0)) (qK BK314.out)) : gb314 ≠ gb320)); have NB320_314 := Aside0.mk ((by rw [hg]; exact Nat.ne_of_gt (blk_lt (g := gb314) (o := .cells #[.string a0_0, .int .i64 a0_1, .int .i64 a0_2, .int .i64 1, .slice (some ad317) l0_3.length c0_3] 24 (0, 0)) (qK BK314.out)) : gb320 ≠ gb314)); replace BK314 := qW BK314 hb; clear hb hbox hg; have hnb51 := NB320_310.out; have hnc51 := NB310_320.out; have hnb52 := NB320_314.out; have hnc52 := NB314_320.out; have z53_0 := bk6 BK320.out))
                  go_roundg k4
                  case measure => have := HJ1.out; have := HJ19.out; have := HK3.out; have := HK4.out; omega
                  case rel => exact ⟨(wrap64 (x6_4 + 1)), qT, H', ⟨by have := HJ1.out; have := HJ19.out; have := HK3.out; have := HK4.out; omega⟩, ⟨by (with_reducible repeat (first | refine blk_drewN ?_ _ | refine blk_drew ?_ | refine blk_alloc ?_ _)); refine blk_far ?_ NB310_320.out _; (with_reducible repeat (first | refine blk_drewN ?_ _ | refine blk_drew ?_ | refine blk_alloc ?_ _)); refine blk_far ?_ NB310_320.out _; (with_reducible repeat (first | refine blk_drewN ?_ _ | refine blk_drew ?_ | refine blk_alloc ?_ _)); refine blk_far ?_ NB310_320.out _; (with_reducible repeat (first | refine blk_drewN ?_ _ | refine blk_drew ?_ | refine blk_alloc ?_ _)); refine blk_far ?_ NB310_320.out _; (with_reducible repeat (first | refine blk_drewN ?_ _ | refine blk_drew ?_ | refine blk_alloc ?_ _)); refine blk_far ?_ NB310_320.out _; (with_reducible repeat (first | refine blk_drewN ?_ _ | refine blk_drew ?_ | refine blk_alloc ?_ _)); refine blk_far ?_ NB310_320.out _; (with_reducible repeat (first | refine blk_drewN ?_ _ | refine blk_drew ?_ | refine blk_alloc ?_ _)); exact BK310.out⟩, ⟨by (with_reducible repeat (first | refine blk_drewN ?_ _ | refine blk_drew ?_ | refine blk_alloc ?_ _)); refine blk_far ?_ NB314_320.out _; (with_reducible repeat (first | refine blk_drewN ?_ _ | refine blk_drew ?_ | refine blk_alloc ?_ _)); refine blk_far ?_ NB314_320.out _; (with_reducible repeat (first | refine blk_drewN ?_ _ | refine blk_drew ?_ | refine blk_alloc ?_ _)); refine blk_far ?_ NB314_320.out _; (with_reducible repeat (first | refine blk_drewN ?_ _ | refine blk_drew ?_ | refine blk_alloc ?_ _)); refine blk_far ?_ NB314_320.out _; (with_reducible repeat (first | refine blk_drewN ?_ _ | refine blk_drew ?_ | refine blk_alloc ?_ _)); refine blk_far ?_ NB314_320.out _; (with_reducible repeat (first | refine blk_drewN ?_ _ | refine blk_drew ?_ | refine blk_alloc ?_ _)); refine blk_far ?_ NB314_320.out _; (with_reducible repeat (first | refine blk_drewN ?_ _ | refine blk_drew ?_ | refine blk_alloc ?_ _)); exact BK314.out⟩, ⟨qB⟩⟩
                ·rw [if_neg c40] at H
                 exact absurd H (by simp)
               ·rw [if_neg c39] at H
                have c39b0 := decide_eq_false c39
                clear c39
                have H' := Aside0.mk H
                clear H
                have hnb54 := NB310_314.out
                have hnc54 := NB314_310.out
                have z55_0 := bk4 BK310.out
                have p317 : 0 ≤ (x5_3 : Int) := of_decide_eq_true qA
                have q317 : x5_3 < (l0_3.length : Int) := of_decide_eq_true qA
                obtain ⟨ad317, A317_0, c317_0, e317, hx317_0, hl317_0, hi317_0⟩ := at_LIns HR0_3.out x5_3 p317 q317
                cases e317
                replace hx317_0 := (HB.out.cell (World.block_lt_of_cell? w _ hx317_0)).trans hx317_0
                have HR317_0 := Aside0.mk hi317_0
                have HC317_0 := Aside0.mk hl317_0
                clear hi317_0 hl317_0
                replace p317 := eq_true p317
                replace q317 := eq_true q317
                go_wp2
                go_roundg k4
                case measure => have := HJ1.out; have := HJ19.out; have := HK3.out; have := HK4.out; omega
                case rel => exact ⟨(wrap64 (x5_3 + 1)), qT, H', ⟨by have := HJ1.out; have := HJ19.out; have := HK3.out; have := HK4.out; omega⟩, ⟨qK BK310.out⟩, ⟨qK BK314.out⟩, ⟨qB⟩⟩
              ·rw [if_neg c38] at H
               exact absurd H (by simp)
             ·rw [if_neg c37] at H
              exact absurd H (by simp)
          ·rw [if_neg c34] at H
           have c34b0 := decide_eq_false c34
           clear c34
           obtain rfl := Option.some.inj H
           have hnb56 := NB310_314.out
           have hnc56 := NB314_310.out
           have z57_0 := bk4 BK310.out
           go_wp2
           go_ret
           exact ⟨qE, qB⟩
    ·rw [if_neg c19] at H
     obtain ⟨c19b0, c19b1⟩ := qn c19
     exact absurd ((Option.some.inj H).trans HRt.out) (by decide)

end Go.Proofs.YtbipipbfiekbgaaDoor.Q
/- The statement about lists and numbers that is left of the law MachFuncs. -/
namespace Go.Proofs.YtbipipbfiekbgaaDoor.RMachFuncs
open Go Go.RowKit Go.Proofs.YtbipipbfiekbgaaDoorW.PrintWords Go.Proofs.YtbipipbfiekbgaaDoor.Q
set_option linter.unusedVariables false
def GIns (x : SIns) : Prop := (Lit.int .i64 (x.f0)).wf = true ∧ (Lit.int .i64 (x.f1)).wf = true ∧ (Lit.int .i64 (x.f2)).wf = true ∧ (Lit.int .i64 (x.f3)).wf = true ∧ (x.f4).size ≤ 140737488351232 ∧ ((x.f5).length * 8 ≤ 140737488351232 ∧ (x.f5).length ≤ maxLen ∧ ∀ y1 ∈ (x.f5), (Lit.int .i64 (y1)).wf = true)
def MachFuncs.Pure : Prop := ∀ (a0_0 : ByteArray) (a0_1 : Int) (a0_2 : Int) (l0_3 : List (List (SIns))), (a0_0).size ≤ 140737488351232 → (Lit.int .i64 (a0_1)).wf = true → (Lit.int .i64 (a0_2)).wf = true → ((l0_3).length * 24 ≤ 140737488351232 ∧ (l0_3).length ≤ maxLen ∧ ∀ y1 ∈ (l0_3), ((y1).length * 72 ≤ 140737488351232 ∧ (y1).length ≤ maxLen ∧ ∀ y2 ∈ (y1), GIns (y2))) → ∃ k, cubbylaw13_MachFuncs.f k a0_0 a0_1 a0_2 l0_3 = some true
end Go.Proofs.YtbipipbfiekbgaaDoor.RMachFuncs
/- Plain facts on numbers, lists and rounds that the pure proofs of this seat use. No program is named here. -/
namespace Go.Proofs.YtbipipbfiekbgaaDoor.Plain
open Go Go.RowKit Go.Proofs.YtbipipbfiekbgaaDoorW.PrintWords Go.Proofs.YtbipipbfiekbgaaDoorW.PrintMore

theorem wrap_nat {j : Nat} (h : j ≤ 4611686018427387904) : wrap64 ((j : Int) + 1) = ((j + 1 : Nat) : Int) := by
  unfold wrap64
  omega
theorem wrap_pred {j : Nat} (h0 : 0 < j) (h : j ≤ 4611686018427387904) : wrap64 ((j : Int) - 1) = ((j - 1 : Nat) : Int) := by
  unfold wrap64
  omega
theorem wrap_id {i : Int} (h0 : -4611686018427387904 ≤ i) (h : i ≤ 4611686018427387904) : wrap64 i = i := by
  unfold wrap64
  omega
theorem rd_nat (l : List Int) (j : Nat) : rd l (j : Int) = l.getD j 0 := rfl
theorem rd_get {l : List Int} {j : Nat} (h : j < l.length) : rd l (j : Int) = l[j] := by
  rw [rd_nat, List.getD_eq_getElem?_getD, List.getElem?_eq_getElem h]
  rfl
theorem rd_int {l : List Int} {i : Int} (h0 : 0 ≤ i) (h : i < l.length) : ∃ hj : i.toNat < l.length, rd l i = l[i.toNat] := by
  have hj : i.toNat < l.length := by omega
  refine ⟨hj, ?_⟩
  show l.getD i.toNat 0 = _
  rw [List.getD_eq_getElem?_getD, List.getElem?_eq_getElem hj]
  rfl
theorem drop_cons {α : Type} {l : List α} {j : Nat} (h : j < l.length) : l.drop j = l[j] :: l.drop (j + 1) := by
  rw [List.drop_eq_getElem_cons h]
theorem i64_range {n : Int} (h : (Lit.int .i64 n).wf = true) : -9223372036854775808 ≤ n ∧ n ≤ 9223372036854775807 := by
  have := bounds_i64 h
  omega
theorem loop_eq (bs : ByteArray) : ∀ (n i : Nat) (r : List UInt8), bs.size - i = n → ByteArray.toList.loop bs i r = r.reverse ++ bs.data.toList.drop i := by
  intro n
  induction n with
  | zero =>
    intro i r h
    unfold ByteArray.toList.loop
    rw [if_neg (by omega), List.drop_eq_nil_of_le (by simp; have : bs.data.size = bs.size := rfl; omega), List.append_nil]
  | succ n ih =>
    intro i r h
    unfold ByteArray.toList.loop
    have hs : bs.data.size = bs.size := rfl
    rw [if_pos (by omega), ih (i + 1) _ (by omega), List.drop_eq_getElem_cons (i := i) (by simp; omega)]
    have : bs.get! i = bs.data.toList[i]'(by simp; omega) := by
      show bs.data[i]! = _
      rw [getElem!_pos bs.data i (by omega)]
      simp
    rw [this]
    simp
/-- A string's bytes as a list, by either road. -/
theorem toList_data (bs : ByteArray) : bs.toList = bs.data.toList := by
  unfold ByteArray.toList
  rw [loop_eq bs _ 0 [] rfl]
  simp
theorem toList_inj {a b : ByteArray} : a.toList = b.toList ↔ a = b := by
  rw [toList_data, toList_data]
  constructor
  · intro h
    cases a
    cases b
    simp at h
    rw [h]
  · rintro rfl
    rfl
end Go.Proofs.YtbipipbfiekbgaaDoor.Plain
/- Loops that run over a list, by what each round does: plain facts on rounds. No program is named here. -/
namespace Go.Proofs.YtbipipbfiekbgaaDoor.Plain
open Go Go.RowKit Go.Proofs.YtbipipbfiekbgaaDoorW.PrintWords Go.Proofs.YtbipipbfiekbgaaDoorW.PrintMore

/-- A loop from the place i on, when it is known at its end, and each round leads it one place back. -/
theorem scan {α : Type} (g : Nat → Nat → Option α) (n : Nat) (R : Nat → α) (hend : Ev (fun k => g k n) (R n)) (hstep : ∀ i, i < n → Ev (fun k => g k (i + 1)) (R (i + 1)) → Ev (fun k => g k i) (R i)) : ∀ i, i ≤ n → Ev (fun k => g k i) (R i) := by
  have h : ∀ d i, i + d = n → Ev (fun k => g k i) (R i) := by
    intro d
    induction d with
    | zero =>
      intro i hi
      obtain rfl : i = n := by omega
      exact hend
    | succ d ih =>
      intro i hi
      exact hstep i (by omega) (ih (i + 1) (by omega))
  intro i hi
  exact h (n - i) i (by omega)
/-- A loop that ends early, with the one answer e, at the first place that is bad; else it goes on behind its end. -/
theorem seek {α : Type} (g : Nat → Nat → Option α) (n : Nat) (bad : Nat → Prop) (e r : α) (hbad : ∀ i, i < n → bad i → Ev (fun k => g k i) e) (hgo : ∀ i, i < n → ¬ bad i → ∀ r', Ev (fun k => g k (i + 1)) r' → Ev (fun k => g k i) r')
    (hr : (∃ i, i < n ∧ bad i) → r = e) (hend : (∀ i, i < n → ¬ bad i) → Ev (fun k => g k n) r) : Ev (fun k => g k 0) r := by
  by_cases h : ∃ i, i < n ∧ bad i
  · obtain rfl := hr h
    obtain ⟨m, hm, hb⟩ := h
    refine scan g m (fun _ => r) (hbad m hm hb) ?_ 0 (Nat.zero_le _)
    intro i hi hE
    by_cases c : bad i
    · exact hbad i (by omega) c
    · exact hgo i (by omega) c _ hE
  · have hn : ∀ i, i < n → ¬ bad i := fun i hi hb => h ⟨i, hi, hb⟩
    refine scan g n (fun _ => r) (hend hn) ?_ 0 (Nat.zero_le _)
    intro i hi hE
    exact hgo i hi (hn i hi) _ hE
end Go.Proofs.YtbipipbfiekbgaaDoor.Plain
/- What the printed functions of layer 7 (what an instruction reads, writes, whether it is a last one, whether two are the same) answer: both texts' come to one plain function. -/
namespace Go.Proofs.YtbipipbfiekbgaaDoor.PlainIr
open Go Go.RowKit Go.Proofs.YtbipipbfiekbgaaDoorW.PrintWords Go.Proofs.YtbipipbfiekbgaaDoorW.PrintMore Go.Proofs.YtbipipbfiekbgaaDoor.Q Go.Proofs.YtbipipbfiekbgaaDoor.Plain
set_option linter.unusedVariables false
set_option linter.unusedSimpArgs false

theorem op_cases {op : Int} (h : 1 ≤ op ∧ op ≤ 14) : op = 1 ∨ op = 2 ∨ op = 3 ∨ op = 4 ∨ op = 5 ∨ op = 6 ∨ op = 7 ∨ op = 8 ∨ op = 9 ∨ op = 10 ∨ op = 11 ∨ op = 12 ∨ op = 13 ∨ op = 14 := by omega
theorem shape_none {op : Int} (h : ¬ (1 ≤ op ∧ op ≤ 14)) : ir_shape.f op = some ⟨#[]⟩ := by
  unfold ir_shape.f
  split
  · have : op = 0 := by omega
    subst this
    rfl
  · rfl
theorem nil_toList : (⟨#[]⟩ : ByteArray).toList = [] := by decide +kernel
/-- What an instruction reads. -/
def uses (op a b : Int) (args : List Int) : List Int :=
  if op = 2 ∨ op = 8 ∨ op = 10 ∨ op = 13 ∨ op = 14 then [a] else if (3 ≤ op ∧ op ≤ 7) ∨ op = 9 then [a, b] else if op = 11 then args else []
/-- What it writes. -/
def defOf (op d : Int) : Int := if (1 ≤ op ∧ op ≤ 8) ∨ op = 11 then d else -1
/-- Is it a block's last one? -/
def lastOp (op : Int) : Bool := decide (12 ≤ op ∧ op ≤ 14)
def targets7 (op d a b : Int) : List Int := if op = 12 then [a] else if op = 13 then [b, d] else []

/-- An op's shape: is each of its three fields a register? -/
structure Sh (op : Int) (s : ByteArray) : Prop where
  ne : ¬ s.toList = []
  size : s.size = 3
  b0 : bt s 0 = 114 ↔ ((1 ≤ op ∧ op ≤ 8) ∨ op = 11)
  b1 : bt s 1 = 114 ↔ ((2 ≤ op ∧ op ≤ 10) ∨ op = 13 ∨ op = 14)
  b2 : bt s 2 = 114 ↔ ((3 ≤ op ∧ op ≤ 7) ∨ op = 9)
  f0 : bt s 0 = 32 ↔ (op = 9 ∨ op = 10 ∨ op = 12 ∨ op = 14)
  f1 : bt s 1 = 32 ↔ op = 11
  f2 : bt s 2 = 32 ↔ (op = 1 ∨ op = 2 ∨ op = 8 ∨ op = 10 ∨ op = 11 ∨ op = 12 ∨ op = 14)
  n0 : ¬ bt s 0 = 110
  n1 : bt s 1 = 110 ↔ op = 1
  n2 : ¬ bt s 2 = 110
theorem shape_some {op : Int} (h : 1 ≤ op ∧ op ≤ 14) : ∃ s, ir_shape.f op = some s ∧ Sh op s := by
  rcases op_cases h with rfl | rfl | rfl | rfl | rfl | rfl | rfl | rfl | rfl | rfl | rfl | rfl | rfl | rfl
  all_goals exact ⟨_, rfl, by decide +kernel, rfl, by decide +kernel, by decide +kernel, by decide +kernel, by decide +kernel, by decide +kernel, by decide +kernel, by decide +kernel, by decide +kernel, by decide +kernel⟩

theorem def_eq (op d a b : Int) (nm : ByteArray) (args : List Int) : ir_Def.f op d a b nm args = some (defOf op d) := by
  unfold ir_Def.f defOf
  by_cases h : 1 ≤ op ∧ op ≤ 14
  · obtain ⟨s, hs, S⟩ := shape_some h
    rw [hs, Option.bind_some, if_neg S.ne, if_pos (by rw [S.size]; decide)]
    by_cases h0 : (1 ≤ op ∧ op ≤ 8) ∨ op = 11
    · rw [if_pos (S.b0.2 h0), if_pos h0]
    · rw [if_neg (fun h => h0 (S.b0.1 h)), if_neg h0]
  · rw [shape_none h, Option.bind_some, if_pos nil_toList, if_neg (by omega)]
theorem refdef_eq (op d a b : Int) (nm : ByteArray) (args : List Int) : cubbyref07_Def.f op d a b nm args = some (defOf op d) := by
  unfold cubbyref07_Def.f defOf
  by_cases h : (1 ≤ op ∧ op ≤ 8) ∨ op = 11
  · rw [if_pos h]
    repeat' split
    all_goals first | rfl | omega
  · rw [if_neg h]
    repeat' split
    all_goals first | rfl | omega
theorem last_eq (op : Int) : ir_Last.f op = some (lastOp op) := by
  unfold ir_Last.f lastOp
  split
  · rw [Option.some.injEq, decide_eq_decide]
    omega
  · rw [decide_eq_false (by omega)]
theorem reflast_eq (op : Int) : cubbyref07_Last.f op = some (lastOp op) := by
  unfold cubbyref07_Last.f lastOp
  split
  · rw [decide_eq_true (by omega)]
  · split
    · rw [decide_eq_true (by omega)]
    · by_cases h : op = 14
      · rw [decide_eq_true (by omega), beq_iff_eq.2 h]
      · rw [decide_eq_false (by omega), beq_eq_false_iff_ne.2 h]
theorem targets_eq (op d a b : Int) (nm : ByteArray) (args : List Int) : ir_Targets.f op d a b nm args = some (targets7 op d a b) := by
  unfold ir_Targets.f targets7
  split
  · rfl
  · split <;> rfl
theorem reftargets_eq (op d a b : Int) (nm : ByteArray) (args : List Int) : cubbyref07_Targets.f op d a b nm args = some (targets7 op d a b) := by
  unfold cubbyref07_Targets.f targets7
  simp only [Option.bind_some]
  split
  · rw [if_pos (by simp)]; rfl
  · split
    · rw [if_pos (by simp)]; rfl
    · rfl

theorem refuses_j1 (k : Nat) (op : Int) (c : Bool) (d a b : Int) (nm : ByteArray) (args : List Int) (ha : args.length ≤ 17592186043904) (hc : c = decide ((3 ≤ op ∧ op ≤ 7) ∨ op = 9)) (h : ¬ (op = 2 ∨ op = 8 ∨ op = 10 ∨ op = 13 ∨ op = 14)) :
    cubbyref07_Uses.j1 (k + 1) [] op c op d a b nm args = some (uses op a b args) := by
  simp only [cubbyref07_Uses.j1, Option.bind_some]
  unfold uses
  rw [if_neg h]
  by_cases h2 : (3 ≤ op ∧ op ≤ 7) ∨ op = 9
  · rw [if_pos (by rw [hc]; exact decide_eq_true h2), if_pos (by simp), if_pos h2]
    rfl
  · rw [if_neg (by rw [hc]; simpa using h2), if_neg h2]
    split
    · rw [if_pos (by simp; omega)]
      rfl
    · rfl
theorem refuses_ev (op d a b : Int) (nm : ByteArray) (args : List Int) (ha : args.length ≤ 17592186043904) : Ev (fun k => cubbyref07_Uses.f k op d a b nm args) (uses op a b args) := by
  refine ⟨2, fun k hk => ?_⟩
  obtain ⟨k, rfl⟩ : ∃ m, k = m + 2 := ⟨k - 2, by omega⟩
  show cubbyref07_Uses.f (k + 2) op d a b nm args = some (uses op a b args)
  unfold cubbyref07_Uses.f
  simp only [Option.bind_some]
  have yes : (op = 2 ∨ op = 8 ∨ op = 10 ∨ op = 13 ∨ op = 14) → cubbyref07_Uses.j0 (k + 2) [] op true op d a b nm args = some (uses op a b args) := fun h => by
    simp only [cubbyref07_Uses.j0, if_true]
    rw [if_pos (by simp)]
    unfold uses
    rw [if_pos h]
    rfl
  by_cases h1 : op = 2
  · rw [if_pos h1, beq_iff_eq.2 h1]
    exact yes (.inl h1)
  rw [if_neg h1]
  by_cases h2 : op = 8
  · rw [if_pos h2, beq_iff_eq.2 h2]
    exact yes (by omega)
  rw [if_neg h2]
  by_cases h3 : op = 10
  · rw [if_pos h3, beq_iff_eq.2 h3]
    exact yes (by omega)
  rw [if_neg h3]
  by_cases h4 : op = 14
  · rw [if_pos h4, beq_iff_eq.2 h4]
    exact yes (by omega)
  rw [if_neg h4]
  by_cases h5 : op = 13
  · rw [beq_iff_eq.2 h5]
    exact yes (by omega)
  rw [beq_eq_false_iff_ne.2 h5]
  simp only [cubbyref07_Uses.j0]
  rw [if_neg (by simp)]
  have g : ∀ c, c = decide ((3 ≤ op ∧ op ≤ 7) ∨ op = 9) → cubbyref07_Uses.j1 (k + 1) [] op c op d a b nm args = some (uses op a b args) := fun c hc => refuses_j1 k op c d a b nm args ha hc (by omega)
  repeat' split
  all_goals
    refine g _ ?_
    first
    | (rename_i h; rw [beq_iff_eq.2 h, decide_eq_true (by omega)])
    | (by_cases h9 : op = 9
       · rw [beq_iff_eq.2 h9, decide_eq_true (by omega)]
       · rw [beq_eq_false_iff_ne.2 h9, decide_eq_false (by omega)])
end Go.Proofs.YtbipipbfiekbgaaDoor.PlainIr
/- What the printed functions of names answer: both texts' come to one plain predicate. -/
namespace Go.Proofs.YtbipipbfiekbgaaDoor.PlainName
open Go Go.RowKit Go.Proofs.YtbipipbfiekbgaaDoorW.PrintWords Go.Proofs.YtbipipbfiekbgaaDoorW.PrintMore Go.Proofs.YtbipipbfiekbgaaDoor.Q Go.Proofs.YtbipipbfiekbgaaDoor.Plain
set_option linter.unusedVariables false
set_option linter.unusedSimpArgs false

/-- A small letter or a digit. -/
def lowD (x : UInt8) : Bool := decide ((97 ≤ x.toNat ∧ x.toNat ≤ 122) ∨ (48 ≤ x.toNat ∧ x.toNat ≤ 57))
/-- A name. -/
def nameOk (s : ByteArray) : Bool := decide (1 ≤ s.size ∧ s.size ≤ 12 ∧ 97 ≤ bt s 0) && s.data.toList.all lowD

theorem cut_has (x : UInt8) : nameCut.data.toList.contains x = lowD x := by
  have h : ∀ n, n < 256 → nameCut.data.toList.contains (UInt8.ofNat n) = lowD (UInt8.ofNat n) := by decide +kernel
  have := h x.toNat x.toNat_lt
  rwa [UInt8.ofNat_toNat] at this
theorem dw_nil {p : UInt8 → Bool} : ∀ {l : List UInt8}, l.dropWhile p = [] ↔ ∀ x, x ∈ l → p x = true
  | [] => by simp
  | a :: t => by
    rw [List.dropWhile_cons]
    by_cases h : p a = true
    · rw [if_pos h, dw_nil (l := t)]
      constructor
      · intro g x hx
        rcases List.mem_cons.1 hx with rfl | hx
        · exact h
        · exact g x hx
      · exact fun g x hx => g x (List.mem_cons_of_mem _ hx)
    · rw [if_neg h]
      constructor
      · intro g
        exact absurd g (by simp)
      · intro g
        exact absurd (g a List.mem_cons_self) h
theorem trim_nil (l cs : List UInt8) : Lib.trimS l cs = [] ↔ l.all (cs.contains ·) = true := by
  unfold Lib.trimS Lib.trimLeftS Lib.trimRightS
  constructor
  · intro h
    rw [dw_nil] at h
    rw [List.all_eq_true]
    intro x hx
    have h2 : x ∈ l.reverse := List.mem_reverse.2 hx
    rw [← List.takeWhile_append_dropWhile (p := fun x => cs.contains x) (l := l.reverse)] at h2
    rcases List.mem_append.1 h2 with h3 | h3
    · exact (List.all_eq_true.1 (List.all_takeWhile (p := fun x => cs.contains x) (l := l.reverse))) x h3
    · exact h x (List.mem_reverse.2 h3)
  · intro h
    have h1 : l.reverse.dropWhile (cs.contains ·) = [] := by
      rw [dw_nil]
      intro x hx
      exact List.all_eq_true.1 h x (List.mem_reverse.1 hx)
    rw [h1]
    rfl
theorem size_list (s : ByteArray) : s.data.toList.length = s.size := by simp
theorem bt_get {s : ByteArray} {j : Nat} (h : j < s.data.toList.length) : bt s (j : Int) = ((s.data.toList[j]).toNat : Int) := by
  have hs := size_list s
  unfold bt
  rw [dif_pos (by omega)]
  rfl
theorem name_eq (s : ByteArray) : ir_Name.f s = some (nameOk s) := by
  have hs := size_list s
  unfold ir_Name.f
  rw [toList_data]
  by_cases h0 : s.data.toList = []
  · have : s.size = 0 := by
      rw [h0] at hs
      exact hs.symm
    rw [if_pos h0]
    unfold nameOk
    rw [decide_eq_false (by omega)]
    rfl
  · have h1 : 0 < s.size := by
      rw [← hs]
      exact List.length_pos_iff.2 h0
    rw [if_neg h0]
    by_cases h2 : (s.size : Int) > 12
    · rw [if_pos h2]
      unfold nameOk
      rw [decide_eq_false (by omega)]
      rfl
    · rw [if_neg h2, if_pos (by omega)]
      by_cases h3 : bt s 0 < 97
      · rw [if_pos h3]
        unfold nameOk
        rw [decide_eq_false (by omega)]
        rfl
      · rw [if_neg h3]
        unfold strings_Trim.f
        rw [if_pos ⟨by omega, rfl⟩]
        simp only [Option.bind_some]
        rw [toList_data]
        unfold nameOk
        rw [decide_eq_true (by omega), Bool.true_and, List.toList_toArray]
        congr 1
        have hc : s.data.toList.all (nameCut.data.toList.contains ·) = s.data.toList.all lowD := by
          congr 1
          funext x
          exact cut_has x
        have ht := trim_nil s.data.toList nameCut.data.toList
        rw [hc] at ht
        by_cases ha : s.data.toList.all lowD = true
        · rw [ha]
          exact beq_iff_eq.2 (ht.2 ha)
        · rw [Bool.not_eq_true _ |>.mp ha]
          exact beq_eq_false_iff_ne.2 fun e => ha (ht.1 e)

/-- What is left to look at, from the place j on. -/
def restOk (s : ByteArray) (j : Nat) : Bool := (s.data.toList.drop j).all lowD && decide (j = 0 → 97 ≤ bt s 0)
theorem refname_loop (s : ByteArray) (hl : s.size ≤ 12) : ∀ (d j : Nat), s.size - j = d → j ≤ s.size → (j = 0 → 0 < s.size) → Ev (fun k => cubbyref07_Name.l0 k s (j : Int)) (restOk s j) := by
  have hs := size_list s
  intro d
  induction d with
  | zero =>
    intro j hd hj h0
    have : restOk s j = true := by
      unfold restOk
      rw [List.drop_eq_nil_of_le (by omega)]
      simp
      omega
    rw [this]
    exact Ev.step (f := fun _ => some true) (fun k => by simp only [cubbyref07_Name.l0]; rw [if_neg (by omega)]) (Ev.now _)
  | succ d ih =>
    intro j hd hj h0
    have hlt : j < s.data.toList.length := by omega
    have hb := bt_get hlt
    have hR : restOk s j = (lowD (s.data.toList[j]) && decide (j = 0 → 97 ≤ bt s 0) && restOk s (j + 1)) := by
      unfold restOk
      rw [drop_cons hlt]
      simp
      cases lowD s.data.toList[j] <;> cases (List.drop (j + 1) s.data.toList).all lowD <;> simp
    have hlow : lowD (s.data.toList[j]) = decide ((97 ≤ bt s (j : Int) ∧ bt s (j : Int) ≤ 122) ∨ (48 ≤ bt s (j : Int) ∧ bt s (j : Int) ≤ 57)) := by
      unfold lowD
      rw [hb]
      apply decide_eq_decide.2
      omega
    have hj0 : j = 0 → bt s (j : Int) = bt s 0 := by
      rintro rfl
      rfl
    rw [hR, hlow]
    have hstep : ∀ k, cubbyref07_Name.l0 (k + 1) s (j : Int) = (if (97 ≤ bt s (j : Int) ∧ bt s (j : Int) ≤ 122) ∨ ((48 ≤ bt s (j : Int) ∧ bt s (j : Int) ≤ 57) ∧ j ≠ 0) then cubbyref07_Name.l0 k s ((j + 1 : Nat) : Int) else some false) := by
      intro k
      simp only [cubbyref07_Name.l0]
      rw [if_pos (by omega : (j : Int) < (s.size : Int)), if_pos (by omega : (0 : Int) ≤ (j : Int)), wrap_nat (by omega)]
      repeat' split
      all_goals first
        | rfl
        | omega
    by_cases c : (97 ≤ bt s (j : Int) ∧ bt s (j : Int) ≤ 122) ∨ ((48 ≤ bt s (j : Int) ∧ bt s (j : Int) ≤ 57) ∧ j ≠ 0)
    · refine Ev.step (fun k => (hstep k).trans (if_pos c)) ?_
      rw [decide_eq_true (by omega), decide_eq_true (by intro h; have := hj0 h; omega), Bool.true_and, Bool.true_and]
      exact ih (j + 1) (by omega) (by omega) (by omega)
    · refine Ev.step (f := fun _ => some false) (fun k => (hstep k).trans (if_neg c)) ?_
      have : (decide ((97 ≤ bt s (j : Int) ∧ bt s (j : Int) ≤ 122) ∨ (48 ≤ bt s (j : Int) ∧ bt s (j : Int) ≤ 57)) && decide (j = 0 → 97 ≤ bt s 0)) = false := by
        by_cases c1 : (97 ≤ bt s (j : Int) ∧ bt s (j : Int) ≤ 122) ∨ (48 ≤ bt s (j : Int) ∧ bt s (j : Int) ≤ 57)
        · rw [decide_eq_false (p := (j = 0 → 97 ≤ bt s 0)) (fun h => by
            have h9 : j = 0 := by omega
            have := hj0 h9
            have := h h9
            omega), Bool.and_false]
        · rw [decide_eq_false c1, Bool.false_and]
      rw [this, Bool.false_and]
      exact Ev.now _
theorem refname_ev (s : ByteArray) : Ev (fun k => cubbyref07_Name.f k s) (nameOk s) := by
  have hyes : (s.size < 1 ∨ 12 < s.size) → Ev (fun k => cubbyref07_Name.j0 k s true) (nameOk s) := fun h => by
    have : nameOk s = false := by
      unfold nameOk
      rw [decide_eq_false (by omega)]
      rfl
    rw [this]
    exact Ev.step (f := fun _ => some false) (fun k => by simp only [cubbyref07_Name.j0, if_true]) (Ev.now _)
  by_cases h1 : (s.size : Int) < 1
  · exact Ev.congr (fun k => by unfold cubbyref07_Name.f; rw [if_pos h1]) (hyes (by omega))
  refine Ev.congr (f := fun k => cubbyref07_Name.j0 k s (decide ((s.size : Int) > 12))) (fun k => by unfold cubbyref07_Name.f; rw [if_neg h1]) ?_
  by_cases h2 : (s.size : Int) > 12
  · rw [decide_eq_true h2]
    exact hyes (by omega)
  · rw [decide_eq_false h2]
    refine Ev.step (f := fun k => cubbyref07_Name.l0 k s ((0 : Nat) : Int)) (fun k => by simp only [cubbyref07_Name.j0]; rw [if_neg (by simp)]; rfl) ?_
    have := refname_loop s (by omega) s.size 0 (by omega) (by omega) (by omega)
    have hR : restOk s 0 = nameOk s := by
      unfold restOk nameOk
      rw [List.drop_zero, Bool.and_comm]
      congr 1
      apply decide_eq_decide.2
      constructor
      · intro h
        exact ⟨by omega, by omega, h rfl⟩
      · intro h _
        exact h.2.2
    rw [← hR]
    exact this
end Go.Proofs.YtbipipbfiekbgaaDoor.PlainName
/- One instruction's error: both texts' come to one plain function. -/
namespace Go.Proofs.YtbipipbfiekbgaaDoor.PlainOne
open Go Go.RowKit Go.Proofs.YtbipipbfiekbgaaDoorW.PrintWords Go.Proofs.YtbipipbfiekbgaaDoorW.PrintMore Go.Proofs.YtbipipbfiekbgaaDoor.Q Go.Proofs.YtbipipbfiekbgaaDoor.Plain Go.Proofs.YtbipipbfiekbgaaDoor.PlainIr Go.Proofs.YtbipipbfiekbgaaDoor.PlainName
set_option linter.unusedVariables false
set_option linter.unusedSimpArgs false

/-- Does it write a register? -/
def hasD (op : Int) : Prop := (1 ≤ op ∧ op ≤ 8) ∨ op = 11
instance (op : Int) : Decidable (hasD op) := by unfold hasD; infer_instance
/-- Is what the op does not have 0, or empty? -/
def bareP (op d a b : Int) (nm : ByteArray) (args : List Int) : Prop :=
  (op = 11 ∨ (nm.toList = ([] : List UInt8) ∧ args.length = 0)) ∧ ((op = 9 ∨ op = 10 ∨ op = 12 ∨ op = 14) → d = 0) ∧ (op = 11 → a = 0) ∧ ((op = 1 ∨ op = 2 ∨ op = 8 ∨ op = 10 ∨ op = 11 ∨ op = 12 ∨ op = 14) → b = 0)
instance (op d a b : Int) (nm : ByteArray) (args : List Int) : Decidable (bareP op d a b nm args) := by unfold bareP; infer_instance
def e5 (op : Int) (args : List Int) : Int := if op = 11 ∧ 4 < args.length then 192 else 0
def e4 (op : Int) (nm : ByteArray) (args : List Int) : Int := if op = 11 ∧ nameOk nm = false then 70 else e5 op args
def e3 (blocks op d a b : Int) (nm : ByteArray) (args : List Int) : Int := if (targets7 op d a b).any (oddReg blocks) = true then 74 else e4 op nm args
def e2 (blocks op d a b : Int) (nm : ByteArray) (args : List Int) : Int := if op = 1 ∧ (a < 0 ∨ 65536 ≤ a) then 81 else e3 blocks op d a b nm args
def e1 (regs blocks op d a b : Int) (nm : ByteArray) (args : List Int) : Int := if (hasD op ∧ oddReg regs d = true) ∨ (uses op a b args).any (oddReg regs) = true then 73 else e2 blocks op d a b nm args
/-- One instruction's error, in a function of so many registers and blocks. -/
def oneE (regs blocks op d a b : Int) (nm : ByteArray) (args : List Int) (last : Bool) : Int := if (1 ≤ op ∧ op ≤ 14) ∧ lastOp op = last ∧ bareP op d a b nm args then e1 regs blocks op d a b nm args else 72

theorem odd_iff (m n : Int) : oddReg m n = true ↔ n < 0 ∨ m ≤ n := by
  unfold oddReg
  exact decide_eq_true_iff
theorem any_odd {m : Int} {l : List Int} : l.any (oddReg m) = true ↔ ∃ i : Nat, i < l.length ∧ oddReg m (rd l (i : Int)) = true := by
  rw [List.any_eq_true]
  constructor
  · rintro ⟨x, hx, h⟩
    obtain ⟨i, hi, rfl⟩ := List.mem_iff_getElem.1 hx
    exact ⟨i, hi, by rw [rd_get hi]; exact h⟩
  · rintro ⟨i, hi, h⟩
    rw [rd_get hi] at h
    exact ⟨_, List.getElem_mem hi, h⟩

/-! ### the reference -/
theorem refwithin_ev (l : List Int) (most : Int) (hl : l.length ≤ 4611686018427387904) : Ev (fun k => cubbyref07_within.f k l most) (!(l.any (oddReg most))) := by
  show Ev (fun k => cubbyref07_within.l0 k l most ((0 : Nat) : Int)) _
  refine seek (fun k i => cubbyref07_within.l0 k l most (i : Int)) l.length (fun i => oddReg most (rd l (i : Int)) = true) false _ ?_ ?_ ?_ ?_
  · intro i hi hb
    rw [odd_iff] at hb
    refine Ev.step (f := fun _ => some false) (fun k => ?_) (Ev.now _)
    simp only [cubbyref07_within.l0]
    rw [if_pos (by omega), if_pos (by omega)]
    split
    · rfl
    · rw [if_pos (by omega)]
  · intro i hi hb r' hE
    rw [odd_iff] at hb
    refine Ev.step (fun k => ?_) hE
    simp only [cubbyref07_within.l0]
    rw [if_pos (by omega), if_pos (by omega), if_neg (by omega), if_neg (by omega), wrap_nat (by omega)]
  · intro h
    rw [any_odd.2 h]
    rfl
  · intro h
    have : l.any (oddReg most) = false := by
      rw [← Bool.not_eq_true, any_odd]
      rintro ⟨i, hi, hb⟩
      exact h i hi hb
    rw [this]
    exact Ev.step (f := fun _ => some true) (fun k => by simp only [cubbyref07_within.l0]; rw [if_neg (by omega)]) (Ev.now _)

theorem refbare_ev (op d a b : Int) (nm : ByteArray) (args : List Int) (h : 1 ≤ op ∧ op ≤ 14) : Ev (fun k => cubbyref07_bare.f k op d a b nm args) (decide (bareP op d a b nm args)) := by
  have h3 : ∀ B, (B = true ↔ op = 10 ∨ op = 12 ∨ op = 14) → (op = 10 ∨ op = 11 ∨ op = 12 ∨ op = 14) → Ev (fun k => cubbyref07_bare.j3 k op B op d a b nm args) (if op = 11 then decide (a = 0 ∧ b = 0) else decide (d = 0 ∧ b = 0)) := by
    intro B hB ho
    refine Ev.step (f := fun _ => some _) (fun k => ?_) (Ev.now _)
    simp only [cubbyref07_bare.j3]
    by_cases c : op = 11
    · rw [if_neg (by rw [hB]; omega), if_pos c, if_pos c]
      by_cases c1 : a = 0
      · rw [if_pos c1]
        simp [c1]
        rfl
      · rw [if_neg c1]
        simp [c1]
    · rw [if_pos (by rw [hB]; omega), if_neg c]
      by_cases c1 : d = 0
      · rw [if_pos c1]
        simp [c1]
        rfl
      · rw [if_neg c1]
        simp [c1]
  have h2 : ∀ B, (B = true ↔ (3 ≤ op ∧ op ≤ 7) ∨ op = 13) → ¬ (op = 1 ∨ op = 2 ∨ op = 8) → Ev (fun k => cubbyref07_bare.j2 k op B op d a b nm args) (if (3 ≤ op ∧ op ≤ 7) ∨ op = 13 then true else if op = 9 then decide (d = 0) else if op = 11 then decide (a = 0 ∧ b = 0) else decide (d = 0 ∧ b = 0)) := by
    intro B hB ho
    by_cases c : (3 ≤ op ∧ op ≤ 7) ∨ op = 13
    · rw [if_pos c]
      exact Ev.step (f := fun _ => some true) (fun k => by simp only [cubbyref07_bare.j2]; rw [if_pos (hB.2 c)]) (Ev.now _)
    · rw [if_neg c]
      by_cases c1 : op = 9
      · rw [if_pos c1]
        exact Ev.step (f := fun _ => some (d == 0)) (fun k => by simp only [cubbyref07_bare.j2]; rw [if_neg (by rw [hB]; exact c), if_pos c1]) (Ev.now _)
      · rw [if_neg c1]
        by_cases c2 : op = 10
        · exact Ev.step (fun k => by simp only [cubbyref07_bare.j2]; rw [if_neg (by rw [hB]; exact c), if_neg c1, if_pos c2]) (h3 (op == 10) (by rw [beq_iff_eq]; omega) (by omega))
        · by_cases c3 : op = 14
          · exact Ev.step (fun k => by simp only [cubbyref07_bare.j2]; rw [if_neg (by rw [hB]; exact c), if_neg c1, if_neg c2, if_pos c3]) (h3 (op == 14) (by rw [beq_iff_eq]; omega) (by omega))
          · exact Ev.step (fun k => by simp only [cubbyref07_bare.j2]; rw [if_neg (by rw [hB]; exact c), if_neg c1, if_neg c2, if_neg c3]) (h3 (op == 12) (by rw [beq_iff_eq]; omega) (by omega))
  have h1 : ∀ B, (B = true ↔ op = 1 ∨ op = 2 ∨ op = 8) → Ev (fun k => cubbyref07_bare.j1 k op B op d a b nm args) (if op = 1 ∨ op = 2 ∨ op = 8 then decide (b = 0) else if (3 ≤ op ∧ op ≤ 7) ∨ op = 13 then true else if op = 9 then decide (d = 0) else if op = 11 then decide (a = 0 ∧ b = 0) else decide (d = 0 ∧ b = 0)) := by
    intro B hB
    by_cases c : op = 1 ∨ op = 2 ∨ op = 8
    · rw [if_pos c]
      exact Ev.step (f := fun _ => some (b == 0)) (fun k => by simp only [cubbyref07_bare.j1]; rw [if_pos (hB.2 c)]) (Ev.now _)
    · rw [if_neg c]
      have hn : ¬ B = true := by rw [hB]; exact c
      by_cases c3 : op = 3
      · exact Ev.step (fun k => by simp only [cubbyref07_bare.j1]; rw [if_neg hn, if_pos c3]) (h2 (op == 3) (by rw [beq_iff_eq]; omega) c)
      by_cases c4 : op = 4
      · exact Ev.step (fun k => by simp only [cubbyref07_bare.j1]; rw [if_neg hn, if_neg c3, if_pos c4]) (h2 (op == 4) (by rw [beq_iff_eq]; omega) c)
      by_cases c5 : op = 5
      · exact Ev.step (fun k => by simp only [cubbyref07_bare.j1]; rw [if_neg hn, if_neg c3, if_neg c4, if_pos c5]) (h2 (op == 5) (by rw [beq_iff_eq]; omega) c)
      by_cases c6 : op = 6
      · exact Ev.step (fun k => by simp only [cubbyref07_bare.j1]; rw [if_neg hn, if_neg c3, if_neg c4, if_neg c5, if_pos c6]) (h2 (op == 6) (by rw [beq_iff_eq]; omega) c)
      by_cases c7 : op = 7
      · exact Ev.step (fun k => by simp only [cubbyref07_bare.j1]; rw [if_neg hn, if_neg c3, if_neg c4, if_neg c5, if_neg c6, if_pos c7]) (h2 (op == 7) (by rw [beq_iff_eq]; omega) c)
      · exact Ev.step (fun k => by simp only [cubbyref07_bare.j1]; rw [if_neg hn, if_neg c3, if_neg c4, if_neg c5, if_neg c6, if_neg c7]) (h2 (op == 13) (by rw [beq_iff_eq]; omega) c)
  have h0 : Ev (fun k => cubbyref07_bare.j0 k false op d a b nm args) (if op = 1 ∨ op = 2 ∨ op = 8 then decide (b = 0) else if (3 ≤ op ∧ op ≤ 7) ∨ op = 13 then true else if op = 9 then decide (d = 0) else if op = 11 then decide (a = 0 ∧ b = 0) else decide (d = 0 ∧ b = 0)) := by
    by_cases c1 : op = 1
    · exact Ev.step (fun k => by simp only [cubbyref07_bare.j0]; rw [if_neg Bool.false_ne_true, if_pos c1]) (h1 (op == 1) (by rw [beq_iff_eq]; omega))
    by_cases c2 : op = 2
    · exact Ev.step (fun k => by simp only [cubbyref07_bare.j0]; rw [if_neg Bool.false_ne_true, if_neg c1, if_pos c2]) (h1 (op == 2) (by rw [beq_iff_eq]; omega))
    · exact Ev.step (fun k => by simp only [cubbyref07_bare.j0]; rw [if_neg Bool.false_ne_true, if_neg c1, if_neg c2]) (h1 (op == 8) (by rw [beq_iff_eq]; omega))
  have hsame : (op = 11 ∨ (nm.toList = ([] : List UInt8) ∧ args.length = 0)) → (if op = 1 ∨ op = 2 ∨ op = 8 then decide (b = 0) else if (3 ≤ op ∧ op ≤ 7) ∨ op = 13 then true else if op = 9 then decide (d = 0) else if op = 11 then decide (a = 0 ∧ b = 0) else decide (d = 0 ∧ b = 0)) = decide (bareP op d a b nm args) := by
    intro hb
    unfold bareP
    repeat' split
    all_goals first
      | (apply decide_eq_decide.2; constructor <;> intro hx <;> first | omega | (refine ⟨hb, ?_, ?_, ?_⟩ <;> omega))
      | (symm; apply decide_eq_true; refine ⟨hb, ?_, ?_, ?_⟩ <;> omega)
  by_cases c : op = 11
  · rw [← hsame (.inl c)]
    exact Ev.congr (fun k => by unfold cubbyref07_bare.f; rw [if_pos c]) h0
  · by_cases c1 : nm.toList = ([] : List UInt8)
    · refine Ev.congr (fun k => by unfold cubbyref07_bare.f; rw [if_neg c, if_pos c1]) ?_
      by_cases c2 : (args.length : Int) > 0
      · rw [decide_eq_true c2, decide_eq_false (by unfold bareP; omega)]
        exact Ev.step (f := fun _ => some false) (fun k => by simp only [cubbyref07_bare.j0]; rw [if_pos trivial]) (Ev.now _)
      · rw [decide_eq_false c2, ← hsame (.inr ⟨c1, by omega⟩)]
        exact h0
    · refine Ev.congr (fun k => by unfold cubbyref07_bare.f; rw [if_neg c, if_neg c1]) ?_
      rw [decide_eq_false (p := bareP op d a b nm args) (by
        unfold bareP
        rintro ⟨h4 | h4, _⟩
        · exact c h4
        · exact c1 h4.1)]
      exact Ev.step (f := fun _ => some false) (fun k => by simp only [cubbyref07_bare.j0]; rw [if_pos trivial]) (Ev.now _)
theorem uses_short {op a b : Int} {args : List Int} (ha : args.length ≤ 17592186043904) : (uses op a b args).length ≤ 4611686018427387904 := by
  unfold uses
  repeat' split
  all_goals first | omega | simp
theorem targets_short (op d a b : Int) : (targets7 op d a b).length ≤ 4611686018427387904 := by
  unfold targets7
  repeat' split
  all_goals simp
theorem defOf_iff {op d : Int} : (defOf op d = -1 ↔ ¬ hasD op ∨ d = -1) ∧ (hasD op → defOf op d = d) := by
  unfold defOf hasD
  constructor
  · split <;> omega
  · intro h
    rw [if_pos h]
section
variable (op d a b : Int) (nm : ByteArray) (args : List Int)
theorem r4 (B : Bool) : Ev (fun k => cubbyref07_One.j4 k B op d a b nm args) (if B = true then 70 else e5 op args) := by
  refine Ev.step (f := fun _ => some _) (fun k => ?_) (Ev.now _)
  simp only [cubbyref07_One.j4]
  unfold e5
  repeat' split
  all_goals first | rfl | omega
theorem r3 (blocks : Int) (B : Bool) : Ev (fun k => cubbyref07_One.j3 k blocks B op d a b nm args) (if B = true then 81 else e3 blocks op d a b nm args) := by
  cases B
  · rw [if_neg Bool.false_ne_true]
    refine Ev.step (fun k => by simp only [cubbyref07_One.j3]; rw [if_neg Bool.false_ne_true, reftargets_eq, Option.bind_some]) (Ev.bind (refwithin_ev (targets7 op d a b) blocks (targets_short op d a b)) ?_)
    unfold e3
    by_cases c : (targets7 op d a b).any (oddReg blocks) = true
    · rw [if_pos c, c]
      exact Ev.congr (f := fun _ => some 74) (fun k => by rw [if_neg (by decide)]) (Ev.now _)
    · rw [if_neg c, (Bool.not_eq_true _).mp c]
      unfold e4
      by_cases c1 : op = 11
      · refine Ev.congr (fun k => by rw [if_pos (by decide), if_pos c1]) (Ev.bind (refname_ev nm) ?_)
        have := r4 op d a b nm args (!nameOk nm)
        cases hn : nameOk nm
        · rw [hn] at this
          rw [if_pos ⟨c1, rfl⟩]
          exact this
        · rw [hn] at this
          rw [if_neg (by simp)]
          exact this
      · rw [if_neg (fun h => c1 h.1)]
        exact Ev.congr (fun k => by rw [if_pos (by decide), if_neg c1]) (r4 op d a b nm args false)
  · exact Ev.step (f := fun _ => some 81) (fun k => by simp only [cubbyref07_One.j3]; rw [if_pos trivial]) (Ev.now _)
theorem r2 (blocks : Int) (B : Bool) : Ev (fun k => cubbyref07_One.j2 k blocks B op d a b nm args) (if B = true then 73 else e2 blocks op d a b nm args) := by
  cases B
  · rw [if_neg Bool.false_ne_true]
    unfold e2
    by_cases c : op = 1
    · by_cases c1 : a < 0
      · rw [if_pos ⟨c, .inl c1⟩]
        exact Ev.step (fun k => by simp only [cubbyref07_One.j2]; rw [if_neg Bool.false_ne_true, if_pos c, if_pos c1]) (r3 op d a b nm args blocks true)
      · refine Ev.step (fun k => by simp only [cubbyref07_One.j2]; rw [if_neg Bool.false_ne_true, if_pos c, if_neg c1]) ?_
        have := r3 op d a b nm args blocks (decide (a ≥ 65536))
        by_cases c2 : a ≥ 65536
        · rw [if_pos ⟨c, .inr c2⟩]
          rw [decide_eq_true c2] at this ⊢
          exact this
        · rw [if_neg (by omega)]
          rw [decide_eq_false c2] at this ⊢
          exact this
    · rw [if_neg (by omega)]
      exact Ev.step (fun k => by simp only [cubbyref07_One.j2]; rw [if_neg Bool.false_ne_true, if_neg c]) (r3 op d a b nm args blocks false)
  · exact Ev.step (f := fun _ => some 73) (fun k => by simp only [cubbyref07_One.j2]; rw [if_pos trivial]) (Ev.now _)
theorem r1 (h : 1 ≤ op ∧ op ≤ 14) (blocks : Int) (B : Bool) : Ev (fun k => cubbyref07_One.j1 k blocks B op d a b nm args) (if B = true ∨ (hasD op ∧ d = -1) then 73 else e2 blocks op d a b nm args) := by
  cases B
  · have hd := (defOf_iff (op := op) (d := d)).1
    by_cases c : defOf op d = -1
    · by_cases c9 : op = 9
      · rw [if_neg (by unfold hasD; rintro (x | x) <;> first | exact absurd x (by decide) | omega)]
        exact Ev.step (fun k => by simp only [cubbyref07_One.j1]; rw [if_neg Bool.false_ne_true, refdef_eq, Option.bind_some, if_pos c, if_pos c9]) (r2 op d a b nm args blocks false)
      · by_cases c10 : op = 10
        · rw [if_neg (by unfold hasD; rintro (x | x) <;> first | exact absurd x (by decide) | omega)]
          exact Ev.step (fun k => by simp only [cubbyref07_One.j1]; rw [if_neg Bool.false_ne_true, refdef_eq, Option.bind_some, if_pos c, if_neg c9, if_pos c10]) (r2 op d a b nm args blocks false)
        · refine Ev.step (fun k => by simp only [cubbyref07_One.j1]; rw [if_neg Bool.false_ne_true, refdef_eq, Option.bind_some, if_pos c, if_neg c9, if_neg c10, reflast_eq, Option.bind_some]) ?_
          have := r2 op d a b nm args blocks (!lastOp op)
          by_cases cl : 12 ≤ op ∧ op ≤ 14
          · rw [if_neg (by unfold hasD; rintro (x | x) <;> first | exact absurd x (by decide) | omega)]
            rw [show lastOp op = true from decide_eq_true cl] at this ⊢
            exact this
          · rw [if_pos (.inr ⟨by unfold hasD; omega, by unfold hasD at hd; omega⟩)]
            rw [show lastOp op = false from decide_eq_false cl] at this ⊢
            exact this
    · rw [if_neg (by
        rintro (x | x)
        · exact absurd x (by decide)
        · exact c (hd.2 (.inr x.2)))]
      exact Ev.step (fun k => by simp only [cubbyref07_One.j1]; rw [if_neg Bool.false_ne_true, refdef_eq, Option.bind_some, if_neg c]) (r2 op d a b nm args blocks false)
  · rw [if_pos (.inl rfl)]
    exact Ev.step (f := fun _ => some 73) (fun k => by simp only [cubbyref07_One.j1]; rw [if_pos trivial]) (Ev.now _)
theorem r0 (h : 1 ≤ op ∧ op ≤ 14) (ha : args.length ≤ 17592186043904) (regs blocks : Int) (B : Bool) : Ev (fun k => cubbyref07_One.j0 k regs blocks B op d a b nm args) (if B = true then 72 else e1 regs blocks op d a b nm args) := by
  cases B
  · rw [if_neg Bool.false_ne_true]
    have hd := (defOf_iff (op := op) (d := d))
    have hj : Ev (fun k => (cubbyref07_Uses.f k op d a b nm args).bind fun t273 => (cubbyref07_within.f k t273 regs).bind fun t276 => cubbyref07_One.j1 k blocks (!t276) op d a b nm args) (if (uses op a b args).any (oddReg regs) = true ∨ (hasD op ∧ d = -1) then 73 else e2 blocks op d a b nm args) := by
      refine Ev.bind (refuses_ev op d a b nm args ha) (Ev.bind (refwithin_ev _ regs (uses_short ha)) ?_)
      have := r1 op d a b nm args h blocks ((uses op a b args).any (oddReg regs))
      rw [Bool.not_not]
      exact this
    by_cases c : defOf op d = -1
    · refine Ev.step (fun k => by simp only [cubbyref07_One.j0]; rw [if_neg Bool.false_ne_true, refdef_eq, Option.bind_some, if_pos c]) ?_
      have e : e1 regs blocks op d a b nm args = (if (uses op a b args).any (oddReg regs) = true ∨ (hasD op ∧ d = -1) then 73 else e2 blocks op d a b nm args) := by
        unfold e1
        have h1 : ((hasD op ∧ oddReg regs d = true) ∨ (uses op a b args).any (oddReg regs) = true) ↔ ((uses op a b args).any (oddReg regs) = true ∨ (hasD op ∧ d = -1)) := by
          rw [odd_iff]
          have h2 := hd.1.1 c
          constructor
          · rintro (⟨x, _⟩ | x)
            · exact .inr ⟨x, by rcases h2 with h2 | h2; exact absurd x h2; exact h2⟩
            · exact .inl x
          · rintro (x | ⟨x, y⟩)
            · exact .inr x
            · exact .inl ⟨x, .inl (by omega)⟩
        simp only [h1]
      rw [e]
      exact hj
    · have hh : hasD op := Decidable.byContradiction fun x => c (hd.1.2 (.inl x))
      have hdd := hd.2 hh
      have hne : d ≠ -1 := fun x => c (hd.1.2 (.inr x))
      by_cases c1 : d < 0
      · have e : e1 regs blocks op d a b nm args = 73 := by
          unfold e1
          rw [if_pos (.inl ⟨hh, (odd_iff _ _).2 (.inl c1)⟩)]
        rw [e]
        have := r1 op d a b nm args h blocks true
        rw [if_pos (.inl rfl)] at this
        exact Ev.step (fun k => by simp only [cubbyref07_One.j0]; rw [if_neg Bool.false_ne_true, refdef_eq, Option.bind_some, if_neg c, Option.bind_some, if_pos (by omega)]) this
      · by_cases c2 : d ≥ regs
        · have e : e1 regs blocks op d a b nm args = 73 := by
            unfold e1
            rw [if_pos (.inl ⟨hh, (odd_iff _ _).2 (.inr c2)⟩)]
          rw [e]
          have := r1 op d a b nm args h blocks true
          rw [if_pos (.inl rfl)] at this
          exact Ev.step (fun k => by simp only [cubbyref07_One.j0]; rw [if_neg Bool.false_ne_true, refdef_eq, Option.bind_some, if_neg c, Option.bind_some, if_neg (by omega), Option.bind_some, if_pos (by omega)]) this
        · have e : e1 regs blocks op d a b nm args = (if (uses op a b args).any (oddReg regs) = true ∨ (hasD op ∧ d = -1) then 73 else e2 blocks op d a b nm args) := by
            unfold e1
            have h1 : ((hasD op ∧ oddReg regs d = true) ∨ (uses op a b args).any (oddReg regs) = true) ↔ ((uses op a b args).any (oddReg regs) = true ∨ (hasD op ∧ d = -1)) := by
              rw [odd_iff]
              constructor
              · rintro (⟨_, x⟩ | x)
                · omega
                · exact .inl x
              · rintro (x | ⟨_, y⟩)
                · exact .inr x
                · exact absurd y hne
            simp only [h1]
          rw [e]
          exact Ev.step (fun k => by simp only [cubbyref07_One.j0]; rw [if_neg Bool.false_ne_true, refdef_eq, Option.bind_some, if_neg c, Option.bind_some, if_neg (by omega), Option.bind_some, if_neg (by omega)]) hj
  · exact Ev.step (f := fun _ => some 72) (fun k => by simp only [cubbyref07_One.j0]; rw [if_pos trivial]) (Ev.now _)
theorem refone_ev (ha : args.length ≤ 17592186043904) (regs blocks : Int) (last : Bool) : Ev (fun k => cubbyref07_One.f k op d a b nm args regs blocks last) (oneE regs blocks op d a b nm args last) := by
  unfold oneE
  have hyes : Ev (fun k => cubbyref07_One.j0 k regs blocks true op d a b nm args) 72 := Ev.step (f := fun _ => some 72) (fun k => by simp only [cubbyref07_One.j0]; rw [if_pos trivial]) (Ev.now _)
  by_cases c0 : op < 1
  · rw [if_neg (by omega)]
    exact Ev.congr (fun k => by unfold cubbyref07_One.f; rw [if_pos c0]) hyes
  by_cases c1 : op > 14
  · rw [if_neg (by omega)]
    exact Ev.congr (fun k => by unfold cubbyref07_One.f; rw [if_neg c0, if_pos c1]) hyes
  have h : 1 ≤ op ∧ op ≤ 14 := by omega
  by_cases c2 : lastOp op = last
  · refine Ev.congr (fun k => by unfold cubbyref07_One.f; rw [if_neg c0, if_neg c1, reflast_eq, Option.bind_some, if_neg (by simp [c2])]) (Ev.bind (refbare_ev op d a b nm args h) ?_)
    have := r0 op d a b nm args h ha regs blocks (!decide (bareP op d a b nm args))
    by_cases c3 : bareP op d a b nm args
    · rw [if_pos ⟨h, c2, c3⟩]
      rw [decide_eq_true c3] at this ⊢
      exact this
    · rw [if_neg (fun x => c3 x.2.2)]
      rw [decide_eq_false c3] at this ⊢
      exact this
  · rw [if_neg (fun x => c2 x.2.1)]
    exact Ev.congr (fun k => by unfold cubbyref07_One.f; rw [if_neg c0, if_neg c1, reflast_eq, Option.bind_some, if_pos (by simpa using c2)]) hyes
end
end Go.Proofs.YtbipipbfiekbgaaDoor.PlainOne
/- ir.one: what it answers is the plain function of one instruction's error. -/
namespace Go.Proofs.YtbipipbfiekbgaaDoor.PlainOne
open Go Go.RowKit Go.Proofs.YtbipipbfiekbgaaDoorW.PrintWords Go.Proofs.YtbipipbfiekbgaaDoorW.PrintMore Go.Proofs.YtbipipbfiekbgaaDoor.Q Go.Proofs.YtbipipbfiekbgaaDoor.Plain Go.Proofs.YtbipipbfiekbgaaDoor.PlainIr Go.Proofs.YtbipipbfiekbgaaDoor.PlainName
set_option linter.unusedVariables false
set_option linter.unusedSimpArgs false

theorem lt3 {i : Nat} (h : i < 3) : i = 0 ∨ i = 1 ∨ i = 2 := by omega
section
variable (pn : ByteArray) (pp regs : Int) (bs : List (List SIns)) (op d a b : Int) (nm : ByteArray) (args : List Int)
theorem o5 (B : Bool) (hb : op = 11 ∨ (nm.toList = ([] : List UInt8) ∧ args.length = 0)) : Ev (fun k => ir_one.j5 k B op d a b nm args) (if B = true then 70 else e5 op args) := by
  refine Ev.step (f := fun _ => some _) (fun k => ?_) (Ev.now _)
  simp only [ir_one.j5]
  unfold e5
  repeat' split
  all_goals first | rfl | omega
theorem o3 (hb : op = 11 ∨ (nm.toList = ([] : List UInt8) ∧ args.length = 0)) : Ev (fun k => ir_one.l3 k (targets7 op d a b) ((targets7 op d a b).length : Int) 0 pn pp regs bs op d a b nm args) (e3 (bs.length : Int) op d a b nm args) := by
  have hl := targets_short op d a b
  unfold e3
  refine seek (fun k i => ir_one.l3 k (targets7 op d a b) ((targets7 op d a b).length : Int) (i : Int) pn pp regs bs op d a b nm args) (targets7 op d a b).length (fun i => oddReg (bs.length : Int) (rd (targets7 op d a b) (i : Int)) = true) 74 _ ?_ ?_ ?_ ?_
  · intro i hi hx
    rw [odd_iff] at hx
    refine Ev.step (f := fun _ => some 74) (fun k => ?_) (Ev.now _)
    simp only [ir_one.l3]
    rw [if_pos (by omega), if_pos (by omega), if_pos (by omega)]
    split
    · rfl
    · rw [if_pos (by omega)]
  · intro i hi hx r' hE
    rw [odd_iff] at hx
    refine Ev.step (fun k => ?_) hE
    simp only [ir_one.l3]
    rw [if_pos (by omega), if_pos (by omega), if_pos (by omega), if_neg (by omega), if_neg (by omega), wrap_nat (by omega)]
  · intro h
    rw [if_pos (any_odd.2 h)]
  · intro h
    rw [if_neg (fun x => by
      obtain ⟨i, hi, hx⟩ := any_odd.1 x
      exact h i hi hx)]
    unfold e4
    by_cases c : op = 11
    · refine Ev.step (fun k => by simp only [ir_one.l3]; rw [if_neg (by omega), if_pos c, name_eq, Option.bind_some]) ?_
      have := o5 op d a b nm args (!nameOk nm) hb
      cases hn : nameOk nm
      · rw [hn] at this
        rw [if_pos ⟨c, rfl⟩]
        exact this
      · rw [hn] at this
        rw [if_neg (by simp)]
        exact this
    · rw [if_neg (fun x => c x.1)]
      exact Ev.step (fun k => by simp only [ir_one.l3]; rw [if_neg (by omega), if_neg c]) (o5 op d a b nm args false hb)
theorem o2 (s : ByteArray) (S : Sh op s) (hb : op = 11 ∨ (nm.toList = ([] : List UInt8) ∧ args.length = 0)) : Ev (fun k => ir_one.l2 k s [d, a, b] (([d, a, b] : List Int).length : Int) 0 pn pp regs bs op d a b nm args) (e2 (bs.length : Int) op d a b nm args) := by
  have hs := S.size
  have hl : ([d, a, b] : List Int).length = 3 := rfl
  have h0 := S.n0
  have h1 := S.n1
  have h2 := S.n2
  unfold e2
  refine seek (fun k i => ir_one.l2 k s [d, a, b] (([d, a, b] : List Int).length : Int) (i : Int) pn pp regs bs op d a b nm args) 3 (fun i => bt s (i : Int) = 110 ∧ (rd [d, a, b] (i : Int) < 0 ∨ rd [d, a, b] (i : Int) ≥ 65536)) 81 _ ?_ ?_ ?_ ?_
  · rintro i hi ⟨hx, hy⟩
    refine Ev.step (f := fun _ => some 81) (fun k => ?_) (Ev.now _)
    simp only [ir_one.l2]
    rw [if_pos (by omega), if_pos (by omega), if_pos (by omega), if_pos (by omega), if_pos hx]
    split
    · rfl
    · rw [if_pos (by omega)]
  · intro i hi hx r' hE
    refine Ev.step (fun k => ?_) hE
    simp only [ir_one.l2]
    rw [if_pos (by omega), if_pos (by omega), if_pos (by omega), if_pos (by omega), wrap_nat (by omega)]
    repeat' split
    all_goals first
      | rfl
      | (exfalso; apply hx; constructor <;> first | assumption | omega)
  · rintro ⟨i, hi, hx, hy⟩
    rcases lt3 hi with rfl | rfl | rfl
    · exact absurd hx h0
    · exact if_pos ⟨h1.1 hx, hy⟩
    · exact absurd hx h2
  · intro h
    rw [if_neg (fun x => h 1 (by omega) ⟨h1.2 x.1, x.2⟩)]
    refine Ev.step (fun k => by simp only [ir_one.l2]; rw [if_neg (by omega), targets_eq, Option.bind_some]) (o3 pn pp regs bs op d a b nm args hb)
theorem o1 (s : ByteArray) (S : Sh op s) (hop : 1 ≤ op ∧ op ≤ 14) (hb : op = 11 ∨ (nm.toList = ([] : List UInt8) ∧ args.length = 0)) : Ev (fun k => ir_one.l1 k s [d, a, b] [d, a, b] (([d, a, b] : List Int).length : Int) 0 pn pp regs bs op d a b nm args) (e1 regs (bs.length : Int) op d a b nm args) := by
  have hs := S.size
  have hl : ([d, a, b] : List Int).length = 3 := rfl
  have h0 := S.b0
  have h1 := S.b1
  have h2 := S.b2
  have hargs : ¬ op = 11 → args = [] := fun h => by
    rcases hb with hb | hb
    · exact absurd hb h
    · exact List.length_eq_zero_iff.1 hb.2
  unfold e1
  have hC : ((hasD op ∧ oddReg regs d = true) ∨ (uses op a b args).any (oddReg regs) = true) ↔ ((∃ i : Nat, i < 3 ∧ bt s (i : Int) = 114 ∧ oddReg regs (rd [d, a, b] (i : Int)) = true) ∨ args.any (oddReg regs) = true) := by
    constructor
    · rintro (⟨x, y⟩ | x)
      · exact .inl ⟨0, by omega, h0.2 x, y⟩
      · by_cases c : op = 11
        · right
          unfold uses at x
          rwa [if_neg (by omega), if_neg (by omega), if_pos c] at x
        · left
          unfold uses at x
          split at x
          · simp at x
            exact ⟨1, by omega, h1.2 (by omega), x⟩
          · split at x
            · simp at x
              rcases x with x | x
              · exact ⟨1, by omega, h1.2 (by omega), x⟩
              · exact ⟨2, by omega, h2.2 (by omega), x⟩
            · exact absurd x (by simp)
    · rintro (⟨i, hi, hx, hy⟩ | x)
      · rcases lt3 hi with rfl | rfl | rfl
        · exact .inl ⟨h0.1 hx, hy⟩
        · right
          have := h1.1 hx
          have hy' : oddReg regs a = true := hy
          unfold uses
          split
          · simp [hy']
          · split
            · simp [hy']
            · omega
        · right
          have := h2.1 hx
          have hy' : oddReg regs b = true := hy
          unfold uses
          rw [if_neg (by omega), if_pos (by omega)]
          simp [hy']
      · by_cases c : op = 11
        · right
          unfold uses
          rw [if_neg (by omega), if_neg (by omega), if_pos c]
          exact x
        · rw [hargs c] at x
          exact absurd x (by simp)
  refine seek (fun k i => ir_one.l1 k s [d, a, b] [d, a, b] (([d, a, b] : List Int).length : Int) (i : Int) pn pp regs bs op d a b nm args) 3 (fun i => bt s (i : Int) = 114 ∧ oddReg regs (rd [d, a, b] (i : Int)) = true) 73 _ ?_ ?_ ?_ ?_
  · rintro i hi ⟨hx, hy⟩
    refine Ev.step (f := fun _ => some 73) (fun k => ?_) (Ev.now _)
    simp only [ir_one.l1]
    rw [if_pos (by omega), if_pos (by omega), if_pos (by omega), if_pos (by omega), if_pos hx]
    simp only [ir_one_1.f, Option.bind_some, hy, if_true]
  · intro i hi hx r' hE
    refine Ev.step (fun k => ?_) hE
    simp only [ir_one.l1]
    rw [if_pos (by omega), if_pos (by omega), if_pos (by omega), if_pos (by omega), wrap_nat (by omega)]
    by_cases c : bt s (i : Int) = 114
    · rw [if_pos c]
      simp only [ir_one_1.f, Option.bind_some]
      rw [if_neg (fun y => hx ⟨c, y⟩)]
    · rw [if_neg c]
  · rintro ⟨i, hi, hx⟩
    exact if_pos (hC.2 (.inl ⟨i, hi, hx⟩))
  · intro h
    by_cases c : args.any (oddReg regs) = true
    · rw [if_pos (hC.2 (.inr c))]
      exact Ev.step (f := fun _ => some 73) (fun k => by simp only [ir_one.l1]; rw [if_neg (by omega)]; simp only [slices_ContainsFunc_int_int.f, Option.bind_some]; rw [if_pos c]) (Ev.now _)
    · rw [if_neg (fun x => by
        rcases hC.1 x with ⟨i, hi, hy⟩ | y
        · exact h i hi hy
        · exact c y)]
      exact Ev.step (fun k => by simp only [ir_one.l1]; rw [if_neg (by omega)]; simp only [slices_ContainsFunc_int_int.f, Option.bind_some]; rw [if_neg c]) (o2 pn pp regs bs op d a b nm args s S hb)
theorem o0 (s : ByteArray) (S : Sh op s) (hop : 1 ≤ op ∧ op ≤ 14) (hb : op = 11 ∨ (nm.toList = ([] : List UInt8) ∧ args.length = 0)) : Ev (fun k => ir_one.l0 k s [d, a, b] [d, a, b] (([d, a, b] : List Int).length : Int) 0 pn pp regs bs op d a b nm args) (if bareP op d a b nm args then e1 regs (bs.length : Int) op d a b nm args else 72) := by
  have hs := S.size
  have hl : ([d, a, b] : List Int).length = 3 := rfl
  have h0 := S.f0
  have h1 := S.f1
  have h2 := S.f2
  refine seek (fun k i => ir_one.l0 k s [d, a, b] [d, a, b] (([d, a, b] : List Int).length : Int) (i : Int) pn pp regs bs op d a b nm args) 3 (fun i => bt s (i : Int) = 32 ∧ ¬ rd [d, a, b] (i : Int) = 0) 72 _ ?_ ?_ ?_ ?_
  · rintro i hi ⟨hx, hy⟩
    refine Ev.step (f := fun _ => some 72) (fun k => ?_) (Ev.now _)
    simp only [ir_one.l0]
    rw [if_pos (by omega), if_pos (by omega), if_pos (by omega), if_pos (by omega), if_pos hx, if_neg hy]
  · intro i hi hx r' hE
    refine Ev.step (fun k => ?_) hE
    simp only [ir_one.l0]
    rw [if_pos (by omega), if_pos (by omega), if_pos (by omega), if_pos (by omega), wrap_nat (by omega)]
    by_cases c : bt s (i : Int) = 32
    · rw [if_pos c, if_pos (Decidable.byContradiction fun y => hx ⟨c, y⟩)]
    · rw [if_neg c]
  · rintro ⟨i, hi, hx, hy⟩
    refine if_neg (fun hB => ?_)
    obtain ⟨_, f0, f1, f2⟩ := hB
    rcases lt3 hi with rfl | rfl | rfl
    · exact hy (f0 (h0.1 hx))
    · exact hy (f1 (h1.1 hx))
    · exact hy (f2 (h2.1 hx))
  · intro h
    rw [if_pos ⟨hb, fun x => Decidable.byContradiction fun y => h 0 (by omega) ⟨h0.2 x, y⟩, fun x => Decidable.byContradiction fun y => h 1 (by omega) ⟨h1.2 x, y⟩, fun x => Decidable.byContradiction fun y => h 2 (by omega) ⟨h2.2 x, y⟩⟩]
    exact Ev.step (fun k => by simp only [ir_one.l0]; rw [if_neg (by omega)]) (o1 pn pp regs bs op d a b nm args s S hop hb)
theorem one_ev (last : Bool) : Ev (fun k => ir_one.f k pn pp regs bs op d a b nm args last) (oneE regs (bs.length : Int) op d a b nm args last) := by
  unfold oneE
  by_cases hop : 1 ≤ op ∧ op ≤ 14
  · obtain ⟨s, hs, S⟩ := shape_some hop
    have hyes : Ev (fun k => ir_one.j0 k s true pn pp regs bs op d a b nm args) 72 := Ev.step (f := fun _ => some 72) (fun k => by simp only [ir_one.j0]; rw [if_pos trivial]) (Ev.now _)
    by_cases c2 : lastOp op = last
    · have hgo : (op = 11 ∨ (nm.toList = ([] : List UInt8) ∧ args.length = 0)) → Ev (fun k => ir_one.j0 k s false pn pp regs bs op d a b nm args) (if (1 ≤ op ∧ op ≤ 14) ∧ lastOp op = last ∧ bareP op d a b nm args then e1 regs (bs.length : Int) op d a b nm args else 72) := fun hb => by
        refine Ev.step (fun k => by simp only [ir_one.j0]; rw [if_neg Bool.false_ne_true, Option.bind_some]) ?_
        have := o0 pn pp regs bs op d a b nm args s S hop hb
        by_cases c3 : bareP op d a b nm args
        · rw [if_pos ⟨hop, c2, c3⟩]
          rw [if_pos c3] at this
          exact this
        · rw [if_neg (fun x => c3 x.2.2)]
          rw [if_neg c3] at this
          exact this
      by_cases c : op = 11
      · exact Ev.congr (fun k => by unfold ir_one.f; rw [hs, Option.bind_some, if_neg S.ne, last_eq, Option.bind_some, if_neg (by simp [c2]), if_pos c]) (hgo (.inl c))
      · by_cases c1 : nm.toList = ([] : List UInt8)
        · refine Ev.congr (fun k => by unfold ir_one.f; rw [hs, Option.bind_some, if_neg S.ne, last_eq, Option.bind_some, if_neg (by simp [c2]), if_neg c, if_pos c1]) ?_
          by_cases c4 : (args.length : Int) > 0
          · rw [decide_eq_true c4, if_neg (fun x => by have := x.2.2.1; omega)]
            exact hyes
          · rw [decide_eq_false c4]
            exact hgo (.inr ⟨c1, by omega⟩)
        · rw [if_neg (fun x => by
            rcases x.2.2.1 with y | y
            · exact c y
            · exact c1 y.1)]
          exact Ev.congr (fun k => by unfold ir_one.f; rw [hs, Option.bind_some, if_neg S.ne, last_eq, Option.bind_some, if_neg (by simp [c2]), if_neg c, if_neg c1]) hyes
    · rw [if_neg (fun x => c2 x.2.1)]
      exact Ev.congr (fun k => by unfold ir_one.f; rw [hs, Option.bind_some, if_neg S.ne, last_eq, Option.bind_some, if_pos (by simpa using c2)]) hyes
  · rw [if_neg (fun x => hop x.1)]
    refine Ev.congr (fun k => by unfold ir_one.f; rw [shape_none hop, Option.bind_some, if_pos nil_toList]) ?_
    exact Ev.step (f := fun _ => some 72) (fun k => by simp only [ir_one.j0]; rw [if_pos trivial]) (Ev.now _)
end
end Go.Proofs.YtbipipbfiekbgaaDoor.PlainOne
/- Lists of blocks by places, and blocks that are short enough. -/
namespace Go.Proofs.YtbipipbfiekbgaaDoor.PlainHeavy
open Go Go.RowKit Go.Proofs.YtbipipbfiekbgaaDoorW.PrintWords Go.Proofs.YtbipipbfiekbgaaDoorW.PrintMore Go.Proofs.YtbipipbfiekbgaaDoor.Q Go.Proofs.YtbipipbfiekbgaaDoor.Plain
set_option linter.unusedVariables false
set_option linter.unusedSimpArgs false

theorem rdL_get {l : List (List SIns)} {j : Nat} (h : j < l.length) : rd_LIns l (j : Int) = l[j] := by
  show l.getD j [] = _
  rw [List.getD_eq_getElem?_getD, List.getElem?_eq_getElem h]
  rfl
theorem rdT_get {l : List SIns} {j : Nat} (h : j < l.length) : rd_TIns l (j : Int) = l[j] := by
  show l.getD j zIns = _
  rw [List.getD_eq_getElem?_getD, List.getElem?_eq_getElem h]
  rfl
/-- Blocks that are short enough. -/
structure FairB (x : List (List SIns)) : Prop where
  len : x.length ≤ 1000000000000000
  row : ∀ b ∈ x, b.length ≤ 1000000000000000
  ins : ∀ b ∈ x, ∀ y ∈ b, y.f5.length ≤ 17592186043904
end Go.Proofs.YtbipipbfiekbgaaDoor.PlainHeavy
/- What may be a function: both texts' checks come to one plain function. -/
namespace Go.Proofs.YtbipipbfiekbgaaDoor.PlainCheck
open Go Go.RowKit Go.Proofs.YtbipipbfiekbgaaDoorW.PrintWords Go.Proofs.YtbipipbfiekbgaaDoorW.PrintMore Go.Proofs.YtbipipbfiekbgaaDoor.Q Go.Proofs.YtbipipbfiekbgaaDoor.Plain Go.Proofs.YtbipipbfiekbgaaDoor.PlainName Go.Proofs.YtbipipbfiekbgaaDoor.PlainOne Go.Proofs.YtbipipbfiekbgaaDoor.PlainHeavy
set_option linter.unusedVariables false
set_option linter.unusedSimpArgs false

def insE (regs nb : Int) (x : SIns) (last : Bool) : Int := oneE regs nb x.f0 x.f1 x.f2 x.f3 x.f4 x.f5 last
/-- A block's first error. -/
def rowE (regs nb : Int) : List SIns → Int
  | [] => 0
  | x :: xs => if insE regs nb x xs.isEmpty = 0 then rowE regs nb xs else insE regs nb x xs.isEmpty
/-- All blocks' first error. -/
def allE (regs nb : Int) : List (List SIns) → Int
  | [] => 0
  | b :: bs => if rowE regs nb b = 0 then allE regs nb bs else rowE regs nb b
def total : List (List SIns) → Nat
  | [] => 0
  | b :: bs => b.length + total bs
def fits (left : Int) (l : List (List SIns)) : Bool := decide ((∀ b ∈ l, b.length ≠ 0) ∧ (total l : Int) ≤ left)
def shapeP (params regs : Int) (bs : List (List SIns)) : Prop := 0 ≤ params ∧ params ≤ 4 ∧ params ≤ regs ∧ regs ≤ 64 ∧ 1 ≤ bs.length ∧ bs.length ≤ 32 ∧ fits 200 bs = true
instance (params regs : Int) (bs : List (List SIns)) : Decidable (shapeP params regs bs) := by unfold shapeP; infer_instance
def checkE (nm : ByteArray) (params regs : Int) (bs : List (List SIns)) : Int := if nameOk nm = true then (if shapeP params regs bs then allE regs (bs.length : Int) bs else 71) else 70

theorem fits_nil {left : Int} (h : 0 ≤ left) : fits left [] = true := by
  unfold fits
  apply decide_eq_true
  exact ⟨by simp, by unfold total; omega⟩
theorem fits_cons (left : Int) (b : List SIns) (bs : List (List SIns)) : fits left (b :: bs) = (decide (b.length ≠ 0) && fits (left - b.length) bs) := by
  unfold fits
  rw [← Bool.decide_and]
  apply decide_eq_decide.2
  simp only [List.mem_cons, forall_eq_or_imp, total]
  constructor
  · rintro ⟨⟨h1, h2⟩, h3⟩
    exact ⟨h1, h2, by omega⟩
  · rintro ⟨h1, h2, h3⟩
    exact ⟨⟨h1, h2⟩, by omega⟩
theorem fits_neg {left : Int} {bs : List (List SIns)} (h : left < 0) : fits left bs = false := by
  unfold fits
  apply decide_eq_false
  rintro ⟨_, h2⟩
  omega
theorem last_eq' {b : List SIns} {j : Nat} (hj : j < b.length) (hl : b.length ≤ 4611686018427387904) : ((j : Int) == wrap64 ((b.length : Int) - 1)) = (b.drop (j + 1)).isEmpty := by
  rw [wrap_pred (by omega) hl]
  by_cases c : j + 1 = b.length
  · rw [List.drop_eq_nil_of_le (by omega)]
    simp
    omega
  · have : b.drop (j + 1) ≠ [] := fun h => by
      have := congrArg List.length h
      rw [List.length_drop] at this
      simp at this
      omega
    rw [List.isEmpty_eq_false_iff.2 this]
    simp
    omega

/-! ### the reference -/
section
variable (pn : ByteArray) (pp rg : Int) (bs : List (List SIns)) (hF : FairB bs)
include hF
theorem refshape_loop : ∀ (d i : Nat), bs.length - i = d → i ≤ bs.length → ∀ s : Int, 0 ≤ s → s ≤ 1000 * i → Ev (fun k => cubbyref07_Shape.l0 k bs s (i : Int)) (fits (200 - s) (bs.drop i)) := by
  have hlen := hF.len
  intro d
  induction d with
  | zero =>
    intro i hd hi s h0 hs
    rw [List.drop_eq_nil_of_le (by omega)]
    refine Ev.step (f := fun _ => some _) (fun k => by simp only [cubbyref07_Shape.l0]; rw [if_neg (by omega)]) ?_
    have : fits (200 - s) [] = decide (s ≤ 200) := by
      unfold fits total
      apply decide_eq_decide.2
      constructor
      · rintro ⟨_, h⟩
        omega
      · intro h
        exact ⟨by simp, by omega⟩
    rw [this]
    exact Ev.now _
  | succ d ih =>
    intro i hd hi s h0 hs
    have hlt : i < bs.length := by omega
    have hr := hF.row _ (List.getElem_mem hlt)
    rw [drop_cons hlt, fits_cons]
    by_cases c : ((bs[i]).length : Int) = 0
    · rw [decide_eq_false (by omega), Bool.false_and]
      exact Ev.step (f := fun _ => some false) (fun k => by simp only [cubbyref07_Shape.l0]; rw [if_pos (by omega), if_pos (by omega), rdL_get hlt, if_pos c]) (Ev.now _)
    · by_cases c1 : ((bs[i]).length : Int) > 200
      · rw [fits_neg (by omega), Bool.and_false]
        exact Ev.step (f := fun _ => some false) (fun k => by simp only [cubbyref07_Shape.l0]; rw [if_pos (by omega), if_pos (by omega), rdL_get hlt, if_neg c, if_pos c1]) (Ev.now _)
      · rw [decide_eq_true (by omega), Bool.true_and]
        have := ih (i + 1) (by omega) (by omega) (s + (bs[i]).length) (by omega) (by omega)
        rw [show 200 - s - ((bs[i]).length : Int) = 200 - (s + (bs[i]).length) by omega]
        refine Ev.step (fun k => ?_) this
        simp only [cubbyref07_Shape.l0]
        rw [if_pos (by omega), if_pos (by omega), rdL_get hlt, if_neg c, if_neg c1, wrap_nat (by omega), wrap_id (by omega) (by omega)]
theorem refshape_ev : Ev (fun k => cubbyref07_Shape.f k pp rg bs) (decide (shapeP pp rg bs)) := by
  have hyes : ¬ shapeP pp rg bs → Ev (fun k => cubbyref07_Shape.j0 k bs true) (decide (shapeP pp rg bs)) := fun h => by
    rw [decide_eq_false h]
    exact Ev.step (f := fun _ => some false) (fun k => by simp only [cubbyref07_Shape.j0]; rw [if_pos trivial]) (Ev.now _)
  by_cases c0 : pp < 0
  · exact Ev.congr (fun k => by unfold cubbyref07_Shape.f; rw [if_pos c0]) (hyes (fun h => by have := h.1; omega))
  by_cases c1 : pp > 4
  · exact Ev.congr (fun k => by unfold cubbyref07_Shape.f; rw [if_neg c0, if_pos c1]) (hyes (fun h => by have := h.2.1; omega))
  by_cases c2 : rg < pp
  · exact Ev.congr (fun k => by unfold cubbyref07_Shape.f; rw [if_neg c0, if_neg c1, if_pos c2]) (hyes (fun h => by have := h.2.2.1; omega))
  by_cases c3 : rg > 64
  · exact Ev.congr (fun k => by unfold cubbyref07_Shape.f; rw [if_neg c0, if_neg c1, if_neg c2, if_pos c3]) (hyes (fun h => by have := h.2.2.2.1; omega))
  by_cases c4 : (bs.length : Int) < 1
  · exact Ev.congr (fun k => by unfold cubbyref07_Shape.f; rw [if_neg c0, if_neg c1, if_neg c2, if_neg c3, if_pos c4]) (hyes (fun h => by have := h.2.2.2.2.1; omega))
  refine Ev.congr (fun k => by unfold cubbyref07_Shape.f; rw [if_neg c0, if_neg c1, if_neg c2, if_neg c3, if_neg c4]) ?_
  by_cases c5 : (bs.length : Int) > 32
  · rw [decide_eq_true c5]
    exact hyes (fun h => by have := h.2.2.2.2.2.1; omega)
  · rw [decide_eq_false c5]
    have := refshape_loop bs hF bs.length 0 (by omega) (by omega) 0 (by omega) (by omega)
    have e : fits (200 - 0) (bs.drop 0) = decide (shapeP pp rg bs) := by
      rw [List.drop_zero]
      unfold shapeP
      cases hf : fits (200 - 0) bs
      · symm
        apply decide_eq_false
        rintro ⟨_, _, _, _, _, _, h⟩
        rw [show (200 : Int) - 0 = 200 by omega, h] at hf
        exact absurd hf (by simp)
      · symm
        apply decide_eq_true
        exact ⟨by omega, by omega, by omega, by omega, by omega, by omega, hf⟩
    rw [← e]
    refine Ev.step (fun k => by simp only [cubbyref07_Shape.j0]; rw [if_neg Bool.false_ne_true]; rfl) this
theorem refcheck_row (i : Nat) (hi : i < bs.length) (R : Int) (h : Ev (fun k => cubbyref07_Check.l0 k ((i + 1 : Nat) : Int) pn pp rg bs) R) : ∀ (d j : Nat), bs[i].length - j = d → j ≤ bs[i].length → Ev (fun k => cubbyref07_Check.l1 k (i : Int) (j : Int) pn pp rg bs) (if rowE rg (bs.length : Int) (bs[i].drop j) = 0 then R else rowE rg (bs.length : Int) (bs[i].drop j)) := by
  have hlen := hF.len
  have hr := hF.row _ (List.getElem_mem hi)
  have hg := rdL_get hi
  intro d
  induction d with
  | zero =>
    intro j hd hj
    rw [List.drop_eq_nil_of_le (by omega)]
    unfold rowE
    rw [if_pos rfl]
    exact Ev.step (fun k => by simp only [cubbyref07_Check.l1]; rw [if_pos (by omega), if_pos (by omega), hg, if_neg (by omega), wrap_nat (by omega)]) h
  | succ d ih =>
    intro j hd hj
    have hlt : j < bs[i].length := by omega
    have hx := hF.ins _ (List.getElem_mem hi) _ (List.getElem_mem hlt)
    rw [drop_cons hlt]
    unfold rowE
    have h1 := refone_ev bs[i][j].f0 bs[i][j].f1 bs[i][j].f2 bs[i][j].f3 bs[i][j].f4 bs[i][j].f5 (by omega) rg (bs.length : Int) (bs[i].drop (j + 1)).isEmpty
    refine Ev.step (fun k => by simp only [cubbyref07_Check.l1]; rw [if_pos (by omega), if_pos (by omega), hg, if_pos (by omega), if_pos (by omega), rdT_get hlt, last_eq' hlt (by omega)]) (Ev.bind h1 ?_)
    show Ev (fun n => if insE rg (bs.length : Int) bs[i][j] (bs[i].drop (j + 1)).isEmpty = 0 then _ else some (insE rg (bs.length : Int) bs[i][j] (bs[i].drop (j + 1)).isEmpty)) _
    by_cases c : insE rg (bs.length : Int) bs[i][j] (bs[i].drop (j + 1)).isEmpty = 0
    · rw [if_pos c]
      exact Ev.congr (fun k => by rw [if_pos c, wrap_nat (by omega)]) (ih (j + 1) (by omega) (by omega))
    · rw [if_neg c, if_neg c]
      exact Ev.congr (f := fun _ => some _) (fun k => by rw [if_neg c]) (Ev.now _)
theorem refcheck_all : ∀ (d i : Nat), bs.length - i = d → i ≤ bs.length → Ev (fun k => cubbyref07_Check.l0 k (i : Int) pn pp rg bs) (allE rg (bs.length : Int) (bs.drop i)) := by
  intro d
  induction d with
  | zero =>
    intro i hd hi
    rw [List.drop_eq_nil_of_le (by omega)]
    exact Ev.step (f := fun _ => some 0) (fun k => by simp only [cubbyref07_Check.l0]; rw [if_neg (by omega)]) (Ev.now _)
  | succ d ih =>
    intro i hd hi
    have hlt : i < bs.length := by omega
    rw [drop_cons hlt]
    unfold allE
    refine Ev.step (fun k => by simp only [cubbyref07_Check.l0]; rw [if_pos (by omega)]) ?_
    have := refcheck_row pn pp rg bs hF i hlt _ (ih (i + 1) (by omega) (by omega)) bs[i].length 0 (by omega) (by omega)
    rw [List.drop_zero] at this
    exact this
theorem refcheck_ev : Ev (fun k => cubbyref07_Check.f k pn pp rg bs) (checkE pn pp rg bs) := by
  unfold checkE
  refine Ev.bind (refname_ev pn) ?_
  cases nameOk pn
  · exact Ev.congr (f := fun _ => some 70) (fun k => by rw [if_neg Bool.false_ne_true]) (Ev.now _)
  · refine Ev.congr (fun k => by rw [if_pos rfl]) (Ev.bind (refshape_ev pp rg bs hF) ?_)
    rw [if_pos rfl]
    by_cases c : shapeP pp rg bs
    · rw [if_pos c, decide_eq_true c]
      have := refcheck_all pn pp rg bs hF bs.length 0 (by omega) (by omega)
      exact Ev.congr (fun k => by rw [if_pos rfl]; rfl) this
    · rw [if_neg c, decide_eq_false c]
      exact Ev.congr (f := fun _ => some 71) (fun k => by rw [if_neg Bool.false_ne_true]) (Ev.now _)

/-! ### ir.Check -/
theorem check_row (i : Nat) (hi : i < bs.length) (R : Int) (h : Ev (fun k => ir_Check.l1 k bs (bs.length : Int) ((i + 1 : Nat) : Int) pn pp rg bs) R) : ∀ (d j : Nat), bs[i].length - j = d → j ≤ bs[i].length → Ev (fun k => ir_Check.l2 k bs[i] bs (bs.length : Int) (i : Int) bs[i] (bs[i].length : Int) (j : Int) pn pp rg bs) (if rowE rg (bs.length : Int) (bs[i].drop j) = 0 then R else rowE rg (bs.length : Int) (bs[i].drop j)) := by
  have hlen := hF.len
  have hr := hF.row _ (List.getElem_mem hi)
  intro d
  induction d with
  | zero =>
    intro j hd hj
    rw [List.drop_eq_nil_of_le (by omega)]
    unfold rowE
    rw [if_pos rfl]
    exact Ev.step (fun k => by simp only [ir_Check.l2]; rw [if_neg (by omega), wrap_nat (by omega)]) h
  | succ d ih =>
    intro j hd hj
    have hlt : j < bs[i].length := by omega
    have hx := hF.ins _ (List.getElem_mem hi) _ (List.getElem_mem hlt)
    rw [drop_cons hlt]
    unfold rowE
    have h1 := one_ev pn pp rg bs bs[i][j].f0 bs[i][j].f1 bs[i][j].f2 bs[i][j].f3 bs[i][j].f4 bs[i][j].f5 (bs[i].drop (j + 1)).isEmpty
    refine Ev.step (fun k => by simp only [ir_Check.l2]; rw [if_pos (by omega), if_pos (by omega), if_pos (by omega), rdT_get hlt, last_eq' hlt (by omega)]) (Ev.bind h1 ?_)
    show Ev (fun n => if insE rg (bs.length : Int) bs[i][j] (bs[i].drop (j + 1)).isEmpty = 0 then _ else some (insE rg (bs.length : Int) bs[i][j] (bs[i].drop (j + 1)).isEmpty)) _
    by_cases c : insE rg (bs.length : Int) bs[i][j] (bs[i].drop (j + 1)).isEmpty = 0
    · rw [if_pos c]
      exact Ev.congr (fun k => by rw [if_pos c, wrap_nat (by omega)]) (ih (j + 1) (by omega) (by omega))
    · rw [if_neg c, if_neg c]
      exact Ev.congr (f := fun _ => some _) (fun k => by rw [if_neg c]) (Ev.now _)
theorem check_all : ∀ (d i : Nat), bs.length - i = d → i ≤ bs.length → Ev (fun k => ir_Check.l1 k bs (bs.length : Int) (i : Int) pn pp rg bs) (allE rg (bs.length : Int) (bs.drop i)) := by
  intro d
  induction d with
  | zero =>
    intro i hd hi
    rw [List.drop_eq_nil_of_le (by omega)]
    exact Ev.step (f := fun _ => some 0) (fun k => by simp only [ir_Check.l1]; rw [if_neg (by omega)]) (Ev.now _)
  | succ d ih =>
    intro i hd hi
    have hlt : i < bs.length := by omega
    rw [drop_cons hlt]
    unfold allE
    refine Ev.step (fun k => by simp only [ir_Check.l1]; rw [if_pos (by omega), if_pos (by omega), if_pos (by omega), rdL_get hlt]) ?_
    have := check_row pn pp rg bs hF i hlt _ (ih (i + 1) (by omega) (by omega)) bs[i].length 0 (by omega) (by omega)
    rw [List.drop_zero] at this
    exact this
theorem check_fits : ∀ (d i : Nat), bs.length - i = d → i ≤ bs.length → ∀ left : Int, 0 ≤ left → left ≤ 200 → Ev (fun k => ir_Check.l0 k left bs (bs.length : Int) (i : Int) pn pp rg bs) (if fits left (bs.drop i) = true then allE rg (bs.length : Int) bs else 71) := by
  have hlen := hF.len
  intro d
  induction d with
  | zero =>
    intro i hd hi left h0 h1
    rw [List.drop_eq_nil_of_le (by omega), fits_nil h0, if_pos rfl]
    have := check_all pn pp rg bs hF bs.length 0 (by omega) (by omega)
    exact Ev.step (fun k => by simp only [ir_Check.l0]; rw [if_neg (by omega)]; rfl) this
  | succ d ih =>
    intro i hd hi left h0 h1
    have hlt : i < bs.length := by omega
    rw [drop_cons hlt, fits_cons]
    by_cases c : ((bs[i]).length : Int) = 0
    · rw [decide_eq_false (by omega), Bool.false_and, if_neg Bool.false_ne_true]
      exact Ev.step (f := fun _ => some 71) (fun k => by simp only [ir_Check.l0]; rw [if_pos (by omega), if_pos (by omega), if_pos (by omega), rdL_get hlt, if_pos c]) (Ev.now _)
    · by_cases c1 : ((bs[i]).length : Int) > left
      · rw [fits_neg (by omega), Bool.and_false, if_neg Bool.false_ne_true]
        exact Ev.step (f := fun _ => some 71) (fun k => by simp only [ir_Check.l0]; rw [if_pos (by omega), if_pos (by omega), if_pos (by omega), rdL_get hlt, if_neg c, if_pos c1]) (Ev.now _)
      · rw [decide_eq_true (by omega), Bool.true_and]
        refine Ev.step (fun k => ?_) (ih (i + 1) (by omega) (by omega) (left - (bs[i]).length) (by omega) (by omega))
        simp only [ir_Check.l0]
        rw [if_pos (by omega), if_pos (by omega), if_pos (by omega), rdL_get hlt, if_neg c, if_neg c1, wrap_nat (by omega), wrap_id (by omega) (by omega)]
theorem check_ev : Ev (fun k => ir_Check.f k pn pp rg bs) (checkE pn pp rg bs) := by
  unfold checkE
  cases hn : nameOk pn
  · exact Ev.congr (f := fun _ => some 70) (fun k => by unfold ir_Check.f; rw [name_eq, Option.bind_some, hn, if_neg Bool.false_ne_true]) (Ev.now _)
  · rw [if_pos rfl]
    refine Ev.congr (fun k => by unfold ir_Check.f; rw [name_eq, Option.bind_some, hn, if_pos rfl]) ?_
    have hyes : ¬ shapeP pp rg bs → Ev (fun k => ir_Check.j0 k true pn pp rg bs) (if shapeP pp rg bs then allE rg (bs.length : Int) bs else 71) := fun h => by
      rw [if_neg h]
      exact Ev.step (f := fun _ => some 71) (fun k => by simp only [ir_Check.j0]; rw [if_pos trivial]) (Ev.now _)
    by_cases c0 : pp < 0
    · exact Ev.congr (fun k => by rw [if_pos c0]) (hyes (fun h => by have := h.1; omega))
    by_cases c1 : pp > 4
    · exact Ev.congr (fun k => by rw [if_neg c0, if_pos c1]) (hyes (fun h => by have := h.2.1; omega))
    by_cases c2 : rg < pp
    · exact Ev.congr (fun k => by rw [if_neg c0, if_neg c1, if_pos c2]) (hyes (fun h => by have := h.2.2.1; omega))
    by_cases c3 : rg > 64
    · exact Ev.congr (fun k => by rw [if_neg c0, if_neg c1, if_neg c2, if_pos c3]) (hyes (fun h => by have := h.2.2.2.1; omega))
    by_cases c4 : (bs.length : Int) < 1
    · exact Ev.congr (fun k => by rw [if_neg c0, if_neg c1, if_neg c2, if_neg c3, if_pos c4]) (hyes (fun h => by have := h.2.2.2.2.1; omega))
    refine Ev.congr (fun k => by rw [if_neg c0, if_neg c1, if_neg c2, if_neg c3, if_neg c4]) ?_
    by_cases c5 : (bs.length : Int) > 32
    · rw [decide_eq_true c5]
      exact hyes (fun h => by have := h.2.2.2.2.2.1; omega)
    · rw [decide_eq_false c5]
      have := check_fits pn pp rg bs hF bs.length 0 (by omega) (by omega) 200 (by omega) (by omega)
      rw [List.drop_zero] at this
      refine Ev.step (f := fun k => ir_Check.l0 k 200 bs (bs.length : Int) ((0 : Nat) : Int) pn pp rg bs) (fun k => by simp only [ir_Check.j0]; rw [if_neg Bool.false_ne_true]; rfl) ?_
      by_cases hf : fits 200 bs = true
      · rw [if_pos hf] at this
        rw [if_pos ⟨by omega, by omega, by omega, by omega, by omega, by omega, hf⟩]
        exact this
      · rw [if_neg hf] at this
        rw [if_neg (fun h => hf h.2.2.2.2.2.2)]
        exact this
end
end Go.Proofs.YtbipipbfiekbgaaDoor.PlainCheck
/- What is known of a function that may be. -/
namespace Go.Proofs.YtbipipbfiekbgaaDoor.PlainCheck
open Go Go.RowKit Go.Proofs.YtbipipbfiekbgaaDoorW.PrintWords Go.Proofs.YtbipipbfiekbgaaDoorW.PrintMore Go.Proofs.YtbipipbfiekbgaaDoor.Q Go.Proofs.YtbipipbfiekbgaaDoor.Plain Go.Proofs.YtbipipbfiekbgaaDoor.PlainIr Go.Proofs.YtbipipbfiekbgaaDoor.PlainName Go.Proofs.YtbipipbfiekbgaaDoor.PlainOne Go.Proofs.YtbipipbfiekbgaaDoor.PlainHeavy
set_option linter.unusedVariables false

theorem allE_zero {rg nb : Int} : ∀ {bs : List (List SIns)}, allE rg nb bs = 0 → ∀ b ∈ bs, rowE rg nb b = 0
  | [], _ => by simp
  | c :: bs, h => by
    unfold allE at h
    split at h
    · next h1 =>
      intro b hb
      rcases List.mem_cons.1 hb with rfl | hb
      · exact h1
      · exact allE_zero h b hb
    · next h1 => exact absurd h h1
theorem rowE_zero {rg nb : Int} : ∀ {b : List SIns}, rowE rg nb b = 0 → ∀ (j : Nat) (h : j < b.length), insE rg nb b[j] (b.drop (j + 1)).isEmpty = 0
  | [], _ => by
    intro j h
    exact absurd h (by simp)
  | x :: xs, h => by
    unfold rowE at h
    split at h
    · next h1 =>
      intro j hj
      cases j with
      | zero => exact h1
      | succ j => exact rowE_zero h j (by simpa using hj)
    · next h1 => exact absurd h h1
/-- What holds of an instruction that may be. -/
structure InsOk (rg nb : Int) (x : SIns) (last : Bool) : Prop where
  op : 1 ≤ x.f0 ∧ x.f0 ≤ 14
  last : lastOp x.f0 = last
  bare : bareP x.f0 x.f1 x.f2 x.f3 x.f4 x.f5
  def_ : hasD x.f0 → 0 ≤ x.f1 ∧ x.f1 < rg
  use : ∀ n ∈ uses x.f0 x.f2 x.f3 x.f5, 0 ≤ n ∧ n < rg
  num : x.f0 = 1 → 0 ≤ x.f2 ∧ x.f2 < 65536
  goal : ∀ n ∈ targets7 x.f0 x.f1 x.f2 x.f3, 0 ≤ n ∧ n < nb
  name : x.f0 = 11 → nameOk x.f4 = true ∧ x.f5.length ≤ 4
theorem not_any {m : Int} {l : List Int} (h : ¬ l.any (oddReg m) = true) : ∀ n ∈ l, 0 ≤ n ∧ n < m := by
  intro n hn
  have : ¬ oddReg m n = true := fun hx => h (List.any_eq_true.2 ⟨n, hn, hx⟩)
  rw [odd_iff] at this
  omega
theorem insE_zero {rg nb : Int} {x : SIns} {last : Bool} (h : insE rg nb x last = 0) : InsOk rg nb x last := by
  unfold insE oneE at h
  split at h
  · next h0 =>
    unfold e1 at h
    split at h
    · exact absurd h (by decide)
    · next h1 =>
      unfold e2 at h
      split at h
      · exact absurd h (by decide)
      · next h2 =>
        unfold e3 at h
        split at h
        · exact absurd h (by decide)
        · next h3 =>
          unfold e4 at h
          split at h
          · exact absurd h (by decide)
          · next h4 =>
            unfold e5 at h
            split at h
            · exact absurd h (by decide)
            · next h5 =>
              refine ⟨h0.1, h0.2.1, h0.2.2, ?_, not_any (fun y => h1 (.inr y)), ?_, not_any h3, ?_⟩
              · intro hd
                have : ¬ oddReg rg x.f1 = true := fun y => h1 (.inl ⟨hd, y⟩)
                rw [odd_iff] at this
                omega
              · intro h6
                omega
              · intro h6
                refine ⟨?_, by omega⟩
                cases hn : nameOk x.f4
                · exact absurd ⟨h6, hn⟩ h4
                · rfl
  · exact absurd h (by decide)
/-- A function that may be. -/
structure FuncOk (nm : ByteArray) (params regs : Int) (bs : List (List SIns)) : Prop where
  name : nameOk nm = true
  shape : shapeP params regs bs
  row : ∀ b ∈ bs, b.length ≠ 0
  tot : total bs ≤ 200
  ins : ∀ b ∈ bs, ∀ (j : Nat) (h : j < b.length), InsOk regs (bs.length : Int) b[j] (b.drop (j + 1)).isEmpty
theorem checkE_zero {nm : ByteArray} {params regs : Int} {bs : List (List SIns)} (h : checkE nm params regs bs = 0) : FuncOk nm params regs bs := by
  unfold checkE at h
  split at h
  · next h0 =>
    split at h
    · next h1 =>
      have hf := of_decide_eq_true h1.2.2.2.2.2.2
      exact ⟨h0, h1, hf.1, by have := hf.2; omega, fun b hb j hj => insE_zero (rowE_zero (allE_zero h b hb) j hj)⟩
    · exact absurd h (by decide)
  · exact absurd h (by decide)
end Go.Proofs.YtbipipbfiekbgaaDoor.PlainCheck
/- One instruction of code: both texts' errors come to one plain function. -/
namespace Go.Proofs.YtbipipbfiekbgaaDoor.PlainMachOne
open Go Go.RowKit Go.Proofs.YtbipipbfiekbgaaDoorW.PrintWords Go.Proofs.YtbipipbfiekbgaaDoorW.PrintMore Go.Proofs.YtbipipbfiekbgaaDoor.Q Go.Proofs.YtbipipbfiekbgaaDoor.Plain Go.Proofs.YtbipipbfiekbgaaDoor.PlainIr Go.Proofs.YtbipipbfiekbgaaDoor.PlainName Go.Proofs.YtbipipbfiekbgaaDoor.PlainOne Go.Proofs.YtbipipbfiekbgaaDoor.PlainHeavy Go.Proofs.YtbipipbfiekbgaaDoor.PlainCheck
set_option linter.unusedVariables false
set_option linter.unusedSimpArgs false

def inB (n most : Int) : Bool := decide (0 ≤ n ∧ n < most)
theorem below_eq (n most : Int) : mach_below.f n most = some (inB n most) := by
  unfold mach_below.f inB
  by_cases c : n ≥ 0
  · rw [if_pos c]
    congr 1
    apply decide_eq_decide.2
    omega
  · rw [if_neg c, decide_eq_false (by omega)]
theorem in_eq (n most : Int) : cubbyref13_in.f n most = some (inB n most) := by
  unfold cubbyref13_in.f inB
  by_cases c : n ≥ 0
  · rw [if_pos c]
    congr 1
    apply decide_eq_decide.2
    omega
  · rw [if_neg c, decide_eq_false (by omega)]
/-- The error of an instruction of code. -/
def machE (rg sl nb op d a b : Int) (nm : ByteArray) (args : List Int) (last : Bool) : Int :=
  if op = 21 ∨ op = 22 then (if last = true ∨ b ≠ 0 ∨ nm.toList ≠ ([] : List UInt8) ∨ 0 < args.length then 72 else if (inB (if op = 21 then d else a) rg && inB (if op = 21 then a else d) sl) = true then 0 else 73)
  else if op = 11 then (if last = true ∨ d ≠ 0 ∨ b ≠ 0 ∨ 0 < args.length then 72 else if nameOk nm = true then (if inB a 5 = true then 0 else 192) else 70)
  else oneE rg nb op d a b nm args last

section
variable (pn : ByteArray) (pp rg sl : Int) (bs : List (List SIns)) (op d a b : Int) (nm : ByteArray) (args : List Int)
/-- The reference's answer. -/
theorem ref_j1 (hop : op = 21 ∨ op = 22) (B : Bool) : Ev (fun k => cubbyref13_one.j1 k B op d a b nm args pn pp rg sl bs) (if B = true then 72 else if (inB (if op = 21 then d else a) rg && inB (if op = 21 then a else d) sl) = true then 0 else 73) := by
  cases B
  · rw [if_neg Bool.false_ne_true]
    by_cases c : op = 21
    · rw [if_pos c, if_pos c]
      cases h1 : inB d rg
      · exact Ev.step (f := fun _ => some _) (fun k => by simp only [cubbyref13_one.j1]; rw [if_neg Bool.false_ne_true, if_pos c, in_eq, Option.bind_some, h1, if_neg Bool.false_ne_true]; rfl) (Ev.now _)
      · cases h2 : inB a sl
        · exact Ev.step (f := fun _ => some _) (fun k => by simp only [cubbyref13_one.j1]; rw [if_neg Bool.false_ne_true, if_pos c, in_eq, Option.bind_some, h1, if_pos rfl, in_eq, Option.bind_some, h2, if_neg Bool.false_ne_true]; rfl) (Ev.now _)
        · exact Ev.step (f := fun _ => some _) (fun k => by simp only [cubbyref13_one.j1]; rw [if_neg Bool.false_ne_true, if_pos c, in_eq, Option.bind_some, h1, if_pos rfl, in_eq, Option.bind_some, h2, if_pos rfl, if_neg (by omega)]; rfl) (Ev.now _)
    · have c2 : op = 22 := by omega
      rw [if_neg c, if_neg c]
      cases h1 : inB d sl
      · rw [Bool.and_false]
        exact Ev.step (f := fun _ => some _) (fun k => by simp only [cubbyref13_one.j1]; rw [if_neg Bool.false_ne_true, if_neg c, if_pos c2, in_eq, Option.bind_some, h1, if_neg Bool.false_ne_true]; rfl) (Ev.now _)
      · rw [Bool.and_true]
        cases h2 : inB a rg
        · exact Ev.step (f := fun _ => some _) (fun k => by simp only [cubbyref13_one.j1]; rw [if_neg Bool.false_ne_true, if_neg c, if_pos c2, in_eq, Option.bind_some, h1, if_pos rfl, in_eq, Option.bind_some, h2, if_neg Bool.false_ne_true]; rfl) (Ev.now _)
        · exact Ev.step (f := fun _ => some _) (fun k => by simp only [cubbyref13_one.j1]; rw [if_neg Bool.false_ne_true, if_neg c, if_pos c2, in_eq, Option.bind_some, h1, if_pos rfl, in_eq, Option.bind_some, h2, if_pos rfl]; rfl) (Ev.now _)
  · rw [if_pos rfl]
    exact Ev.step (f := fun _ => some _) (fun k => by simp only [cubbyref13_one.j1]; rw [if_pos trivial]) (Ev.now _)
theorem ref_j2 (B : Bool) : Ev (fun k => cubbyref13_one.j2 k B op d a b nm args) (if B = true then 72 else if nameOk nm = true then (if inB a 5 = true then 0 else 192) else 70) := by
  cases B
  · rw [if_neg Bool.false_ne_true]
    refine Ev.step (fun k => by simp only [cubbyref13_one.j2]; rw [if_neg Bool.false_ne_true]) (Ev.bind (refname_ev nm) ?_)
    cases nameOk nm
    · exact Ev.congr (f := fun _ => some _) (fun k => by rw [if_neg Bool.false_ne_true]; rfl) (Ev.now _)
    · rw [if_pos rfl]
      cases h : inB a 5
      · exact Ev.congr (f := fun _ => some _) (fun k => by rw [if_pos rfl, in_eq, Option.bind_some, h, if_neg Bool.false_ne_true]; rfl) (Ev.now _)
      · exact Ev.congr (f := fun _ => some _) (fun k => by rw [if_pos rfl, in_eq, Option.bind_some, h, if_pos rfl]; rfl) (Ev.now _)
  · rw [if_pos rfl]
    exact Ev.step (f := fun _ => some _) (fun k => by simp only [cubbyref13_one.j2]; rw [if_pos trivial]) (Ev.now _)
theorem refmach_ev (ha : args.length ≤ 17592186043904) (last : Bool) : Ev (fun k => cubbyref13_one.f k op d a b nm args pn pp rg sl bs last) (machE rg sl (bs.length : Int) op d a b nm args last) := by
  have h0 : Ev (fun k => cubbyref13_one.j0 k last op (decide (op = 21 ∨ op = 22)) op d a b nm args pn pp rg sl bs) (machE rg sl (bs.length : Int) op d a b nm args last) := by
    unfold machE
    by_cases c : op = 21 ∨ op = 22
    · rw [if_pos c, decide_eq_true c]
      have hj := fun B => ref_j1 pn pp rg sl bs op d a b nm args c B
      by_cases c1 : last = true
      · rw [if_pos (.inl c1)]
        have := hj true
        rw [if_pos rfl] at this
        exact Ev.step (fun k => by simp only [cubbyref13_one.j0]; rw [if_pos trivial, if_pos c1]) this
      by_cases c2 : b = 0
      · by_cases c3 : nm.toList = ([] : List UInt8)
        · by_cases c4 : (args.length : Int) > 0
          · rw [if_pos (.inr (.inr (.inr (by omega))))]
            have := hj true
            rw [if_pos rfl] at this
            exact Ev.step (fun k => by simp only [cubbyref13_one.j0]; rw [if_pos trivial, if_neg c1, if_pos c2, if_pos c3, decide_eq_true c4]) this
          · rw [if_neg (fun h => by rcases h with h | h | h | h <;> first | exact c1 h | exact h c2 | exact h c3 | omega)]
            have := hj false
            rw [if_neg Bool.false_ne_true] at this
            exact Ev.step (fun k => by simp only [cubbyref13_one.j0]; rw [if_pos trivial, if_neg c1, if_pos c2, if_pos c3, decide_eq_false c4]) this
        · rw [if_pos (.inr (.inr (.inl c3)))]
          have := hj true
          rw [if_pos rfl] at this
          exact Ev.step (fun k => by simp only [cubbyref13_one.j0]; rw [if_pos trivial, if_neg c1, if_pos c2, if_neg c3]) this
      · rw [if_pos (.inr (.inl c2))]
        have := hj true
        rw [if_pos rfl] at this
        exact Ev.step (fun k => by simp only [cubbyref13_one.j0]; rw [if_pos trivial, if_neg c1, if_neg c2]) this
    · rw [if_neg c, decide_eq_false c]
      by_cases e : op = 11
      · rw [if_pos e]
        have hj := fun B => ref_j2 op d a b nm args B
        by_cases c1 : last = true
        · rw [if_pos (.inl c1)]
          have := hj true
          rw [if_pos rfl] at this
          exact Ev.step (fun k => by simp only [cubbyref13_one.j0]; rw [if_neg Bool.false_ne_true, if_pos e, if_pos c1]) this
        by_cases c2 : d = 0
        · by_cases c3 : b = 0
          · by_cases c4 : (args.length : Int) > 0
            · rw [if_pos (.inr (.inr (.inr (by omega))))]
              have := hj true
              rw [if_pos rfl] at this
              exact Ev.step (fun k => by simp only [cubbyref13_one.j0]; rw [if_neg Bool.false_ne_true, if_pos e, if_neg c1, if_pos c2, if_pos c3, decide_eq_true c4]) this
            · rw [if_neg (fun h => by rcases h with h | h | h | h <;> first | exact c1 h | exact h c2 | exact h c3 | omega)]
              have := hj false
              rw [if_neg Bool.false_ne_true] at this
              exact Ev.step (fun k => by simp only [cubbyref13_one.j0]; rw [if_neg Bool.false_ne_true, if_pos e, if_neg c1, if_pos c2, if_pos c3, decide_eq_false c4]) this
          · rw [if_pos (.inr (.inr (.inl c3)))]
            have := hj true
            rw [if_pos rfl] at this
            exact Ev.step (fun k => by simp only [cubbyref13_one.j0]; rw [if_neg Bool.false_ne_true, if_pos e, if_neg c1, if_pos c2, if_neg c3]) this
        · rw [if_pos (.inr (.inl c2))]
          have := hj true
          rw [if_pos rfl] at this
          exact Ev.step (fun k => by simp only [cubbyref13_one.j0]; rw [if_neg Bool.false_ne_true, if_pos e, if_neg c1, if_neg c2]) this
      · rw [if_neg e]
        exact Ev.step (fun k => by simp only [cubbyref13_one.j0]; rw [if_neg Bool.false_ne_true, if_neg e]) (Ev.bind (refone_ev op d a b nm args ha rg (bs.length : Int) last) (Ev.now _))
  by_cases c : op = 21
  · rw [decide_eq_true (.inl c)] at h0
    exact Ev.congr (fun k => by unfold cubbyref13_one.f; rw [if_pos c, show (op == 21) = true by rw [c]; rfl]) h0
  · refine Ev.congr (fun k => ?_) h0
    unfold cubbyref13_one.f
    rw [if_neg c]
    congr 1
    rw [Bool.eq_iff_iff, beq_iff_eq, decide_eq_true_iff]
    omega
end

/-! ### the program's -/
theorem jump_ok (rg : Int) : insE rg 1 ⟨12, 0, 0, 0, ⟨#[]⟩, []⟩ true = 0 := by
  show oneE rg 1 12 0 0 0 ⟨#[]⟩ [] true = 0
  unfold oneE
  rw [if_pos ⟨by omega, by decide, by decide +kernel⟩]
  unfold e1
  rw [if_neg (by
    rintro (⟨h, _⟩ | h)
    · unfold hasD at h
      omega
    · exact absurd h (by simp [uses]))]
  unfold e2
  rw [if_neg (by omega)]
  unfold e3
  rw [if_neg (by
    have : (targets7 12 0 0 0).any (oddReg 1) = false := by decide
    rw [this]
    simp)]
  unfold e4
  rw [if_neg (by omega)]
  unfold e5
  rw [if_neg (by omega)]
/-- A block's number led to the first block, or nowhere. -/
def toB (nb n : Int) : Int := if 0 ≤ n ∧ n < nb then 0 else -1
theorem odd_to (nb n : Int) : oddReg 1 (toB nb n) = oddReg nb n := by
  unfold oddReg toB
  apply decide_eq_decide.2
  split <;> omega
theorem name_f : nameOk ⟨#[102]⟩ = true := by decide +kernel
theorem check_one {rg : Int} (h0 : 0 ≤ rg) (h1 : rg ≤ 64) (x : SIns) : checkE ⟨#[102]⟩ 0 rg [[x]] = insE rg 1 x true := by
  unfold checkE
  rw [name_f, if_pos rfl, if_pos ⟨by omega, by omega, h0, h1, by simp, by simp, by unfold fits; apply decide_eq_true; exact ⟨by simp, by simp [total]⟩⟩]
  show allE rg 1 [[x]] = _
  simp only [allE, rowE, List.isEmpty_nil]
  by_cases c : insE rg 1 x true = 0
  · simp [c]
  · simp [c]
theorem check_two {rg : Int} (h0 : 0 ≤ rg) (h1 : rg ≤ 64) (x : SIns) : checkE ⟨#[102]⟩ 0 rg [[x, ⟨12, 0, 0, 0, ⟨#[]⟩, []⟩]] = insE rg 1 x false := by
  unfold checkE
  rw [name_f, if_pos rfl, if_pos ⟨by omega, by omega, h0, h1, by simp, by simp, by unfold fits; apply decide_eq_true; exact ⟨by simp, by simp [total]⟩⟩]
  show allE rg 1 [[x, _]] = _
  have hj := jump_ok rg
  simp only [allE, rowE, List.isEmpty_nil, List.isEmpty_cons]
  by_cases c : insE rg 1 x false = 0
  · simp [c, hj]
  · simp [c]
/-- The answer hangs on how many blocks there are by the targets alone. -/
theorem lead (rg nb op d a b : Int) (nm : ByteArray) (args : List Int) (last : Bool) :
    oneE rg 1 op (if op = 13 then toB nb d else d) (if op = 12 then toB nb a else a) (if op = 13 then toB nb b else b) nm args last = oneE rg nb op d a b nm args last := by
  by_cases c : op = 13
  · subst c
    simp only [if_true, if_neg (show ¬ (13 : Int) = 12 by omega)]
    have hb : bareP 13 (toB nb d) a (toB nb b) nm args ↔ bareP 13 d a b nm args := by
      unfold bareP
      simp
    have hu : uses 13 a (toB nb b) args = uses 13 a b args := by
      unfold uses
      simp
    have ht : (targets7 13 (toB nb d) a (toB nb b)).any (oddReg 1) = (targets7 13 d a b).any (oddReg nb) := by
      unfold targets7
      simp [odd_to]
    unfold oneE
    by_cases h : (1 ≤ (13 : Int) ∧ (13 : Int) ≤ 14) ∧ lastOp 13 = last ∧ bareP 13 d a b nm args
    · rw [if_pos h, if_pos ⟨h.1, h.2.1, hb.2 h.2.2⟩]
      unfold e1 e2 e3
      rw [hu, ht]
      have hd : ¬ hasD 13 := by unfold hasD; omega
      simp [hd]
    · rw [if_neg h, if_neg (fun h' => h ⟨h'.1, h'.2.1, hb.1 h'.2.2⟩)]
  · by_cases c2 : op = 12
    · subst c2
      simp only [if_true, if_neg (show ¬ (12 : Int) = 13 by omega)]
      have hb : bareP 12 d (toB nb a) b nm args ↔ bareP 12 d a b nm args := by
        unfold bareP
        simp
      have hu : uses 12 (toB nb a) b args = uses 12 a b args := by
        unfold uses
        simp
      have ht : (targets7 12 d (toB nb a) b).any (oddReg 1) = (targets7 12 d a b).any (oddReg nb) := by
        unfold targets7
        simp [odd_to]
      unfold oneE
      by_cases h : (1 ≤ (12 : Int) ∧ (12 : Int) ≤ 14) ∧ lastOp 12 = last ∧ bareP 12 d a b nm args
      · rw [if_pos h, if_pos ⟨h.1, h.2.1, hb.2 h.2.2⟩]
        unfold e1 e2 e3
        rw [hu, ht]
        simp
      · rw [if_neg h, if_neg (fun h' => h ⟨h'.1, h'.2.1, hb.1 h'.2.2⟩)]
    · rw [if_neg c, if_neg c2, if_neg c]
      have ht : ∀ m, (targets7 op d a b).any (oddReg m) = false := by
        intro m
        unfold targets7
        rw [if_neg c2, if_neg c]
        rfl
      unfold oneE e1 e2 e3
      rw [ht, ht]
end Go.Proofs.YtbipipbfiekbgaaDoor.PlainMachOne
/- One instruction of code: the program's answer. -/
namespace Go.Proofs.YtbipipbfiekbgaaDoor.PlainMachOne
open Go Go.RowKit Go.Proofs.YtbipipbfiekbgaaDoorW.PrintWords Go.Proofs.YtbipipbfiekbgaaDoorW.PrintMore Go.Proofs.YtbipipbfiekbgaaDoor.Q Go.Proofs.YtbipipbfiekbgaaDoor.Plain Go.Proofs.YtbipipbfiekbgaaDoor.PlainIr Go.Proofs.YtbipipbfiekbgaaDoor.PlainName Go.Proofs.YtbipipbfiekbgaaDoor.PlainOne Go.Proofs.YtbipipbfiekbgaaDoor.PlainHeavy Go.Proofs.YtbipipbfiekbgaaDoor.PlainCheck
set_option linter.unusedVariables false
set_option linter.unusedSimpArgs false
section
variable (pn : ByteArray) (pp rg sl : Int) (bs : List (List SIns)) (op d a b : Int) (nm : ByteArray) (args : List Int)
theorem own_j1 (reg slot : Int) (B : Bool) : Ev (fun k => mach_one.j1 k reg slot B pn pp rg sl bs) (if B = true then 72 else if (inB reg rg && inB slot sl) = true then 0 else 73) := by
  cases B
  · rw [if_neg Bool.false_ne_true]
    cases h1 : inB reg rg
    · exact Ev.step (f := fun _ => some _) (fun k => by simp only [mach_one.j1]; rw [if_neg Bool.false_ne_true, below_eq, Option.bind_some, h1, if_neg Bool.false_ne_true]; rfl) (Ev.now _)
    · cases h2 : inB slot sl
      · exact Ev.step (f := fun _ => some _) (fun k => by simp only [mach_one.j1]; rw [if_neg Bool.false_ne_true, below_eq, Option.bind_some, h1, if_pos rfl, below_eq, Option.bind_some, h2, if_neg Bool.false_ne_true]; rfl) (Ev.now _)
      · exact Ev.step (f := fun _ => some _) (fun k => by simp only [mach_one.j1]; rw [if_neg Bool.false_ne_true, below_eq, Option.bind_some, h1, if_pos rfl, below_eq, Option.bind_some, h2, if_pos rfl]; rfl) (Ev.now _)
  · rw [if_pos rfl]
    exact Ev.step (f := fun _ => some _) (fun k => by simp only [mach_one.j1]; rw [if_pos trivial]) (Ev.now _)
theorem own_j0 (reg slot : Int) (last : Bool) : Ev (fun k => mach_one.j0 k last reg slot pn pp rg sl bs op d a b nm args) (if last = true ∨ b ≠ 0 ∨ nm.toList ≠ ([] : List UInt8) ∨ 0 < args.length then 72 else if (inB reg rg && inB slot sl) = true then 0 else 73) := by
  have hj := fun B => own_j1 pn pp rg sl bs reg slot B
  by_cases c1 : last = true
  · rw [if_pos (.inl c1)]
    have := hj true
    rw [if_pos rfl] at this
    exact Ev.step (fun k => by simp only [mach_one.j0]; rw [if_pos c1]) this
  by_cases c2 : b = 0
  · by_cases c3 : nm.toList = ([] : List UInt8)
    · by_cases c4 : (args.length : Int) > 0
      · rw [if_pos (.inr (.inr (.inr (by omega))))]
        have := hj true
        rw [if_pos rfl] at this
        exact Ev.step (fun k => by simp only [mach_one.j0]; rw [if_neg c1, if_pos c2, if_pos c3, decide_eq_true c4]) this
      · rw [if_neg (fun h => by rcases h with h | h | h | h <;> first | exact c1 h | exact h c2 | exact h c3 | omega)]
        have := hj false
        rw [if_neg Bool.false_ne_true] at this
        exact Ev.step (fun k => by simp only [mach_one.j0]; rw [if_neg c1, if_pos c2, if_pos c3, decide_eq_false c4]) this
    · rw [if_pos (.inr (.inr (.inl c3)))]
      have := hj true
      rw [if_pos rfl] at this
      exact Ev.step (fun k => by simp only [mach_one.j0]; rw [if_neg c1, if_pos c2, if_neg c3]) this
  · rw [if_pos (.inr (.inl c2))]
    have := hj true
    rw [if_pos rfl] at this
    exact Ev.step (fun k => by simp only [mach_one.j0]; rw [if_neg c1, if_neg c2]) this
theorem own_j2 (B : Bool) : Ev (fun k => mach_one.j2 k B op d a b nm args) (if B = true then 72 else if nameOk nm = true then (if inB a 5 = true then 0 else 192) else 70) := by
  cases B
  · rw [if_neg Bool.false_ne_true]
    cases hn : nameOk nm
    · exact Ev.step (f := fun _ => some _) (fun k => by simp only [mach_one.j2]; rw [if_neg Bool.false_ne_true, name_eq, Option.bind_some, hn, if_neg Bool.false_ne_true]; rfl) (Ev.now _)
    · rw [if_pos rfl]
      cases h : inB a 5
      · exact Ev.step (f := fun _ => some _) (fun k => by simp only [mach_one.j2]; rw [if_neg Bool.false_ne_true, name_eq, Option.bind_some, hn, if_pos rfl, below_eq, Option.bind_some, h, if_neg Bool.false_ne_true]; rfl) (Ev.now _)
      · exact Ev.step (f := fun _ => some _) (fun k => by simp only [mach_one.j2]; rw [if_neg Bool.false_ne_true, name_eq, Option.bind_some, hn, if_pos rfl, below_eq, Option.bind_some, h, if_pos rfl]; rfl) (Ev.now _)
  · rw [if_pos rfl]
    exact Ev.step (f := fun _ => some _) (fun k => by simp only [mach_one.j2]; rw [if_pos trivial]) (Ev.now _)
theorem to_eq (n : Int) : mach_one_1.f pn pp rg sl bs n = some (toB (bs.length : Int) n) := rfl
/-- The instruction as the first, or the last one, of a function of one block. -/
theorem tail_ev {rg : Int} (h0 : 0 ≤ rg) (h1 : rg ≤ 64) (x : SIns) (hx : x.f5.length ≤ 17592186043904) (last : Bool) (F : Nat → Option Int) (hF : ∀ k, F k = if last = true then ((ir_Check.f k (⟨#[102]⟩ : ByteArray) 0 rg (([[x]] : List (List (SIns))))).bind fun t => (some t)) else (if ([x] : List SIns).length < 1954687338268 then ((ir_Check.f k (⟨#[102]⟩ : ByteArray) 0 rg (([([x] ++ [(⟨12, 0, 0, 0, (⟨#[]⟩ : ByteArray), ([] : List Int)⟩ : SIns)])] : List (List (SIns))))).bind fun t => (some t)) else (none))) :
    Ev F (insE rg 1 x last) := by
  cases last
  · have hc := check_ev (⟨#[102]⟩ : ByteArray) 0 rg [[x, ⟨12, 0, 0, 0, ⟨#[]⟩, []⟩]] ⟨by simp, by simp, by
      intro r hr y hy
      obtain rfl := List.mem_singleton.1 hr
      rcases List.mem_cons.1 hy with rfl | hy
      · exact hx
      · obtain rfl := List.mem_singleton.1 hy
        simp⟩
    rw [check_two h0 h1] at hc
    exact Ev.congr (fun k => by rw [hF, if_neg Bool.false_ne_true, if_pos (by simp)]; rfl) (Ev.bind hc (Ev.now _))
  · have hc := check_ev (⟨#[102]⟩ : ByteArray) 0 rg [[x]] ⟨by simp, by simp, by
      intro r hr y hy
      obtain rfl := List.mem_singleton.1 hr
      obtain rfl := List.mem_singleton.1 hy
      exact hx⟩
    rw [check_one h0 h1] at hc
    exact Ev.congr (fun k => by rw [hF, if_pos rfl]) (Ev.bind hc (Ev.now _))
theorem mach_ev (h0 : 0 ≤ rg) (h1 : rg ≤ 64) (ha : args.length ≤ 17592186043904) (last : Bool) : Ev (fun k => mach_one.f k pn pp rg sl bs op d a b nm args last) (machE rg sl (bs.length : Int) op d a b nm args last) := by
  have hl := lead rg (bs.length : Int) op d a b nm args last
  unfold machE
  by_cases c22 : op = 22
  · have hj := own_j0 pn pp rg sl bs op d a b nm args a d last
    rw [if_pos (.inr c22), if_neg (show ¬ op = 21 by omega), if_neg (show ¬ op = 21 by omega)]
    exact Ev.congr (fun k => by unfold mach_one.f; rw [if_pos c22]) hj
  by_cases c21 : op = 21
  · have hj := own_j0 pn pp rg sl bs op d a b nm args d a last
    rw [if_pos (.inl c21), if_pos c21, if_pos c21]
    exact Ev.congr (fun k => by unfold mach_one.f; rw [if_neg c22, if_pos c21]) hj
  rw [if_neg (by omega)]
  by_cases e : op = 11
  · rw [if_pos e]
    have hj := fun B => own_j2 op d a b nm args B
    by_cases c1 : last = true
    · rw [if_pos (.inl c1)]
      have := hj true
      rw [if_pos rfl] at this
      exact Ev.congr (fun k => by unfold mach_one.f; rw [if_neg c22, if_neg c21, if_pos e, if_pos c1]) this
    by_cases c2 : d = 0
    · by_cases c3 : b = 0
      · by_cases c4 : (args.length : Int) > 0
        · rw [if_pos (.inr (.inr (.inr (by omega))))]
          have := hj true
          rw [if_pos rfl] at this
          exact Ev.congr (fun k => by unfold mach_one.f; rw [if_neg c22, if_neg c21, if_pos e, if_neg c1, if_pos c2, if_pos c3, decide_eq_true c4]) this
        · rw [if_neg (fun h => by rcases h with h | h | h | h <;> first | exact c1 h | exact h c2 | exact h c3 | omega)]
          have := hj false
          rw [if_neg Bool.false_ne_true] at this
          exact Ev.congr (fun k => by unfold mach_one.f; rw [if_neg c22, if_neg c21, if_pos e, if_neg c1, if_pos c2, if_pos c3, decide_eq_false c4]) this
      · rw [if_pos (.inr (.inr (.inl c3)))]
        have := hj true
        rw [if_pos rfl] at this
        exact Ev.congr (fun k => by unfold mach_one.f; rw [if_neg c22, if_neg c21, if_pos e, if_neg c1, if_pos c2, if_neg c3]) this
    · rw [if_pos (.inr (.inl c2))]
      have := hj true
      rw [if_pos rfl] at this
      exact Ev.congr (fun k => by unfold mach_one.f; rw [if_neg c22, if_neg c21, if_pos e, if_neg c1, if_neg c2]) this
  rw [if_neg e]
  by_cases c13 : op = 13
  · rw [if_pos c13, if_neg (show ¬ op = 12 by omega), if_pos c13] at hl
    rw [← hl]
    exact tail_ev h0 h1 ⟨op, toB (bs.length : Int) d, a, toB (bs.length : Int) b, nm, args⟩ ha last _ (fun k => by unfold mach_one.f; rw [if_neg c22, if_neg c21, if_neg e, if_pos c13, to_eq, Option.bind_some, to_eq, Option.bind_some, Option.bind_some])
  · rw [if_neg c13, if_neg c13] at hl
    by_cases c12 : op = 12
    · rw [if_pos c12] at hl
      rw [← hl]
      exact tail_ev h0 h1 ⟨op, d, toB (bs.length : Int) a, b, nm, args⟩ ha last _ (fun k => by unfold mach_one.f; rw [if_neg c22, if_neg c21, if_neg e, if_neg c13, if_pos c12, to_eq, Option.bind_some, Option.bind_some])
    · rw [if_neg c12] at hl
      rw [← hl]
      exact tail_ev h0 h1 ⟨op, d, a, b, nm, args⟩ ha last _ (fun k => by unfold mach_one.f; rw [if_neg c22, if_neg c21, if_neg e, if_neg c13, if_neg c12, Option.bind_some])
end
end Go.Proofs.YtbipipbfiekbgaaDoor.PlainMachOne
/- What may be code: both texts' checks come to one plain function; and the bound of layer 13. -/
namespace Go.Proofs.YtbipipbfiekbgaaDoor.PlainMachCheck
open Go Go.RowKit Go.Proofs.YtbipipbfiekbgaaDoorW.PrintWords Go.Proofs.YtbipipbfiekbgaaDoorW.PrintMore Go.Proofs.YtbipipbfiekbgaaDoor.Q Go.Proofs.YtbipipbfiekbgaaDoor.Plain Go.Proofs.YtbipipbfiekbgaaDoor.PlainName Go.Proofs.YtbipipbfiekbgaaDoor.PlainOne Go.Proofs.YtbipipbfiekbgaaDoor.PlainHeavy Go.Proofs.YtbipipbfiekbgaaDoor.PlainCheck Go.Proofs.YtbipipbfiekbgaaDoor.PlainMachOne
set_option linter.unusedVariables false
set_option linter.unusedSimpArgs false

def mIns (rg sl nb : Int) (x : SIns) (last : Bool) : Int := machE rg sl nb x.f0 x.f1 x.f2 x.f3 x.f4 x.f5 last
def rowM (rg sl nb : Int) : List SIns → Int
  | [] => 0
  | x :: xs => if mIns rg sl nb x xs.isEmpty = 0 then rowM rg sl nb xs else mIns rg sl nb x xs.isEmpty
def allM (rg sl nb : Int) : List (List SIns) → Int
  | [] => 0
  | b :: bs => if rowM rg sl nb b = 0 then allM rg sl nb bs else rowM rg sl nb b
def shapeM (pp rg sl : Int) (bs : List (List SIns)) : Prop := (0 ≤ pp ∧ pp < 5) ∧ 6 ≤ rg ∧ rg ≤ 16 ∧ (0 ≤ sl ∧ sl < 65) ∧ 1 ≤ bs.length ∧ bs.length ≤ 33 ∧ fits 1600 bs = true
instance (pp rg sl : Int) (bs : List (List SIns)) : Decidable (shapeM pp rg sl bs) := by unfold shapeM; infer_instance
def codeE (pn : ByteArray) (pp rg sl : Int) (bs : List (List SIns)) : Int := if nameOk pn = true then (if shapeM pp rg sl bs then allM rg sl (bs.length : Int) bs else 71) else 70
section
variable (pn : ByteArray) (pp rg sl : Int) (bs : List (List SIns)) (hF : FairB bs)
include hF
/-! ### the reference -/
theorem ref_row (i : Nat) (hi : i < bs.length) (R : Int) (h : Ev (fun k => cubbyref13_Check.l1 k ((i + 1 : Nat) : Int) pn pp rg sl bs) R) : ∀ (d j : Nat), bs[i].length - j = d → j ≤ bs[i].length → Ev (fun k => cubbyref13_Check.l2 k (i : Int) (j : Int) pn pp rg sl bs) (if rowM rg sl (bs.length : Int) (bs[i].drop j) = 0 then R else rowM rg sl (bs.length : Int) (bs[i].drop j)) := by
  have hlen := hF.len
  have hr := hF.row _ (List.getElem_mem hi)
  have hg := rdL_get hi
  intro d
  induction d with
  | zero =>
    intro j hd hj
    rw [List.drop_eq_nil_of_le (by omega)]
    unfold rowM
    rw [if_pos rfl]
    exact Ev.step (fun k => by simp only [cubbyref13_Check.l2]; rw [if_pos (by omega), if_pos (by omega), hg, if_neg (by omega), wrap_nat (by omega)]) h
  | succ d ih =>
    intro j hd hj
    have hlt : j < bs[i].length := by omega
    have hx := hF.ins _ (List.getElem_mem hi) _ (List.getElem_mem hlt)
    rw [drop_cons hlt]
    unfold rowM
    have h1 := refmach_ev pn pp rg sl bs bs[i][j].f0 bs[i][j].f1 bs[i][j].f2 bs[i][j].f3 bs[i][j].f4 bs[i][j].f5 hx (bs[i].drop (j + 1)).isEmpty
    refine Ev.step (fun k => by simp only [cubbyref13_Check.l2]; rw [if_pos (by omega), if_pos (by omega), hg, if_pos (by omega), if_pos (by omega), rdT_get hlt, last_eq' hlt (by omega)]) (Ev.bind h1 ?_)
    show Ev (fun n => if mIns rg sl (bs.length : Int) bs[i][j] (bs[i].drop (j + 1)).isEmpty = 0 then _ else some (mIns rg sl (bs.length : Int) bs[i][j] (bs[i].drop (j + 1)).isEmpty)) _
    by_cases c : mIns rg sl (bs.length : Int) bs[i][j] (bs[i].drop (j + 1)).isEmpty = 0
    · rw [if_pos c]
      exact Ev.congr (fun k => by rw [if_pos c, wrap_nat (by omega)]) (ih (j + 1) (by omega) (by omega))
    · rw [if_neg c, if_neg c]
      exact Ev.congr (f := fun _ => some _) (fun k => by rw [if_neg c]) (Ev.now _)
theorem ref_all : ∀ (d i : Nat), bs.length - i = d → i ≤ bs.length → Ev (fun k => cubbyref13_Check.l1 k (i : Int) pn pp rg sl bs) (allM rg sl (bs.length : Int) (bs.drop i)) := by
  intro d
  induction d with
  | zero =>
    intro i hd hi
    rw [List.drop_eq_nil_of_le (by omega)]
    exact Ev.step (f := fun _ => some 0) (fun k => by simp only [cubbyref13_Check.l1]; rw [if_neg (by omega)]) (Ev.now _)
  | succ d ih =>
    intro i hd hi
    have hlt : i < bs.length := by omega
    rw [drop_cons hlt]
    unfold allM
    have := ref_row pn pp rg sl bs hF i hlt _ (ih (i + 1) (by omega) (by omega)) bs[i].length 0 (by omega) (by omega)
    rw [List.drop_zero] at this
    exact Ev.step (fun k => by simp only [cubbyref13_Check.l1]; rw [if_pos (by omega)]; rfl) this
theorem ref_fits : ∀ (d i : Nat), bs.length - i = d → i ≤ bs.length → ∀ n : Nat, n ≤ 1600 * i → Ev (fun k => cubbyref13_Check.l0 k (n : Int) (i : Int) pn pp rg sl bs) (if fits (1600 - (n : Int)) (bs.drop i) = true then allM rg sl (bs.length : Int) bs else 71) := by
  have hlen := hF.len
  intro d
  induction d with
  | zero =>
    intro i hd hi n hn
    rw [List.drop_eq_nil_of_le (by omega)]
    have hall := ref_all pn pp rg sl bs hF bs.length 0 (by omega) (by omega)
    by_cases c : (n : Int) > 1600
    · rw [fits_neg (by omega), if_neg Bool.false_ne_true]
      exact Ev.step (f := fun _ => some 71) (fun k => by simp only [cubbyref13_Check.l0]; rw [if_neg (by omega), if_pos c]) (Ev.now _)
    · rw [fits_nil (by omega), if_pos rfl]
      exact Ev.step (fun k => by simp only [cubbyref13_Check.l0]; rw [if_neg (by omega), if_neg c]; rfl) hall
  | succ d ih =>
    intro i hd hi n hn
    have hlt : i < bs.length := by omega
    rw [drop_cons hlt, fits_cons]
    by_cases c : ((bs[i]).length : Int) = 0
    · rw [decide_eq_false (by omega), Bool.false_and, if_neg Bool.false_ne_true]
      exact Ev.step (f := fun _ => some 71) (fun k => by simp only [cubbyref13_Check.l0]; rw [if_pos (by omega), if_pos (by omega), rdL_get hlt, if_pos c]) (Ev.now _)
    · by_cases c1 : ((bs[i]).length : Int) > 1600
      · rw [fits_neg (by omega), Bool.and_false, if_neg Bool.false_ne_true]
        exact Ev.step (f := fun _ => some 71) (fun k => by simp only [cubbyref13_Check.l0]; rw [if_pos (by omega), if_pos (by omega), rdL_get hlt, if_neg c, if_pos c1]) (Ev.now _)
      · rw [decide_eq_true (by omega), Bool.true_and]
        have := ih (i + 1) (by omega) (by omega) (n + (bs[i]).length) (by omega)
        rw [show (1600 : Int) - ((n + (bs[i]).length : Nat) : Int) = 1600 - (n : Int) - ((bs[i]).length : Int) by omega] at this
        refine Ev.step (fun k => ?_) this
        simp only [cubbyref13_Check.l0]
        rw [if_pos (by omega), if_pos (by omega), rdL_get hlt, if_neg c, if_neg c1, wrap_nat (by omega), wrap_id (by omega) (by omega)]
        rfl
theorem refcode_ev : Ev (fun k => cubbyref13_Check.f k pn pp rg sl bs) (codeE pn pp rg sl bs) := by
  unfold codeE
  refine Ev.bind (refname_ev pn) ?_
  cases nameOk pn
  · exact Ev.congr (f := fun _ => some 70) (fun k => by rw [if_neg Bool.false_ne_true]) (Ev.now _)
  refine Ev.congr (fun k => by rw [if_pos rfl, in_eq, Option.bind_some]) ?_
  rw [if_pos rfl]
  have hyes : ¬ shapeM pp rg sl bs → Ev (fun k => cubbyref13_Check.j0 k true pn pp rg sl bs) (if shapeM pp rg sl bs then allM rg sl (bs.length : Int) bs else 71) := fun h => by
    rw [if_neg h]
    exact Ev.step (f := fun _ => some 71) (fun k => by simp only [cubbyref13_Check.j0]; rw [if_pos trivial]) (Ev.now _)
  by_cases c0 : 0 ≤ pp ∧ pp < 5
  · have e0 : inB pp 5 = true := decide_eq_true c0
    refine Ev.congr (fun k => by rw [e0, if_pos rfl]) ?_
    by_cases c1 : rg < 6
    · exact Ev.congr (fun k => by rw [if_pos c1]) (hyes (fun h => by have := h.2.1; omega))
    by_cases c2 : rg > 16
    · exact Ev.congr (fun k => by rw [if_neg c1, if_pos c2]) (hyes (fun h => by have := h.2.2.1; omega))
    refine Ev.congr (fun k => by rw [if_neg c1, if_neg c2, in_eq, Option.bind_some]) ?_
    by_cases c3 : 0 ≤ sl ∧ sl < 65
    · have e3 : inB sl 65 = true := decide_eq_true c3
      refine Ev.congr (fun k => by rw [e3, if_pos rfl]) ?_
      by_cases c4 : (bs.length : Int) < 1
      · exact Ev.congr (fun k => by rw [if_pos c4]) (hyes (fun h => by have := h.2.2.2.2.1; omega))
      by_cases c5 : (bs.length : Int) > 33
      · exact Ev.congr (fun k => by rw [if_neg c4, decide_eq_true c5]) (hyes (fun h => by have := h.2.2.2.2.2.1; omega))
      refine Ev.congr (fun k => by rw [if_neg c4, decide_eq_false c5]) ?_
      have hl := ref_fits pn pp rg sl bs hF bs.length 0 (by omega) (by omega) 0 (by omega)
      rw [List.drop_zero, show (1600 : Int) - ((0 : Nat) : Int) = 1600 by omega] at hl
      refine Ev.step (fun k => by simp only [cubbyref13_Check.j0]; rw [if_neg Bool.false_ne_true]) ?_
      by_cases hf : fits 1600 bs = true
      · rw [if_pos hf] at hl
        rw [if_pos ⟨c0, by omega, by omega, c3, by omega, by omega, hf⟩]
        exact hl
      · rw [if_neg hf] at hl
        rw [if_neg (fun h => hf h.2.2.2.2.2.2)]
        exact hl
    · have e3 : inB sl 65 = false := decide_eq_false c3
      exact Ev.congr (fun k => by rw [e3, if_neg Bool.false_ne_true]) (hyes (fun h => c3 h.2.2.2.1))
  · have e0 : inB pp 5 = false := decide_eq_false c0
    exact Ev.congr (fun k => by rw [e0, if_neg Bool.false_ne_true]) (hyes (fun h => c0 h.1))
/-! ### mach.Check -/
section
variable (h0 : 0 ≤ rg) (h1 : rg ≤ 64)
include h0 h1
theorem own_row (i : Nat) (hi : i < bs.length) (R : Int) (h : Ev (fun k => mach_Check.l1 k bs (bs.length : Int) ((i + 1 : Nat) : Int) pn pp rg sl bs) R) : ∀ (d j : Nat), bs[i].length - j = d → j ≤ bs[i].length → Ev (fun k => mach_Check.l2 k bs[i] bs (bs.length : Int) (i : Int) bs[i] (bs[i].length : Int) (j : Int) pn pp rg sl bs) (if rowM rg sl (bs.length : Int) (bs[i].drop j) = 0 then R else rowM rg sl (bs.length : Int) (bs[i].drop j)) := by
  have hlen := hF.len
  have hr := hF.row _ (List.getElem_mem hi)
  intro d
  induction d with
  | zero =>
    intro j hd hj
    rw [List.drop_eq_nil_of_le (by omega)]
    unfold rowM
    rw [if_pos rfl]
    exact Ev.step (fun k => by simp only [mach_Check.l2]; rw [if_neg (by omega), wrap_nat (by omega)]) h
  | succ d ih =>
    intro j hd hj
    have hlt : j < bs[i].length := by omega
    have hx := hF.ins _ (List.getElem_mem hi) _ (List.getElem_mem hlt)
    rw [drop_cons hlt]
    unfold rowM
    have h2 := mach_ev pn pp rg sl bs bs[i][j].f0 bs[i][j].f1 bs[i][j].f2 bs[i][j].f3 bs[i][j].f4 bs[i][j].f5 h0 h1 hx (bs[i].drop (j + 1)).isEmpty
    refine Ev.step (fun k => by simp only [mach_Check.l2]; rw [if_pos (by omega), if_pos (by omega), if_pos (by omega), rdT_get hlt, last_eq' hlt (by omega)]) (Ev.bind h2 ?_)
    show Ev (fun n => if mIns rg sl (bs.length : Int) bs[i][j] (bs[i].drop (j + 1)).isEmpty = 0 then _ else some (mIns rg sl (bs.length : Int) bs[i][j] (bs[i].drop (j + 1)).isEmpty)) _
    by_cases c : mIns rg sl (bs.length : Int) bs[i][j] (bs[i].drop (j + 1)).isEmpty = 0
    · rw [if_pos c]
      exact Ev.congr (fun k => by rw [if_pos c, wrap_nat (by omega)]) (ih (j + 1) (by omega) (by omega))
    · rw [if_neg c, if_neg c]
      exact Ev.congr (f := fun _ => some _) (fun k => by rw [if_neg c]) (Ev.now _)
theorem own_all : ∀ (d i : Nat), bs.length - i = d → i ≤ bs.length → Ev (fun k => mach_Check.l1 k bs (bs.length : Int) (i : Int) pn pp rg sl bs) (allM rg sl (bs.length : Int) (bs.drop i)) := by
  intro d
  induction d with
  | zero =>
    intro i hd hi
    rw [List.drop_eq_nil_of_le (by omega)]
    exact Ev.step (f := fun _ => some 0) (fun k => by simp only [mach_Check.l1]; rw [if_neg (by omega)]) (Ev.now _)
  | succ d ih =>
    intro i hd hi
    have hlt : i < bs.length := by omega
    rw [drop_cons hlt]
    unfold allM
    refine Ev.step (fun k => by simp only [mach_Check.l1]; rw [if_pos (by omega), if_pos (by omega), if_pos (by omega), rdL_get hlt]) ?_
    have := own_row pn pp rg sl bs hF h0 h1 i hlt _ (ih (i + 1) (by omega) (by omega)) bs[i].length 0 (by omega) (by omega)
    rw [List.drop_zero] at this
    exact this
theorem own_fits : ∀ (d i : Nat), bs.length - i = d → i ≤ bs.length → ∀ left : Int, 0 ≤ left → left ≤ 1600 → Ev (fun k => mach_Check.l0 k left bs (bs.length : Int) (i : Int) pn pp rg sl bs) (if fits left (bs.drop i) = true then allM rg sl (bs.length : Int) bs else 71) := by
  have hlen := hF.len
  intro d
  induction d with
  | zero =>
    intro i hd hi left g0 g1
    rw [List.drop_eq_nil_of_le (by omega), fits_nil g0, if_pos rfl]
    have := own_all pn pp rg sl bs hF h0 h1 bs.length 0 (by omega) (by omega)
    exact Ev.step (fun k => by simp only [mach_Check.l0]; rw [if_neg (by omega)]; rfl) this
  | succ d ih =>
    intro i hd hi left g0 g1
    have hlt : i < bs.length := by omega
    rw [drop_cons hlt, fits_cons]
    by_cases c : ((bs[i]).length : Int) = 0
    · rw [decide_eq_false (by omega), Bool.false_and, if_neg Bool.false_ne_true]
      exact Ev.step (f := fun _ => some 71) (fun k => by simp only [mach_Check.l0]; rw [if_pos (by omega), if_pos (by omega), if_pos (by omega), rdL_get hlt, if_pos c]) (Ev.now _)
    · by_cases c1 : ((bs[i]).length : Int) > left
      · rw [fits_neg (by omega), Bool.and_false, if_neg Bool.false_ne_true]
        exact Ev.step (f := fun _ => some 71) (fun k => by simp only [mach_Check.l0]; rw [if_pos (by omega), if_pos (by omega), if_pos (by omega), rdL_get hlt, if_neg c, if_pos c1]) (Ev.now _)
      · rw [decide_eq_true (by omega), Bool.true_and]
        refine Ev.step (fun k => ?_) (ih (i + 1) (by omega) (by omega) (left - (bs[i]).length) (by omega) (by omega))
        simp only [mach_Check.l0]
        rw [if_pos (by omega), if_pos (by omega), if_pos (by omega), rdL_get hlt, if_neg c, if_neg c1, wrap_nat (by omega), wrap_id (by omega) (by omega)]
end
theorem code_ev : Ev (fun k => mach_Check.f k pn pp rg sl bs) (codeE pn pp rg sl bs) := by
  unfold codeE
  cases hn : nameOk pn
  · exact Ev.congr (f := fun _ => some 70) (fun k => by unfold mach_Check.f; rw [name_eq, Option.bind_some, hn, if_neg Bool.false_ne_true]) (Ev.now _)
  refine Ev.congr (fun k => by unfold mach_Check.f; rw [name_eq, Option.bind_some, hn, if_pos rfl, below_eq, Option.bind_some]) ?_
  rw [if_pos rfl]
  have hyes : ¬ shapeM pp rg sl bs → Ev (fun k => mach_Check.j0 k true pn pp rg sl bs) (if shapeM pp rg sl bs then allM rg sl (bs.length : Int) bs else 71) := fun h => by
    rw [if_neg h]
    exact Ev.step (f := fun _ => some 71) (fun k => by simp only [mach_Check.j0]; rw [if_pos trivial]) (Ev.now _)
  by_cases c0 : 0 ≤ pp ∧ pp < 5
  · have e0 : inB pp 5 = true := decide_eq_true c0
    refine Ev.congr (fun k => by rw [e0, if_pos rfl]) ?_
    by_cases c1 : rg < 6
    · exact Ev.congr (fun k => by rw [if_pos c1]) (hyes (fun h => by have := h.2.1; omega))
    by_cases c2 : rg > 16
    · exact Ev.congr (fun k => by rw [if_neg c1, if_pos c2]) (hyes (fun h => by have := h.2.2.1; omega))
    refine Ev.congr (fun k => by rw [if_neg c1, if_neg c2, below_eq, Option.bind_some]) ?_
    by_cases c3 : 0 ≤ sl ∧ sl < 65
    · have e3 : inB sl 65 = true := decide_eq_true c3
      refine Ev.congr (fun k => by rw [e3, if_pos rfl]) ?_
      by_cases c4 : (bs.length : Int) < 1
      · exact Ev.congr (fun k => by rw [if_pos c4]) (hyes (fun h => by have := h.2.2.2.2.1; omega))
      by_cases c5 : (bs.length : Int) > 33
      · exact Ev.congr (fun k => by rw [if_neg c4, decide_eq_true c5]) (hyes (fun h => by have := h.2.2.2.2.2.1; omega))
      refine Ev.congr (fun k => by rw [if_neg c4, decide_eq_false c5]) ?_
      have hl := own_fits pn pp rg sl bs hF (by omega) (by omega) bs.length 0 (by omega) (by omega) 1600 (by omega) (by omega)
      rw [List.drop_zero] at hl
      refine Ev.step (fun k => by simp only [mach_Check.j0]; rw [if_neg Bool.false_ne_true]) ?_
      by_cases hf : fits 1600 bs = true
      · rw [if_pos hf] at hl
        rw [if_pos ⟨c0, by omega, by omega, c3, by omega, by omega, hf⟩]
        exact hl
      · rw [if_neg hf] at hl
        rw [if_neg (fun h => hf h.2.2.2.2.2.2)]
        exact hl
    · have e3 : inB sl 65 = false := decide_eq_false c3
      exact Ev.congr (fun k => by rw [e3, if_neg Bool.false_ne_true]) (hyes (fun h => c3 h.2.2.2.1))
  · have e0 : inB pp 5 = false := decide_eq_false c0
    exact Ev.congr (fun k => by rw [e0, if_neg Bool.false_ne_true]) (hyes (fun h => c0 h.1))
end
end Go.Proofs.YtbipipbfiekbgaaDoor.PlainMachCheck
/- The law MachFuncs over lists and numbers. -/
namespace Go.Proofs.YtbipipbfiekbgaaDoor.RMachFuncs.Pure
open Go Go.RowKit Go.Proofs.YtbipipbfiekbgaaDoorW.PrintWords Go.Proofs.YtbipipbfiekbgaaDoor.Q Go.Proofs.YtbipipbfiekbgaaDoor.Plain Go.Proofs.YtbipipbfiekbgaaDoor.PlainIr Go.Proofs.YtbipipbfiekbgaaDoor.PlainName Go.Proofs.YtbipipbfiekbgaaDoor.PlainOne Go.Proofs.YtbipipbfiekbgaaDoor.PlainHeavy Go.Proofs.YtbipipbfiekbgaaDoor.PlainCheck Go.Proofs.YtbipipbfiekbgaaDoor.PlainMachOne Go.Proofs.YtbipipbfiekbgaaDoor.PlainMachCheck
set_option linter.unusedVariables false
set_option linter.unusedSimpArgs false
def has11 (b : List SIns) : Bool := b.any (fun x => decide (x.f0 = 11))
def anyR (E : Int) : List (List SIns) → Bool
  | [] => E == 0
  | b :: bs => if has11 b = true then true else anyR E bs
theorem anyR_true {E : Int} : ∀ l : List (List SIns), (E = 0 ∨ ∃ b ∈ l, has11 b = true) → anyR E l = true
  | [], h => by
    rcases h with rfl | ⟨b, hb, _⟩
    · rfl
    · simp at hb
  | b :: bs, h => by
    unfold anyR
    by_cases c : has11 b = true
    · rw [if_pos c]
    · rw [if_neg c]
      refine anyR_true bs ?_
      rcases h with h | ⟨b', hb, h⟩
      · exact .inl h
      · rcases List.mem_cons.1 hb with rfl | hb
        · exact absurd h c
        · exact .inr ⟨b', hb, h⟩
theorem ins_same {rg nb : Int} {x : SIns} {last : Bool} (h : insE rg nb x last = 0) (h11 : x.f0 ≠ 11) : mIns rg 1 nb x last = 0 := by
  unfold mIns machE
  have hop : 1 ≤ x.f0 ∧ x.f0 ≤ 14 := by
    unfold insE oneE at h
    split at h
    · next h1 => exact h1.1
    · omega
  rw [if_neg (by omega), if_neg h11]
  exact h
theorem row_same {rg nb : Int} : ∀ l : List SIns, has11 l = false → rowE rg nb l = 0 → rowM rg 1 nb l = 0
  | [], _, _ => rfl
  | x :: xs, h, h0 => by
    unfold has11 at h
    rw [List.any_cons, Bool.or_eq_false_iff] at h
    have h11 := of_decide_eq_false h.1
    unfold rowE at h0
    unfold rowM
    by_cases c : insE rg nb x xs.isEmpty = 0
    · rw [if_pos c] at h0
      rw [if_pos (ins_same c h11)]
      exact row_same xs h.2 h0
    · rw [if_neg c] at h0
      exact absurd h0 c
theorem all_same {rg nb : Int} : ∀ l : List (List SIns), (∀ b ∈ l, has11 b = false) → allE rg nb l = 0 → allM rg 1 nb l = 0
  | [], _, _ => rfl
  | b :: bs, h, h0 => by
    unfold allE at h0
    unfold allM
    by_cases c : rowE rg nb b = 0
    · rw [if_pos c] at h0
      rw [if_pos (row_same b (h b (by simp)) c)]
      exact all_same bs (fun b' hb => h b' (by simp [hb])) h0
    · rw [if_neg c] at h0
      exact absurd h0 c
section
variable (E : Int) (pn : ByteArray) (pp rg : Int) (bs : List (List SIns)) (hF : FairB bs)
include hF
theorem fun_row (i : Nat) (hi : i < bs.length) (R : Bool) (h : Ev (fun k => cubbylaw13_MachFuncs.l0 k E ((i + 1 : Nat) : Int) pn pp rg bs) R) : ∀ (d j : Nat), bs[i].length - j = d → j ≤ bs[i].length → Ev (fun k => cubbylaw13_MachFuncs.l1 k E (i : Int) (j : Int) pn pp rg bs) (if has11 (bs[i].drop j) = true then true else R) := by
  have hlen := hF.len
  have hr := hF.row _ (List.getElem_mem hi)
  have hg := rdL_get hi
  intro d
  induction d with
  | zero =>
    intro j hd hj
    rw [List.drop_eq_nil_of_le (by omega)]
    rw [if_neg (show ¬ has11 [] = true by unfold has11; simp)]
    exact Ev.step (fun k => by simp only [cubbylaw13_MachFuncs.l1]; rw [if_pos (by omega), if_pos (by omega), hg, if_neg (by omega), wrap_nat (by omega)]) h
  | succ d ih =>
    intro j hd hj
    have hlt : j < bs[i].length := by omega
    rw [drop_cons hlt]
    by_cases c : bs[i][j].f0 = 11
    · rw [if_pos (show has11 (bs[i][j] :: bs[i].drop (j + 1)) = true by unfold has11; rw [List.any_cons, decide_eq_true c, Bool.true_or])]
      exact Ev.step (f := fun _ => some true) (fun k => by simp only [cubbylaw13_MachFuncs.l1]; rw [if_pos (by omega), if_pos (by omega), hg, if_pos (by omega), if_pos (by omega), rdT_get hlt, if_pos c]) (Ev.now _)
    · rw [show has11 (bs[i][j] :: bs[i].drop (j + 1)) = has11 (bs[i].drop (j + 1)) by unfold has11; rw [List.any_cons, decide_eq_false c, Bool.false_or]]
      exact Ev.step (fun k => by simp only [cubbylaw13_MachFuncs.l1]; rw [if_pos (by omega), if_pos (by omega), hg, if_pos (by omega), if_pos (by omega), rdT_get hlt, if_neg c, wrap_nat (by omega)]) (ih (j + 1) (by omega) (by omega))
theorem fun_all : ∀ (d i : Nat), bs.length - i = d → i ≤ bs.length → Ev (fun k => cubbylaw13_MachFuncs.l0 k E (i : Int) pn pp rg bs) (anyR E (bs.drop i)) := by
  intro d
  induction d with
  | zero =>
    intro i hd hi
    rw [List.drop_eq_nil_of_le (by omega)]
    exact Ev.step (f := fun _ => some (E == 0)) (fun k => by simp only [cubbylaw13_MachFuncs.l0]; rw [if_neg (by omega)]) (Ev.now _)
  | succ d ih =>
    intro i hd hi
    have hlt : i < bs.length := by omega
    rw [drop_cons hlt]
    unfold anyR
    have := fun_row E pn pp rg bs hF i hlt _ (ih (i + 1) (by omega) (by omega)) bs[i].length 0 (by omega) (by omega)
    rw [List.drop_zero] at this
    exact Ev.step (fun k => by simp only [cubbylaw13_MachFuncs.l0]; rw [if_pos (by omega)]; rfl) this
end
theorem fits_wide {bs : List (List SIns)} (h : fits 200 bs = true) : fits 1600 bs = true := by
  unfold fits at h ⊢
  have h := of_decide_eq_true h
  exact decide_eq_true ⟨h.1, by omega⟩
theorem MachFuncs : MachFuncs.Pure := by
  intro pn pp rg bs _ _ _ hbs
  have hF : FairB bs := ⟨by have := hbs.1; omega, fun b hb => by have := (hbs.2.2 b hb).1; omega, fun b hb y hy => by have := ((hbs.2.2 b hb).2.2 y hy).2.2.2.2.2.1; omega⟩
  clear hbs
  refine Ev.rounds (g := fun k => cubbylaw13_MachFuncs.f k pn pp rg bs) ?_
  have hyes : Ev (fun k => cubbylaw13_MachFuncs.j0 k true pn pp rg bs) true := by
    refine Ev.step (f := fun _ => some true) (fun k => ?_) (Ev.now _)
    simp only [cubbylaw13_MachFuncs.j0]
    rw [if_pos trivial, show mach_Writes.f 11 0 0 0 (⟨#[]⟩ : ByteArray) ([] : List Int) = some 0 by unfold mach_Writes.f; rw [if_pos rfl], show mach_Writes.f 22 0 0 0 (⟨#[]⟩ : ByteArray) ([] : List Int) = some (-1) by unfold mach_Writes.f; rw [if_neg (by omega), if_pos rfl]]
    rfl
  by_cases c1 : (pn.size : Int) > 256
  · exact Ev.congr (fun k => by unfold cubbylaw13_MachFuncs.f; rw [if_pos c1]) hyes
  by_cases c2 : (bs.length : Int) > 50
  · exact Ev.congr (fun k => by unfold cubbylaw13_MachFuncs.f; rw [if_neg c1, if_pos c2]) hyes
  refine Ev.congr (fun k => by unfold cubbylaw13_MachFuncs.f; rw [if_neg c1, if_neg c2]) (Ev.bind (refcheck_ev pn pp rg bs hF) ?_)
  by_cases c0 : checkE pn pp rg bs = 0
  rotate_left
  · rw [bne_iff_ne.2 c0]
    exact hyes
  rw [c0]
  refine Ev.step (fun k => by simp only [cubbylaw13_MachFuncs.j0]; rw [if_neg (show ¬ ((0 : Int) != 0) = true by decide)]) (Ev.bind (code_ev pn pp rg 1 bs hF) (Ev.bind (refcode_ev pn pp rg 1 bs hF) ?_))
  refine Ev.congr (fun k => by rw [if_pos rfl]) ?_
  unfold checkE at c0
  have hn : nameOk pn = true := by
    cases h : nameOk pn
    · rw [h] at c0
      exact absurd c0 (by simp)
    · rfl
  rw [if_pos hn] at c0
  by_cases hs : shapeP pp rg bs
  rotate_left
  · rw [if_neg hs] at c0
    omega
  rw [if_pos hs] at c0
  have hE : codeE pn pp rg 1 bs = if shapeM pp rg 1 bs then allM rg 1 (bs.length : Int) bs else 71 := by
    unfold codeE
    rw [if_pos hn]
  have hj : (rg < 6 ∨ rg > 16) → Ev (fun k => cubbylaw13_MachFuncs.j1 k (codeE pn pp rg 1 bs) true pn pp rg bs) true := fun h => by
    rw [hE, if_neg (fun h' => by have := h'.2.1; have := h'.2.2.1; omega)]
    exact Ev.step (f := fun _ => some true) (fun k => by simp only [cubbylaw13_MachFuncs.j1]; rw [if_pos trivial]; rfl) (Ev.now _)
  by_cases c3 : rg < 6
  · exact Ev.congr (fun k => by rw [if_pos c3]) (hj (.inl c3))
  by_cases c4 : rg > 16
  · exact Ev.congr (fun k => by rw [if_neg c3, decide_eq_true c4]) (hj (.inr c4))
  refine Ev.congr (fun k => by rw [if_neg c3, decide_eq_false c4]) ?_
  obtain ⟨s0, s1, s2, s3, s4, s5, s6⟩ := hs
  have hw : shapeM pp rg 1 bs := ⟨⟨s0, by omega⟩, by omega, by omega, ⟨by omega, by omega⟩, s4, by omega, fits_wide s6⟩
  rw [if_pos hw] at hE
  have hl := fun_all (codeE pn pp rg 1 bs) pn pp rg bs hF bs.length 0 (by omega) (by omega)
  rw [List.drop_zero, anyR_true] at hl
  · exact Ev.step (fun k => by simp only [cubbylaw13_MachFuncs.j1]; rw [if_neg Bool.false_ne_true]; rfl) hl
  · by_cases c5 : ∀ b ∈ bs, has11 b = false
    · exact .inl (hE.trans (all_same bs c5 c0))
    · refine .inr ?_
      apply Classical.byContradiction
      intro h
      refine c5 (fun b hb => ?_)
      cases h1 : has11 b
      · rfl
      · exact absurd ⟨b, hb, h1⟩ h
end Go.Proofs.YtbipipbfiekbgaaDoor.RMachFuncs.Pure
/- For every input the law MachFuncs returns true, and its arguments read behind the call as they did: no condition. -/
namespace Go.Proofs.YtbipipbfiekbgaaDoor.RMachFuncs
open Go.ChangeShapes Go.WideShapes Go.ChangeAt
open Go.ChangeMaps (open_string shut_string)
open Go Go.RowKit Go.Proofs.YtbipipbfiekbgaaDoorW.PrintWords Go.Proofs.YtbipipbfiekbgaaDoorW.PrintLast Go.Proofs.YtbipipbfiekbgaaDoorW.PrintMore Go.Proofs.YtbipipbfiekbgaaDoor.Q Go.Proofs.YtbipipbfiekbgaaDoor.Open
set_option linter.unusedVariables false
theorem own : ownKnob Tryd.prog.godebug = none := by kernel_rfl
theorem laidOut : laidOutB Tryd.prog = true := by kernel_rfl
theorem opensIns : Opens Tryd.prog 31 kIns GIns :=
  (Opens.iso (fun x : SIns => (x.f0, x.f1, x.f2, x.f3, x.f4, x.f5)) (fun y => ⟨y.1, y.2.1, y.2.2.1, y.2.2.2.1, y.2.2.2.2.1, y.2.2.2.2.2⟩) (fun _ => rfl) (Opens.struct Tryd.underlying31 (by kernel_rfl) (OpensFs.cons rfl (Opens.int (Tryd.underlying3) (by kernel_rfl)) (OpensFs.cons rfl (Opens.int (Tryd.underlying3) (by kernel_rfl)) (OpensFs.cons rfl (Opens.int (Tryd.underlying3) (by kernel_rfl)) (OpensFs.cons rfl (Opens.int (Tryd.underlying3) (by kernel_rfl)) (OpensFs.cons rfl (Opens.string (Tryd.underlying9) (by kernel_rfl)) (OpensFs.one rfl (Opens.slice (B := 8) (Tryd.underlying29) (by kernel_rfl) (by kernel_rfl) (Opens.int (Tryd.underlying3) (by kernel_rfl))))))))))).imp (fun _ h => h)
set_option maxRecDepth 100000 in
theorem lifted (os : Os) (started : os.Started) (H : Type) (enc : TypeId × Value → H) :
    ReturnsInHanded {} Tryd.checked os 5 .any (fun w args => (Rows.machFuncsSpec.pre enc Tryd.prog Tryd.f5 [] false w args ∧ laidMetH Tryd.prog Rows.machFuncsRow.laid w) ∧ sizedMet enc Tryd.prog Tryd.f5 (OpenSpec.ofChange Rows.machFuncsSpec) false w args) (Rows.machFuncsSpec.post enc Tryd.prog Tryd.f5 false true false false) := by
  refine returnsInHanded_of_change_and (C := Tryd.checked) (X := fun w _ => laidMetH Tryd.prog Rows.machFuncsRow.laid w) (fun _ _ _ hh h => h.of_heap hh) own started (by kernel_rfl) Tryd.func5
    (ChangeSpec.witness_shaped (enc := enc) (C := Tryd.checked) (os := os) (X := fun w _ => laidMetH Tryd.prog Rows.machFuncsRow.laid w) false (World.laidAll Tryd.prog os Rows.machFuncsRow.laid) #[.agg #[.string ByteArray.empty, .int .i64 0, .int .i64 0, .slice none 0 0]] 8 (World.laidAll_os _ _ _)
      (World.shaped_of_ZipB (by kernel_rfl) (by kernel_rfl)) (by kernel_rfl) (by kernel_rfl) (by kernel_rfl)
      (by rw [MakeChecks.laidMetH_plain _ _ _ (by kernel_rfl)]; exact laidMet_laidAll _ (by kernel_rfl) (by kernel_rfl))) ?_
  intro W base args ds gs before hval0 hW hcnd hsz0 hL0 _
  rw [MakeChecks.laidMetH_plain _ _ _ (by kernel_rfl)] at hL0
  have LAIDF : LaidW W := LaidW.of_reads (show Lib.VarReads Tryd.prog W "cubby/ir.shapes" shapesD from Lib.laidMet.reads hL0 (n := "cubby/ir.shapes") (d := Rows.laid_cubby_ir_shapes) (by simp [Rows.machFuncsRow]))
  have hsz : (DataW.weightsEach Tryd.prog (Tryd.f5.params.toList ++ Rows.machFuncsSpec.plain.varTypes Tryd.prog) (ds ++ gs)).all (· ≤ reachBytes) = true := hsz0
  have hval : ∀ (j : Nat) t v, Tryd.f5.params[j]? = some t → args[j]? = some v → Value.okWide Tryd.prog W .any base t v := hval0
  have hW' := hW
  obtain ⟨p, q, hA0, hV, rfl, hfz, hnd⟩ := hW
  have hA : DataW.TrodAll enc Tryd.prog W 0 (fun _ => true) true Tryd.f5.params.toList args.toList ds p := hA0
  rw [Tryd.params5] at hA hval hsz
  obtain ⟨v0, vs0, d0, ds0, p0, q0, hargs, rfl, rfl, h0, r0⟩ := trodAll_cons hA
  obtain ⟨rfl, rfl, rfl⟩ := trodAll_nil r0
  obtain rfl : args = #[v0] := by cases args; simp_all
  obtain ⟨rfl, rfl⟩ := trodVars_none hV
  have lt0 : ∀ x ∈ p0, x.block < W.heap.size := by obtain ⟨m, hm⟩ := h0; exact DataW.trod_lt m _ _ _ hm
  obtain ⟨cs0, rfl, -⟩ := okWide_struct Tryd.underlying34 (hval 0 34 v0 rfl rfl)
  obtain ⟨⟨a0_0, a0_1, a0_2, l0_3⟩, hk0, gg0⟩ := (Opens.struct Tryd.underlying34 (by kernel_rfl) (OpensFs.cons rfl (Opens.string (Tryd.underlying9) (by kernel_rfl)) (OpensFs.cons rfl (Opens.int (Tryd.underlying3) (by kernel_rfl)) (OpensFs.cons rfl (Opens.int (Tryd.underlying3) (by kernel_rfl)) (OpensFs.one rfl (Opens.slice (B := 24) (Tryd.underlying22) (by kernel_rfl) (by kernel_rfl) (Opens.slice (B := 72) (Tryd.underlying28) (by kernel_rfl) (by kernel_rfl) opensIns)))))) : Opens Tryd.prog 34 (Kd.pair Kd.string (Kd.pair (Kd.int .i64) (Kd.pair (Kd.int .i64) (Kd.slice 28 (Kd.slice 31 kIns))))) (fun y => ((y.1).size ≤ 140737488351232 ∧ ((Lit.int .i64 (y.2.1)).wf = true ∧ ((Lit.int .i64 (y.2.2.1)).wf = true ∧ ((y.2.2.2).length * 24 ≤ 140737488351232 ∧ (y.2.2.2).length ≤ maxLen ∧ ∀ y1 ∈ (y.2.2.2), ((y1).length * 72 ≤ 140737488351232 ∧ (y1).length ≤ maxLen ∧ ∀ y2 ∈ (y1), GIns (y2)))))))).arg h0 hsz (j := 0) rfl rfl
  obtain ⟨g0_0, g0_1, g0_2, g0_3⟩ := gg0
  obtain ⟨_, _, h0_, rfl, ⟨_, _, rfl, rfl, ⟨_, _, rfl, rfl, ⟨A0_3, c0_3, rfl, hc0_3, hr0_3⟩⟩⟩⟩ := hk0
  obtain rfl : cs0 = #[.string a0_0, .int .i64 a0_1, .int .i64 a0_2, .slice A0_3 l0_3.length c0_3] := by
    cases cs0
    simp [Value.cells] at h0_
    simp [h0_]
  clear hA0 hval0 hsz0 hsz
  obtain ⟨k, hf⟩ := Pure.MachFuncs a0_0 a0_1 a0_2 l0_3 g0_0 g0_1 g0_2 g0_3
  refine (Q.cubbylaw13_MachFuncs.calls k a0_0 a0_1 a0_2 A0_3 c0_3 l0_3 true W LAIDF rfl hr0_3 hc0_3 hf).mono ?_
  rintro e W' ⟨rfl, hd⟩
  have bel : Below W.heap.size W W' := hd
  exact ⟨_, rfl, _, _, _, [], _, [], hW', trodAll_mk1 (shut_bool Tryd.underlying4 _), (trodAll_cons_mk (Below.trod laidOut (by kernel_rfl) (of_decide_eq_true (by kernel_rfl)) h0 bel lt0) trodAll_mk0), rfl, bel.frame _, fun h => by cases h⟩
theorem over : Rows.machFuncsRow.holds Tryd.pinned (OpenSpec.ofChange Rows.machFuncsSpec) :=
  OpenClaim.holds_of_wide 5 Tryd.f5 rfl rfl rfl rfl rfl rfl rfl ⟨rfl, rfl, rfl, rfl, rfl⟩ rfl rfl rfl rfl rfl (by kernel_rfl) Tryd.func5 (by kernel_rfl)
    (of_decide_eq_true (by kernel_rfl)) (by unfold Func.isWrapper; first | (rw [if_pos (by decide +kernel)]; kernel_rfl) | (rw [if_neg (by decide +kernel)]; exact ⟨rfl, rfl⟩))
    (fun os started H enc _ => lifted os started H enc)
end Go.Proofs.YtbipipbfiekbgaaDoor.RMachFuncs
namespace Go.Proofs.YtbipipbfiekbgaaDoor
/-- The row, under a short name, for the claim. -/
theorem machFuncs_holds : Rows.MachFuncsSaid := RMachFuncs.over
/-- The tied card. -/
theorem machFuncs_card : Rows.MachFuncsCardSaid :=
  Claim7.holds_tied_plain_at .later [] [.data, .data, .pinned] true (true, "7889617ded53a28f892f28d3e15667b0d3e13ee5e7faa765c2980480acbb3870") false machFuncs_holds (fun _ h => by cases h) (by kernel_rfl) (fun _ h => by cases h) machFuncs_row_tie rfl ⟨rfl, rfl⟩ (by kernel_rfl) rfl
    (fun f fn hf hfn => by
      obtain rfl : f = 5 := Option.some.inj ((show Tryd.prog.funcNamed "cubby/cubbylaw13.MachFuncs" = some 5 by kernel_rfl).symm.trans hf) |>.symm
      obtain rfl : fn = Tryd.f5 := (Option.some.inj (Tryd.func5.symm.trans hfn)).symm
      exact ⟨by kernel_rfl, fun j t ht => by
        rw [Tryd.params5] at ht
        have hm : t ∈ [34] := by simpa using Array.mem_of_getElem? ht
        have hall : ([34].all fun u => !Tryd.prog.wantsStandIn u) = true := by kernel_rfl
        exact (show Tryd.prog.wantsStandIn t = false by simpa using List.all_eq_true.1 hall t hm)⟩)
    (by kernel_rfl)
#print axioms machFuncs_card
end Go.Proofs.YtbipipbfiekbgaaDoor
