/- Lean functions that answer as the Go functions named below do, and the proofs of that. Written by a program out of the translation. -/
import Derived.Test.YtbipipbfiekbgaaDoorQ0
import Derived.Test.YtbipipbfiekbgaaDoorSq
import Derived.Test.YtbipipbfiekbgaaDoorQaskParse
import Derived.Test.YtbipipbfiekbgaaDoorQaskPrint
import Derived.Test.YtbipipbfiekbgaaDoorQcubbyref21Parse
import Derived.Test.YtbipipbfiekbgaaDoorQcubbyref21Print
namespace Go.Proofs.YtbipipbfiekbgaaDoor.Q
open Go.RowKit Go.Proofs.YtbipipbfiekbgaaDoorW.PrintWords Go.Proofs.YtbipipbfiekbgaaDoorW.PrintLast Go.Proofs.YtbipipbfiekbgaaDoorW.PrintMore
attribute [local go_sem] max2_int min2_int max_two min_two max_three min_three max_four min_four   -- for this text's walks alone
set_option linter.unusedVariables false
set_option linter.unusedSimpArgs false

/-! ### cubbylaw21_AskParses: function 7 -/
def cubbylaw21_AskParses.j0 : Nat → ByteArray → Bool → Int → ByteArray → ByteArray → Option (Bool)
 | 0, _, _, _, _, _ => none
 | k + 1, x0, x27, x303000, x303001, x303002 => if x27 = true then (some true) else ((ask_Parse.f k x0).bind fun bt303 => ((cubbyref21_Parse.f k x0).bind fun bt308 => ((ask_Print.f k x303000 x303001 x303002).bind fun bt313 => ((cubbyref21_Print.f k x303000 x303001 x303002).bind fun bt315 => (if bt303.2.2.2 = bt308.2.2.2 then (if bt303.1 = bt308.1 then (if bt303.2.1.toList = bt308.2.1.toList then (if bt303.2.2.1.toList = bt308.2.2.1.toList then (if bt313.1.toList = bt315.1.toList then (some (bt313.2 == bt315.2)) else (some false)) else (some false)) else (some false)) else (some false)) else (some false))))))
def cubbylaw21_AskParses.f (k : Nat) (a0 : ByteArray) (a1_0 : Int) (a1_1 : ByteArray) (a1_2 : ByteArray) : Option (Bool) := if (a0.size : Int) > 4096 then (cubbylaw21_AskParses.j0 k a0 true a1_0 a1_1 a1_2) else (if (a1_1.size : Int) > 1024 then (cubbylaw21_AskParses.j0 k a0 true a1_0 a1_1 a1_2) else (cubbylaw21_AskParses.j0 k a0 (decide ((a1_2.size : Int) > 4096)) a1_0 a1_1 a1_2))
theorem cubbylaw21_AskParses.mono_l : ∀ k, (∀ y0 y1 y2 y3 y4, LeO (cubbylaw21_AskParses.j0 k y0 y1 y2 y3 y4) (cubbylaw21_AskParses.j0 (k + 1) y0 y1 y2 y3 y4))
 | 0 => fun _ _ _ _ _ r h => by simp [cubbylaw21_AskParses.j0] at h
 | k + 1 => by
  have ih0 := cubbylaw21_AskParses.mono_l k
  ·intro y0 y1 y2 y3 y4
   unfold cubbylaw21_AskParses.j0
   repeat' first | (with_reducible exact ih0 _ _ _ _ _) | (with_reducible exact ask_Parse.mono _ _) | (with_reducible exact ask_Print.mono _ _ _ _) | (with_reducible exact cubbyref21_Parse.mono _ _) | (with_reducible exact cubbyref21_Print.mono _ _ _ _) | (with_reducible exact LeO.refl _) | (with_reducible exact LeO.none _) | (with_reducible refine LeO.ite ?_ ?_) | (with_reducible refine LeO.bind ?_ (fun _ => ?_)) | exact LeO.none _ | refine LeO.ite ?_ ?_ | refine LeO.bind ?_ (fun _ => ?_)
theorem cubbylaw21_AskParses.mono : ∀ a0 a1 a2 a3 k, LeO (cubbylaw21_AskParses.f k a0 a1 a2 a3) (cubbylaw21_AskParses.f (k + 1) a0 a1 a2 a3) := by
 intro a0 a1 a2 a3 k
 have ih0 := cubbylaw21_AskParses.mono_l k
 unfold cubbylaw21_AskParses.f
 repeat' first | (with_reducible exact ih0 _ _ _ _ _) | (with_reducible exact ask_Parse.mono _ _) | (with_reducible exact ask_Print.mono _ _ _ _) | (with_reducible exact cubbyref21_Parse.mono _ _) | (with_reducible exact cubbyref21_Print.mono _ _ _ _) | (with_reducible exact LeO.refl _) | (with_reducible exact LeO.none _) | (with_reducible refine LeO.ite ?_ ?_) | (with_reducible refine LeO.bind ?_ (fun _ => ?_)) | exact LeO.none _ | refine LeO.ite ?_ ?_ | refine LeO.bind ?_ (fun _ => ?_)
set_option maxHeartbeats 8000000 in
set_option maxRecDepth 100000 in
theorem cubbylaw21_AskParses.calls (k : Nat) (a0 : ByteArray) (a1_0 : Int) (a1_1 : ByteArray) (a1_2 : ByteArray) (r : Bool) (w : World) (hr : r = true) (h : cubbylaw21_AskParses.f k a0 a1_0 a1_1 a1_2 = some r) :
  Calls Tryd.prog 7 #[.string a0, .agg #[.int .i64 a1_0, .string a1_1, .string a1_2]] w fun e w' => e = .returned (.bool r) ∧ Below w.heap.size w w' := by
 have hu40 := Tryd.underlying40
 have hu43 := Tryd.underlying43
 have HB := Aside0.mk (Below.refl w.heap.size w)
 have HRt := Aside0.mk hr
 clear hr
 have H := h; clear h; unfold cubbylaw21_AskParses.f at H
 have HC3 := Aside0.mk H
 clear H
 go_enter Tryd.func7, Tryd.ntmps7
 go_upto_region 1 with (first | ((with_reducible refine gate_dst (N := 3) rfl ?_); (try (refine gate_guard (by rfl) ?_; dsimp only)); refine box_event (by rfl) (N := 3) (by rfl) (cs := #[.int .i64 a1_0, .string a1_1, .string a1_2]) (t := 40) ?hr ?_; (case hr => first | (go_simp; done) | (go_simp; rfl)); intro gb302 hg w4 hbox hb; have BK302 := Aside0.mk (hbox); have GW302 := qG hg; have GE302 := GW302; replace HB := qH hb; clear hb hbox hg))
 (try simp only [Act.put, List.setIfInBounds_toArray, List.set_cons_zero, List.set_cons_succ])
 go_cut [27] (fun v27 wc => ∃ (kq : Nat) (x27_2 : Bool), v27 = .bool x27_2 ∧ Aside0 (cubbylaw21_AskParses.j0 kq a0 x27_2 a1_0 a1_1 a1_2 = some r) ∧ Aside0 (kq ≤ k) ∧ Aside0 (wc.heap[gb302]? = some (.cells #[.int .i64 a1_0, .string a1_1, .string a1_2] 40 (0, 0))) ∧ Aside0 (Below w.heap.size w wc))
 case first =>
  have H := HC3.out
  clear HC3
  by_cases c5 : (a0.size : Int) > 4096
  ·rw [if_pos c5] at H
   have c5b0 : decide (4096 < (a0.size : Int)) = true := decide_eq_true c5
   have c5b1 : decide (4096 < a0.size) = true := decide_eq_true (by omega)
   clear c5
   (first | rw [c5b0] | (simp only [i64_w, i32_w]; rw [c5b0]) | skip)
   have H' := Aside0.mk H
   clear H
   go_wp2
   go_meet
   case rel => exact ⟨_, (true), qT, H', ⟨qO⟩, ⟨qK BK302.out⟩, ⟨qB⟩⟩
  ·rw [if_neg c5] at H
   have c5b0 : decide (4096 < (a0.size : Int)) = false := decide_eq_false c5
   have c5b1 : decide (4096 < a0.size) = false := decide_eq_false (by omega)
   clear c5
   (first | rw [c5b0] | (simp only [i64_w, i32_w]; rw [c5b0]) | skip)
   by_cases c6 : (a1_1.size : Int) > 1024
   ·rw [if_pos c6] at H
    have c6b0 : decide (1024 < (a1_1.size : Int)) = true := decide_eq_true c6
    have c6b1 : decide (1024 < a1_1.size) = true := decide_eq_true (by omega)
    clear c6
    have H' := Aside0.mk H
    clear H
    have z7_0 := bk3 BK302.out
    go_wp2
    go_meet
    case rel => exact ⟨_, (true), qT, H', ⟨qO⟩, ⟨qK BK302.out⟩, ⟨qB⟩⟩
   ·rw [if_neg c6] at H
    have c6b0 : decide (1024 < (a1_1.size : Int)) = false := decide_eq_false c6
    have c6b1 : decide (1024 < a1_1.size) = false := decide_eq_false (by omega)
    clear c6
    have H' := Aside0.mk H
    clear H
    have z8_0 := bk3 BK302.out
    go_wp2
    go_meet
    case rel => exact ⟨_, (decide ((a1_2.size : Int) > 4096)), qT, H', ⟨qO⟩, ⟨qK BK302.out⟩, ⟨qB⟩⟩
 case rest =>
  clear HC3
  try clear p2; try clear c5; try clear c5b0 c5b1; try clear c6; try clear c6b0 c6b1; try clear c7; try clear z7_0; try clear z8_0
  obtain ⟨kq, x27_2, rfl, HA, HJ2, BK302, HB⟩ := hcut
  cases kq with
  | zero => exact absurd HA.out (by simp [cubbylaw21_AskParses.j0])
  | succ kj2 =>
   have H := HA.out
   clear HA
   simp only [cubbylaw21_AskParses.j0] at H
   by_cases c9 : x27_2 = true
   ·subst c9
    have H1 : (some true) = some r := by rw [if_pos rfl] at H; exact H
    clear H
    have H := H1
    clear H1
    obtain rfl := Option.some.inj H
    go_wp2
    go_ret
    exact ⟨qE, qB⟩
   ·replace c9 := Bool.eq_false_iff.mpr c9
    subst c9
    have H1 : ((ask_Parse.f kj2 a0).bind fun bt303 => ((cubbyref21_Parse.f kj2 a0).bind fun bt308 => ((ask_Print.f kj2 a1_0 a1_1 a1_2).bind fun bt313 => ((cubbyref21_Print.f kj2 a1_0 a1_1 a1_2).bind fun bt315 => (if bt303.2.2.2 = bt308.2.2.2 then (if bt303.1 = bt308.1 then (if bt303.2.1.toList = bt308.2.1.toList then (if bt303.2.2.1.toList = bt308.2.2.1.toList then (if bt313.1.toList = bt315.1.toList then (some (bt313.2 == bt315.2)) else (some false)) else (some false)) else (some false)) else (some false)) else (some false)))))) = some r := by rw [if_neg (show ¬ (false = true) by decide)] at H; exact H
    clear H
    have H := H1
    clear H1
    replace H := Option.bind_eq_some_iff.mp H
    obtain ⟨⟨t303, t304, t305, t306⟩, A100, H⟩ := H
    replace H : ((cubbyref21_Parse.f kj2 a0).bind fun bt308 => ((ask_Print.f kj2 a1_0 a1_1 a1_2).bind fun bt313 => ((cubbyref21_Print.f kj2 a1_0 a1_1 a1_2).bind fun bt315 => (if t306 = bt308.2.2.2 then (if t303 = bt308.1 then (if t304.toList = bt308.2.1.toList then (if t305.toList = bt308.2.2.1.toList then (if bt313.1.toList = bt315.1.toList then (some (bt313.2 == bt315.2)) else (some false)) else (some false)) else (some false)) else (some false)) else (some false))))) = some r := H
    have A10 := Aside0.mk A100
    clear A100
    replace H := Option.bind_eq_some_iff.mp H
    obtain ⟨⟨t308, t309, t310, t311⟩, A110, H⟩ := H
    replace H : ((ask_Print.f kj2 a1_0 a1_1 a1_2).bind fun bt313 => ((cubbyref21_Print.f kj2 a1_0 a1_1 a1_2).bind fun bt315 => (if t306 = t311 then (if t303 = t308 then (if t304.toList = t309.toList then (if t305.toList = t310.toList then (if bt313.1.toList = bt315.1.toList then (some (bt313.2 == bt315.2)) else (some false)) else (some false)) else (some false)) else (some false)) else (some false)))) = some r := H
    have A11 := Aside0.mk A110
    clear A110
    replace H := Option.bind_eq_some_iff.mp H
    obtain ⟨⟨t313, t314⟩, A120, H⟩ := H
    replace H : ((cubbyref21_Print.f kj2 a1_0 a1_1 a1_2).bind fun bt315 => (if t306 = t311 then (if t303 = t308 then (if t304.toList = t309.toList then (if t305.toList = t310.toList then (if t313.toList = bt315.1.toList then (some (t314 == bt315.2)) else (some false)) else (some false)) else (some false)) else (some false)) else (some false))) = some r := H
    have A12 := Aside0.mk A120
    clear A120
    replace H := Option.bind_eq_some_iff.mp H
    obtain ⟨⟨t315, t316⟩, A130, H⟩ := H
    replace H : (if t306 = t311 then (if t303 = t308 then (if t304.toList = t309.toList then (if t305.toList = t310.toList then (if t313.toList = t315.toList then (some (t314 == t316)) else (some false)) else (some false)) else (some false)) else (some false)) else (some false)) = some r := H
    have A13 := Aside0.mk A130
    clear A130
    by_cases c14 : t306 = t311
    ·rw [if_pos c14] at H
     obtain ⟨c14b0, c14b1⟩ := qe c14; clear c14
     by_cases c15 : t303 = t308
     ·rw [if_pos c15] at H
      obtain ⟨c15b0, c15b1⟩ := qe c15; clear c15
      by_cases c16 : t304.toList = t309.toList
      ·rw [if_pos c16] at H
       obtain ⟨c16b0, c16b1⟩ := qe c16; clear c16
       by_cases c17 : t305.toList = t310.toList
       ·rw [if_pos c17] at H
        obtain ⟨c17b0, c17b1⟩ := qe c17; clear c17
        by_cases c18 : t313.toList = t315.toList
        ·rw [if_pos c18] at H
         obtain ⟨c18b0, c18b1⟩ := qe c18; clear c18
         obtain rfl := Option.some.inj H
         go_wp2_with (first | ((with_reducible refine gate_callee (f := 14) rfl ?_); refine goesL_ (some 30) rfl rfl Tryd.func14 (by kernel_rfl) rfl #[.string a0] rfl qL ?_; (with_reducible refine (ask_Parse.calls kj2 a0 t303 t304 t305 t306 _ A10.out).mono ?_); rintro e w19 ⟨rfl, hb⟩; refine ⟨_, rfl, ?_⟩; replace BK302 := qW BK302 hb; replace HB := qH hb; (try clear hb)) | ((with_reducible refine gate_dst (N := 5) rfl ?_); (try (refine gate_guard (by rfl) ?_; dsimp only)); refine box_event (by rfl) (N := 5) (by rfl) (cs := #[.int .i64 0, .string (⟨#[]⟩ : ByteArray), .string (⟨#[]⟩ : ByteArray)]) (t := 40) ?hr ?_; (case hr => first | (go_simp; done) | (go_simp; rfl)); intro gb307 hg w20 hbox hb; have BK307 := Aside0.mk (hbox); have GW307 := qG hg; have GE307 := GW307; replace HB := qH hb; have NB302_307 := Aside0.mk ((by rw [hg]; exact Nat.ne_of_lt (blk_lt (g := gb302) (o := .cells #[.int .i64 a1_0, .string a1_1, .string a1_2] 40 (0, 0)) (qK BK302.out)) : gb302 ≠ gb307)); have NB307_302 := Aside0.mk ((by rw [hg]; exact Nat.ne_of_gt (blk_lt (g := gb302) (o := .cells #[.int .i64 a1_0, .string a1_1, .string a1_2] 40 (0, 0)) (qK BK302.out)) : gb307 ≠ gb302)); replace BK302 := qW BK302 hb; clear hb hbox hg; have hnb21 := NB307_302.out; have hnc21 := NB302_307.out; have z22_0 := bk3 BK307.out) | ((with_reducible refine gate_callee (f := 15) rfl ?_); refine goesL_ (some 35) rfl rfl Tryd.func15 (by kernel_rfl) rfl #[.string a0] rfl qL ?_; (with_reducible refine (cubbyref21_Parse.calls kj2 a0 t308 t309 t310 t311 _ A11.out).mono ?_); rintro e w23 ⟨rfl, hb⟩; refine ⟨_, rfl, ?_⟩; replace BK302 := Aside0.mk (blk_below (g := gb302) (o := .cells #[.int .i64 a1_0, .string a1_1, .string a1_2] 40 (0, 0)) (by (with_reducible repeat (first | refine blk_drewN ?_ _ | refine blk_drew ?_ | refine blk_alloc ?_ _)); refine blk_far ?_ NB302_307.out _; (with_reducible repeat (first | refine blk_drewN ?_ _ | refine blk_drew ?_ | refine blk_alloc ?_ _)); refine blk_far ?_ NB302_307.out _; (with_reducible repeat (first | refine blk_drewN ?_ _ | refine blk_drew ?_ | refine blk_alloc ?_ _)); refine blk_far ?_ NB302_307.out _; (with_reducible repeat (first | refine blk_drewN ?_ _ | refine blk_drew ?_ | refine blk_alloc ?_ _)); exact BK302.out) hb); replace BK307 := Aside0.mk (blk_below (g := gb307) (o := .cells #[.int .i64 t303, .string t304, .string t305] 40 (0, 0)) (by (with_reducible repeat (first | refine blk_drewN ?_ _ | refine blk_drew ?_ | refine blk_alloc ?_ _)); refine blk_put (cs := #[.int .i64 t303, .string t304, .string (⟨#[]⟩ : ByteArray)]) ?_ 2 _ rfl; (with_reducible repeat (first | refine blk_drewN ?_ _ | refine blk_drew ?_ | refine blk_alloc ?_ _)); refine blk_put (cs := #[.int .i64 t303, .string (⟨#[]⟩ : ByteArray), .string (⟨#[]⟩ : ByteArray)]) ?_ 1 _ rfl; (with_reducible repeat (first | refine blk_drewN ?_ _ | refine blk_drew ?_ | refine blk_alloc ?_ _)); refine blk_put (cs := #[.int .i64 0, .string (⟨#[]⟩ : ByteArray), .string (⟨#[]⟩ : ByteArray)]) ?_ 0 _ rfl; (with_reducible repeat (first | refine blk_drewN ?_ _ | refine blk_drew ?_ | refine blk_alloc ?_ _)); exact BK307.out) hb); replace HB := qH hb) | ((with_reducible refine gate_dst (N := 7) rfl ?_); (try (refine gate_guard (by rfl) ?_; dsimp only)); refine box_event (by rfl) (N := 7) (by rfl) (cs := #[.int .i64 0, .string (⟨#[]⟩ : ByteArray), .string (⟨#[]⟩ : ByteArray)]) (t := 43) ?hr ?_; (case hr => first | (go_simp; done) | (go_simp; rfl)); intro gb312 hg w24 hbox hb; have BK312 := Aside0.mk (hbox); have GW312 := qG hg; have GE312 := GW312; replace HB := qH hb; have NB302_312 := Aside0.mk ((by rw [hg]; exact Nat.ne_of_lt (blk_lt (g := gb302) (o := .cells #[.int .i64 a1_0, .string a1_1, .string a1_2] 40 (0, 0)) (qK BK302.out)) : gb302 ≠ gb312)); have NB312_302 := Aside0.mk ((by rw [hg]; exact Nat.ne_of_gt (blk_lt (g := gb302) (o := .cells #[.int .i64 a1_0, .string a1_1, .string a1_2] 40 (0, 0)) (qK BK302.out)) : gb312 ≠ gb302)); replace BK302 := qW BK302 hb; have NB307_312 := Aside0.mk ((by rw [hg]; exact Nat.ne_of_lt (blk_lt (g := gb307) (o := .cells #[.int .i64 t303, .string t304, .string t305] 40 (0, 0)) (qK BK307.out)) : gb307 ≠ gb312)); have NB312_307 := Aside0.mk ((by rw [hg]; exact Nat.ne_of_gt (blk_lt (g := gb307) (o := .cells #[.int .i64 t303, .string t304, .string t305] 40 (0, 0)) (qK BK307.out)) : gb312 ≠ gb307)); replace BK307 := qW BK307 hb; clear hb hbox hg; have hnb25 := NB312_302.out; have hnc25 := NB302_312.out; have hnb26 := NB312_307.out; have hnc26 := NB307_312.out; have z27_0 := bk3 BK312.out; have z28_0 := bk3 BK302.out) | ((with_reducible refine gate_callee (f := 17) rfl ?_); refine goesL_ (some 40) rfl rfl Tryd.func17 (by kernel_rfl) rfl #[.agg #[.int .i64 a1_0, .string a1_1, .string a1_2]] rfl qL ?_; (with_reducible refine (ask_Print.calls kj2 a1_0 a1_1 a1_2 t313 t314 _ A12.out).mono ?_); rintro e w29 ⟨rfl, hb⟩; refine ⟨_, rfl, ?_⟩; replace BK302 := Aside0.mk (blk_below (g := gb302) (o := .cells #[.int .i64 a1_0, .string a1_1, .string a1_2] 40 (0, 0)) (by (with_reducible repeat (first | refine blk_drewN ?_ _ | refine blk_drew ?_ | refine blk_alloc ?_ _)); refine blk_far ?_ NB302_312.out _; (with_reducible repeat (first | refine blk_drewN ?_ _ | refine blk_drew ?_ | refine blk_alloc ?_ _)); refine blk_far ?_ NB302_312.out _; (with_reducible repeat (first | refine blk_drewN ?_ _ | refine blk_drew ?_ | refine blk_alloc ?_ _)); refine blk_far ?_ NB302_312.out _; (with_reducible repeat (first | refine blk_drewN ?_ _ | refine blk_drew ?_ | refine blk_alloc ?_ _)); exact BK302.out) hb); replace BK307 := Aside0.mk (blk_below (g := gb307) (o := .cells #[.int .i64 t303, .string t304, .string t305] 40 (0, 0)) (by (with_reducible repeat (first | refine blk_drewN ?_ _ | refine blk_drew ?_ | refine blk_alloc ?_ _)); refine blk_far ?_ NB307_312.out _; (with_reducible repeat (first | refine blk_drewN ?_ _ | refine blk_drew ?_ | refine blk_alloc ?_ _)); refine blk_far ?_ NB307_312.out _; (with_reducible repeat (first | refine blk_drewN ?_ _ | refine blk_drew ?_ | refine blk_alloc ?_ _)); refine blk_far ?_ NB307_312.out _; (with_reducible repeat (first | refine blk_drewN ?_ _ | refine blk_drew ?_ | refine blk_alloc ?_ _)); exact BK307.out) hb); replace BK312 := Aside0.mk (blk_below (g := gb312) (o := .cells #[.int .i64 t308, .string t309, .string t310] 43 (0, 0)) (by (with_reducible repeat (first | refine blk_drewN ?_ _ | refine blk_drew ?_ | refine blk_alloc ?_ _)); refine blk_put (cs := #[.int .i64 t308, .string t309, .string (⟨#[]⟩ : ByteArray)]) ?_ 2 _ rfl; (with_reducible repeat (first | refine blk_drewN ?_ _ | refine blk_drew ?_ | refine blk_alloc ?_ _)); refine blk_put (cs := #[.int .i64 t308, .string (⟨#[]⟩ : ByteArray), .string (⟨#[]⟩ : ByteArray)]) ?_ 1 _ rfl; (with_reducible repeat (first | refine blk_drewN ?_ _ | refine blk_drew ?_ | refine blk_alloc ?_ _)); refine blk_put (cs := #[.int .i64 0, .string (⟨#[]⟩ : ByteArray), .string (⟨#[]⟩ : ByteArray)]) ?_ 0 _ rfl; (with_reducible repeat (first | refine blk_drewN ?_ _ | refine blk_drew ?_ | refine blk_alloc ?_ _)); exact BK312.out) hb); replace HB := qH hb; have z30_0 := bk3 BK302.out) | ((with_reducible refine gate_callee (f := 18) rfl ?_); refine goesL_ (some 51) rfl rfl Tryd.func18 (by kernel_rfl) rfl #[.agg #[.int .i64 a1_0, .string a1_1, .string a1_2]] rfl qL ?_; (with_reducible refine (cubbyref21_Print.calls kj2 a1_0 a1_1 a1_2 t315 t316 _ A13.out).mono ?_); rintro e w31 ⟨rfl, hb⟩; refine ⟨_, rfl, ?_⟩; replace BK302 := qW BK302 hb; replace BK307 := qW BK307 hb; replace BK312 := qW BK312 hb; replace HB := qH hb; (try clear hb); have z32_0 := bk3 BK307.out; have z33_0 := bk3 BK312.out))
         go_ret
         exact ⟨qE, qB⟩
        ·rw [if_neg c18] at H
         obtain ⟨c18b0, c18b1⟩ := qn c18
         exact absurd ((Option.some.inj H).trans HRt.out) (by decide)
       ·rw [if_neg c17] at H
        obtain ⟨c17b0, c17b1⟩ := qn c17
        exact absurd ((Option.some.inj H).trans HRt.out) (by decide)
      ·rw [if_neg c16] at H
       obtain ⟨c16b0, c16b1⟩ := qn c16
       exact absurd ((Option.some.inj H).trans HRt.out) (by decide)
     ·rw [if_neg c15] at H
      obtain ⟨c15b0, c15b1⟩ := qn c15
      exact absurd ((Option.some.inj H).trans HRt.out) (by decide)
    ·rw [if_neg c14] at H
     obtain ⟨c14b0, c14b1⟩ := qn c14
     exact absurd ((Option.some.inj H).trans HRt.out) (by decide)

end Go.Proofs.YtbipipbfiekbgaaDoor.Q
