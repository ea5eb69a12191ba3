/- Lean functions that answer as the Go functions named below do, and the proofs of that. Written by a program out of the translation. -/
import Derived.Test.YtbipipbfiekbgaaDoorQ0
import Derived.Test.YtbipipbfiekbgaaDoorSq
import Derived.Test.YtbipipbfiekbgaaDoorQcubbyref07Def
import Derived.Test.YtbipipbfiekbgaaDoorQcubbyref07Last
import Derived.Test.YtbipipbfiekbgaaDoorQcubbyref07Name
import Derived.Test.YtbipipbfiekbgaaDoorQcubbyref07Targets
import Derived.Test.YtbipipbfiekbgaaDoorQcubbyref07Uses
import Derived.Test.YtbipipbfiekbgaaDoorQcubbyref07bare
import Derived.Test.YtbipipbfiekbgaaDoorQcubbyref07within
namespace Go.Proofs.YtbipipbfiekbgaaDoor.Q
open Go.RowKit Go.Proofs.YtbipipbfiekbgaaDoorW.PrintWords Go.Proofs.YtbipipbfiekbgaaDoorW.PrintLast Go.Proofs.YtbipipbfiekbgaaDoorW.PrintMore
attribute [local go_sem] max2_int min2_int max_two min_two max_three min_three max_four min_four   -- for this text's walks alone
set_option linter.unusedVariables false
set_option linter.unusedSimpArgs false

/-! ### cubbyref07_One: function 27 -/
mutual
def cubbyref07_One.j0 : Nat → Int → Int → Bool → Int → Int → Int → Int → ByteArray → List Int → Option (Int)
 | 0, _, _, _, _, _, _, _, _, _ => none
 | k + 1, x1, x2, x28, x235000, x235001, x235002, x235003, x235004, x235005 => if x28 = true then (some 72) else ((cubbyref07_Def.f x235000 x235001 x235002 x235003 x235004 x235005).bind fun t237 => (if t237 = (-1) then ((cubbyref07_Uses.f k x235000 x235001 x235002 x235003 x235004 x235005).bind fun t238 => ((cubbyref07_within.f k t238 x1).bind fun t241 => (cubbyref07_One.j1 k x2 (!t241) x235000 x235001 x235002 x235003 x235004 x235005))) else ((cubbyref07_Def.f x235000 x235001 x235002 x235003 x235004 x235005).bind fun t242 => (if t242 < 0 then (cubbyref07_One.j1 k x2 true x235000 x235001 x235002 x235003 x235004 x235005) else ((cubbyref07_Def.f x235000 x235001 x235002 x235003 x235004 x235005).bind fun t243 => (if t243 ≥ x1 then (cubbyref07_One.j1 k x2 true x235000 x235001 x235002 x235003 x235004 x235005) else ((cubbyref07_Uses.f k x235000 x235001 x235002 x235003 x235004 x235005).bind fun t244 => ((cubbyref07_within.f k t244 x1).bind fun t247 => (cubbyref07_One.j1 k x2 (!t247) x235000 x235001 x235002 x235003 x235004 x235005)))))))))
def cubbyref07_One.j1 : Nat → Int → Bool → Int → Int → Int → Int → ByteArray → List Int → Option (Int)
 | 0, _, _, _, _, _, _, _, _ => none
 | k + 1, x2, x49, x235000, x235001, x235002, x235003, x235004, x235005 => if x49 = true then (some 73) else ((cubbyref07_Def.f x235000 x235001 x235002 x235003 x235004 x235005).bind fun t248 => (if t248 = (-1) then (if x235000 = 9 then (cubbyref07_One.j2 k x2 false x235000 x235001 x235002 x235003 x235004 x235005) else (if x235000 = 10 then (cubbyref07_One.j2 k x2 false x235000 x235001 x235002 x235003 x235004 x235005) else ((cubbyref07_Last.f x235000).bind fun t249 => (cubbyref07_One.j2 k x2 (!t249) x235000 x235001 x235002 x235003 x235004 x235005)))) else (cubbyref07_One.j2 k x2 false x235000 x235001 x235002 x235003 x235004 x235005)))
def cubbyref07_One.j2 : Nat → Int → Bool → Int → Int → Int → Int → ByteArray → List Int → Option (Int)
 | 0, _, _, _, _, _, _, _, _ => none
 | k + 1, x2, x68, x235000, x235001, x235002, x235003, x235004, x235005 => if x68 = true then (some 73) else (if x235000 = 1 then (if x235002 < 0 then (cubbyref07_One.j3 k x2 true x235000 x235001 x235002 x235003 x235004 x235005) else (cubbyref07_One.j3 k x2 (decide (x235002 ≥ 65536)) x235000 x235001 x235002 x235003 x235004 x235005)) else (cubbyref07_One.j3 k x2 false x235000 x235001 x235002 x235003 x235004 x235005))
def cubbyref07_One.j3 : Nat → Int → Bool → Int → Int → Int → Int → ByteArray → List Int → Option (Int)
 | 0, _, _, _, _, _, _, _, _ => none
 | k + 1, x2, x81, x235000, x235001, x235002, x235003, x235004, x235005 => if x81 = true then (some 81) else ((cubbyref07_Targets.f x235000 x235001 x235002 x235003 x235004 x235005).bind fun t250 => ((cubbyref07_within.f k t250 x2).bind fun t253 => (if t253 = true then (if x235000 = 11 then ((cubbyref07_Name.f k x235004).bind fun t254 => (cubbyref07_One.j4 k (!t254) x235000 x235001 x235002 x235003 x235004 x235005)) else (cubbyref07_One.j4 k false x235000 x235001 x235002 x235003 x235004 x235005)) else (some 74))))
def cubbyref07_One.j4 : Nat → Bool → Int → Int → Int → Int → ByteArray → List Int → Option (Int)
 | 0, _, _, _, _, _, _, _ => none
 | k + 1, x95, x235000, x235001, x235002, x235003, x235004, x235005 => if x95 = true then (some 70) else (if x235000 = 11 then (if (x235005.length : Int) > 4 then (some 192) else (some 0)) else (some 0))
end
def cubbyref07_One.f (k : Nat) (a0_0 : Int) (a0_1 : Int) (a0_2 : Int) (a0_3 : Int) (a0_4 : ByteArray) (l0_5 : List Int) (a1 : Int) (a2 : Int) (a3 : Bool) : Option (Int) := if a0_0 < 1 then (cubbyref07_One.j0 k a1 a2 true a0_0 a0_1 a0_2 a0_3 a0_4 l0_5) else (if a0_0 > 14 then (cubbyref07_One.j0 k a1 a2 true a0_0 a0_1 a0_2 a0_3 a0_4 l0_5) else ((cubbyref07_Last.f a0_0).bind fun t235 => (if (t235 != a3) = true then (cubbyref07_One.j0 k a1 a2 true a0_0 a0_1 a0_2 a0_3 a0_4 l0_5) else ((cubbyref07_bare.f k a0_0 a0_1 a0_2 a0_3 a0_4 l0_5).bind fun t236 => (cubbyref07_One.j0 k a1 a2 (!t236) a0_0 a0_1 a0_2 a0_3 a0_4 l0_5)))))
theorem cubbyref07_One.mono_l : ∀ k, (∀ y0 y1 y2 y3 y4 y5 y6 y7 y8, LeO (cubbyref07_One.j0 k y0 y1 y2 y3 y4 y5 y6 y7 y8) (cubbyref07_One.j0 (k + 1) y0 y1 y2 y3 y4 y5 y6 y7 y8)) ∧ (∀ y0 y1 y2 y3 y4 y5 y6 y7, LeO (cubbyref07_One.j1 k y0 y1 y2 y3 y4 y5 y6 y7) (cubbyref07_One.j1 (k + 1) y0 y1 y2 y3 y4 y5 y6 y7)) ∧ (∀ y0 y1 y2 y3 y4 y5 y6 y7, LeO (cubbyref07_One.j2 k y0 y1 y2 y3 y4 y5 y6 y7) (cubbyref07_One.j2 (k + 1) y0 y1 y2 y3 y4 y5 y6 y7)) ∧ (∀ y0 y1 y2 y3 y4 y5 y6 y7, LeO (cubbyref07_One.j3 k y0 y1 y2 y3 y4 y5 y6 y7) (cubbyref07_One.j3 (k + 1) y0 y1 y2 y3 y4 y5 y6 y7)) ∧ (∀ y0 y1 y2 y3 y4 y5 y6, LeO (cubbyref07_One.j4 k y0 y1 y2 y3 y4 y5 y6) (cubbyref07_One.j4 (k + 1) y0 y1 y2 y3 y4 y5 y6))
 | 0 => ⟨fun _ _ _ _ _ _ _ _ _ r h => by simp [cubbyref07_One.j0] at h, fun _ _ _ _ _ _ _ _ r h => by simp [cubbyref07_One.j1] at h, fun _ _ _ _ _ _ _ _ r h => by simp [cubbyref07_One.j2] at h, fun _ _ _ _ _ _ _ _ r h => by simp [cubbyref07_One.j3] at h, fun _ _ _ _ _ _ _ r h => by simp [cubbyref07_One.j4] at h⟩
 | k + 1 => by
  obtain ⟨ih0, ih1, ih2, ih3, ih4⟩ := cubbyref07_One.mono_l k
  refine ⟨?_, ?_, ?_, ?_, ?_⟩ <;> intros <;> (first | unfold cubbyref07_One.j0 | unfold cubbyref07_One.j1 | unfold cubbyref07_One.j2 | unfold cubbyref07_One.j3 | unfold cubbyref07_One.j4) <;> repeat' first | (with_reducible exact ih0 _ _ _ _ _ _ _ _ _) | (with_reducible exact ih1 _ _ _ _ _ _ _ _) | (with_reducible exact ih2 _ _ _ _ _ _ _ _) | (with_reducible exact ih3 _ _ _ _ _ _ _ _) | (with_reducible exact ih4 _ _ _ _ _ _ _) | (with_reducible exact cubbyref07_Name.mono _ _) | (with_reducible exact cubbyref07_Uses.mono _ _ _ _ _ _ _) | (with_reducible exact cubbyref07_bare.mono _ _ _ _ _ _ _) | (with_reducible exact cubbyref07_within.mono _ _ _) | (with_reducible exact LeO.refl _) | (with_reducible exact LeO.none _) | (with_reducible refine LeO.ite ?_ ?_) | (with_reducible refine LeO.bind ?_ (fun _ => ?_)) | exact LeO.none _ | refine LeO.ite ?_ ?_ | refine LeO.bind ?_ (fun _ => ?_)
theorem cubbyref07_One.mono : ∀ a0 a1 a2 a3 a4 a5 a6 a7 a8 k, LeO (cubbyref07_One.f k a0 a1 a2 a3 a4 a5 a6 a7 a8) (cubbyref07_One.f (k + 1) a0 a1 a2 a3 a4 a5 a6 a7 a8) := by
 intro a0 a1 a2 a3 a4 a5 a6 a7 a8 k
 obtain ⟨ih0, ih1, ih2, ih3, ih4⟩ := cubbyref07_One.mono_l k
 unfold cubbyref07_One.f
 repeat' first | (with_reducible exact ih0 _ _ _ _ _ _ _ _ _) | (with_reducible exact ih1 _ _ _ _ _ _ _ _) | (with_reducible exact ih2 _ _ _ _ _ _ _ _) | (with_reducible exact ih3 _ _ _ _ _ _ _ _) | (with_reducible exact ih4 _ _ _ _ _ _ _) | (with_reducible exact cubbyref07_Name.mono _ _) | (with_reducible exact cubbyref07_Uses.mono _ _ _ _ _ _ _) | (with_reducible exact cubbyref07_bare.mono _ _ _ _ _ _ _) | (with_reducible exact cubbyref07_within.mono _ _ _) | (with_reducible exact LeO.refl _) | (with_reducible exact LeO.none _) | (with_reducible refine LeO.ite ?_ ?_) | (with_reducible refine LeO.bind ?_ (fun _ => ?_)) | exact LeO.none _ | refine LeO.ite ?_ ?_ | refine LeO.bind ?_ (fun _ => ?_)
set_option maxHeartbeats 8000000 in
set_option maxRecDepth 100000 in
theorem cubbyref07_One.calls (k : Nat) (a0_0 : Int) (a0_1 : Int) (a0_2 : Int) (a0_3 : Int) (a0_4 : ByteArray) (A0_5 : Option Addr) (c0_5 : Nat) (l0_5 : List Int) (a1 : Int) (a2 : Int) (a3 : Bool) (r : Int) (w : World) (hr0_5 : Kd.C (Kd.int .i64) w A0_5 l0_5.length l0_5) (hc0_5 : l0_5.length ≤ c0_5) (h : cubbyref07_One.f k a0_0 a0_1 a0_2 a0_3 a0_4 l0_5 a1 a2 a3 = some r) :
  Calls Tryd.prog 27 #[.agg #[.int .i64 a0_0, .int .i64 a0_1, .int .i64 a0_2, .int .i64 a0_3, .string a0_4, .slice A0_5 l0_5.length c0_5], .int .i64 a1, .int .i64 a2, .bool a3] w fun e w' => e = .returned (.int .i64 r) ∧ Below w.heap.size w w' := by
 have hu31 := Tryd.underlying31
 have HR0_5 := Aside0.mk hr0_5
 have HC0_5 := Aside0.mk hc0_5
 clear hr0_5 hc0_5
 have HB := Aside0.mk (Below.refl w.heap.size w)
 have H := h; clear h; unfold cubbyref07_One.f at H
 have HC5 := Aside0.mk H
 clear H
 go_enter Tryd.func27, Tryd.ntmps27
 go_upto_region 1 with (first | ((with_reducible refine gate_dst (N := 4) rfl ?_); (try (refine gate_guard (by rfl) ?_; dsimp only)); refine box_event (by rfl) (N := 4) (by rfl) (cs := #[.int .i64 a0_0, .int .i64 a0_1, .int .i64 a0_2, .int .i64 a0_3, .string a0_4, .slice A0_5 l0_5.length c0_5]) (t := 31) ?hr ?_; (case hr => first | (go_simp; done) | (go_simp; rfl)); intro gb234 hg w6 hbox hb; have BK234 := Aside0.mk (hbox); have GW234 := qG hg; have GE234 := GW234; replace HB := qH hb; clear hb hbox hg))
 (try simp only [Act.put, List.setIfInBounds_toArray, List.set_cons_zero, List.set_cons_succ])
 go_cut [28] (fun v28 wc => ∃ (kq : Nat) (x28_4 : Bool), v28 = .bool x28_4 ∧ Aside0 (cubbyref07_One.j0 kq a1 a2 x28_4 a0_0 a0_1 a0_2 a0_3 a0_4 l0_5 = some r) ∧ Aside0 (kq ≤ k) ∧ Aside0 (wc.heap[gb234]? = some (.cells #[.int .i64 a0_0, .int .i64 a0_1, .int .i64 a0_2, .int .i64 a0_3, .string a0_4, (.slice A0_5 l0_5.length c0_5)] 31 (0, 0))) ∧ Aside0 (Below w.heap.size w wc))
 case first =>
  have H := HC5.out
  clear HC5
  by_cases c7 : a0_0 < 1
  ·rw [if_pos c7] at H
   have c7b0 := decide_eq_true c7
   clear c7
   (first | rw [c7b0] | (simp only [i64_w, i32_w]; rw [c7b0]) | skip)
   have H' := Aside0.mk H
   clear H
   have z8_0 := bk6 BK234.out
   go_wp2
   go_meet
   case rel => exact ⟨_, (true), qT, H', ⟨qO⟩, ⟨qK BK234.out⟩, ⟨qB⟩⟩
  ·rw [if_neg c7] at H
   have c7b0 := decide_eq_false c7
   clear c7
   (first | rw [c7b0] | (simp only [i64_w, i32_w]; rw [c7b0]) | skip)
   by_cases c9 : a0_0 > 14
   ·rw [if_pos c9] at H
    have c9b0 : decide (14 < a0_0) = true := decide_eq_true c9
    clear c9
    have H' := Aside0.mk H
    clear H
    have z10_0 := bk6 BK234.out
    go_wp2
    go_meet
    case rel => exact ⟨_, (true), qT, H', ⟨qO⟩, ⟨qK BK234.out⟩, ⟨qB⟩⟩
   ·rw [if_neg c9] at H
    have c9b0 : decide (14 < a0_0) = false := decide_eq_false c9
    clear c9
    replace H := qb H; obtain ⟨t235, A11, H⟩ := H
    by_cases c12 : (t235 != a3) = true
    ·rw [if_pos c12] at H
     have c12b0 : (t235 != a3) = true := c12
     (try (have c12b1 : decide (t235 = a3) = false := by simpa using c12))
     (try (have c12b2 : (t235 == a3) = false := by simpa using c12))
     (try (have c12b3 : ¬ (t235 = a3) := by simpa using c12))
     clear c12
     have H' := Aside0.mk H
     clear H
     have z13_0 := bk6 BK234.out
     go_wp2_with (first | (go_at_call 36; (with_reducible refine (cubbyref07_Last.calls a0_0 t235 _ A11.out).mono ?_); (try clear A11); rintro e w' ⟨rfl, ⟨nd, rfl⟩⟩))
     go_meet
     case rel => exact ⟨_, (true), qT, H', ⟨qO⟩, ⟨qK BK234.out⟩, ⟨qB⟩⟩
    ·rw [if_neg c12] at H
     have c12b0 : (t235 != a3) = false := by simpa using c12
     (try (have c12b1 : decide (t235 = a3) = true := by simpa using c12))
     (try (have c12b2 : (t235 == a3) = true := by simpa using c12))
     clear c12
     replace H := qb H; obtain ⟨t236, A14, H⟩ := H
     have H' := Aside0.mk H
     clear H
     have z15_0 := bk6 BK234.out
     go_wp2_with (first | (go_at_call 36; (with_reducible refine (cubbyref07_Last.calls a0_0 t235 _ A11.out).mono ?_); (try clear A11); rintro e w' ⟨rfl, ⟨nd, rfl⟩⟩) | (go_at_call 37; (with_reducible refine (cubbyref07_bare.calls k a0_0 a0_1 a0_2 a0_3 a0_4 _ _ l0_5 t236 _ ?side1 ?side2 A14.out).mono ?_); (case side1 => repeat (first | exact (Kd.C_below HR0_5.out qB) | (with_reducible refine Kd.C_alloc ?_ _) | (with_reducible refine Kd.C_drewN ?_ _) | (with_reducible refine Kd.C_drew ?_))); (case side2 => exact HC0_5.out); (try clear A14); rintro e w16 ⟨rfl, hb⟩; replace BK234 := qW BK234 hb; replace HB := qH hb; (try clear hb)))
     go_meet
     case rel => exact ⟨_, (!t236), qT, H', ⟨qO⟩, ⟨qK BK234.out⟩, ⟨qB⟩⟩
 case rest =>
  clear HC5
  try clear c1; try clear c2; try clear p2; try clear c7; try clear c7b0; try clear c9; try clear c9b0; try clear c12; try clear c12b0 c12b1 c12b2; try clear z10_0; try clear z13_0; try clear z15_0; try clear z8_0
  obtain ⟨kq, x28_4, rfl, HA, HJ4, BK234, HB⟩ := hcut
  cases kq with
  | zero => exact absurd HA.out (by simp [cubbyref07_One.j0])
  | succ kj4 =>
   have H := HA.out
   clear HA
   simp only [cubbyref07_One.j0] at H
   by_cases c17 : x28_4 = true
   ·subst c17
    have H1 : (some 72) = some r := by rw [if_pos rfl] at H; exact H
    clear H
    have H := H1
    clear H1
    obtain rfl := Option.some.inj H
    go_wp2
    go_ret
    exact ⟨qE, qB⟩
   ·replace c17 := Bool.eq_false_iff.mpr c17
    subst c17
    have H1 : ((cubbyref07_Def.f a0_0 a0_1 a0_2 a0_3 a0_4 l0_5).bind fun t237 => (if t237 = (-1) then ((cubbyref07_Uses.f kj4 a0_0 a0_1 a0_2 a0_3 a0_4 l0_5).bind fun t238 => ((cubbyref07_within.f kj4 t238 a1).bind fun t241 => (cubbyref07_One.j1 kj4 a2 (!t241) a0_0 a0_1 a0_2 a0_3 a0_4 l0_5))) else ((cubbyref07_Def.f a0_0 a0_1 a0_2 a0_3 a0_4 l0_5).bind fun t242 => (if t242 < 0 then (cubbyref07_One.j1 kj4 a2 true a0_0 a0_1 a0_2 a0_3 a0_4 l0_5) else ((cubbyref07_Def.f a0_0 a0_1 a0_2 a0_3 a0_4 l0_5).bind fun t243 => (if t243 ≥ a1 then (cubbyref07_One.j1 kj4 a2 true a0_0 a0_1 a0_2 a0_3 a0_4 l0_5) else ((cubbyref07_Uses.f kj4 a0_0 a0_1 a0_2 a0_3 a0_4 l0_5).bind fun t244 => ((cubbyref07_within.f kj4 t244 a1).bind fun t247 => (cubbyref07_One.j1 kj4 a2 (!t247) a0_0 a0_1 a0_2 a0_3 a0_4 l0_5))))))))) = some r := by rw [if_neg (show ¬ (false = true) by decide)] at H; exact H
    clear H
    have H := H1
    clear H1
    have HC18 := Aside0.mk H
    clear H
    go_upto_region 3 with (fail)
    go_cut [49] (fun v49 wc => ∃ (kq : Nat) (x49_17 : Bool), v49 = .bool x49_17 ∧ Aside0 (cubbyref07_One.j1 kq a2 x49_17 a0_0 a0_1 a0_2 a0_3 a0_4 l0_5 = some r) ∧ Aside0 (kq ≤ kj4) ∧ Aside0 (wc.heap[gb234]? = some (.cells #[.int .i64 a0_0, .int .i64 a0_1, .int .i64 a0_2, .int .i64 a0_3, .string a0_4, (.slice A0_5 l0_5.length c0_5)] 31 (0, 0))) ∧ Aside0 (Below w.heap.size w wc))
    case first =>
     have H := HC18.out
     clear HC18
     replace H := qb H; obtain ⟨t237, A19, H⟩ := H
     by_cases c20 : t237 = (-1)
     ·rw [if_pos c20] at H
      obtain ⟨c20b0, c20b1⟩ := qe c20; clear c20
      (first | rw [c20b0] | (simp only [i64_w, i32_w]; rw [c20b0]) | skip)
      replace H := qb H; obtain ⟨t238, A21, H⟩ := H
      replace H := qb H; obtain ⟨t241, A22, H⟩ := H
      have H' := Aside0.mk H
      clear H
      have z23_0 := bk6 BK234.out
      go_wp2_with (first | ((with_reducible refine gate_callee (f := 38) rfl ?_); refine goesL_ (some 30) rfl rfl Tryd.func38 (by kernel_rfl) rfl #[.agg #[.int .i64 a0_0, .int .i64 a0_1, .int .i64 a0_2, .int .i64 a0_3, .string a0_4, .slice A0_5 l0_5.length c0_5]] rfl qL ?_; (with_reducible refine (cubbyref07_Def.calls a0_0 a0_1 a0_2 a0_3 a0_4 _ _ l0_5 t237 _ ?side1 ?side2 A19.out).mono ?_); (case side1 => exact qCB HR0_5.out); (case side2 => exact HC0_5.out); rintro e w24 ⟨rfl, hb⟩; refine ⟨_, rfl, ?_⟩; replace BK234 := qW BK234 hb; replace HB := qH hb; (try clear hb); have z25_0 := bk6 BK234.out) | (go_at_call 40; (with_reducible refine (cubbyref07_Uses.calls kj4 a0_0 a0_1 a0_2 a0_3 a0_4 _ _ l0_5 t238 _ ?side1 ?side2 A21.out).mono ?_); (case side1 => exact qCB HR0_5.out); (case side2 => exact HC0_5.out); (try clear A21); rintro e w26 ⟨v239, rfl, ho0, hb⟩; have HO240 := Aside0.mk (Kd.R_lower ho0 (below_size qB)); replace BK234 := qW BK234 hb; replace HB := qH hb; (try clear hb); (try clear ho0); obtain ⟨Ao27, co27, eo27⟩ := Kd.R_slice HO240.out; subst eo27) | (go_at_call 39; (with_reducible refine (cubbyref07_within.calls kj4 _ _ t238 a1 t241 _ ?side1 ?side2 A22.out).mono ?_); (case side1 => repeat (first | exact (Kd.R_reads' HO240.out).2.2 | (with_reducible refine Kd.C_alloc ?_ _) | (with_reducible refine Kd.C_drewN ?_ _) | (with_reducible refine Kd.C_drew ?_))); (case side2 => exact (Kd.R_reads' HO240.out).2.1); (try clear A22); rintro e w' ⟨rfl, ⟨nd, rfl⟩⟩))
      go_meet
      case rel => exact ⟨_, (!t241), qT, H', ⟨by have := HJ4.out; first | omega | exact Nat.le_refl _⟩, ⟨qK BK234.out⟩, ⟨qB⟩⟩
     ·rw [if_neg c20] at H
      obtain ⟨c20b0, c20b1⟩ := qn c20
      (first | rw [c20b0] | (simp only [i64_w, i32_w]; rw [c20b0]) | skip)
      replace H := qb H; obtain ⟨t242, A28, H⟩ := H
      by_cases c29 : t242 < 0
      ·rw [if_pos c29] at H
       have c29b0 := decide_eq_true c29
       clear c29
       have H' := Aside0.mk H
       clear H
       have z30_0 := bk6 BK234.out
       go_wp2_with (first | ((with_reducible refine gate_callee (f := 38) rfl ?_); refine goesL_ (some 30) rfl rfl Tryd.func38 (by kernel_rfl) rfl #[.agg #[.int .i64 a0_0, .int .i64 a0_1, .int .i64 a0_2, .int .i64 a0_3, .string a0_4, .slice A0_5 l0_5.length c0_5]] rfl qL ?_; (with_reducible refine (cubbyref07_Def.calls a0_0 a0_1 a0_2 a0_3 a0_4 _ _ l0_5 t237 _ ?side1 ?side2 A19.out).mono ?_); (case side1 => exact qCB HR0_5.out); (case side2 => exact HC0_5.out); rintro e w31 ⟨rfl, hb⟩; refine ⟨_, rfl, ?_⟩; replace BK234 := qW BK234 hb; replace HB := qH hb; (try clear hb); have z32_0 := bk6 BK234.out) | (go_at_call 38; (with_reducible refine (cubbyref07_Def.calls a0_0 a0_1 a0_2 a0_3 a0_4 _ _ l0_5 t242 _ ?side1 ?side2 A28.out).mono ?_); (case side1 => exact qCB HR0_5.out); (case side2 => exact HC0_5.out); (try clear A28); rintro e w33 ⟨rfl, hb⟩; replace BK234 := qW BK234 hb; replace HB := qH hb; (try clear hb)))
       go_meet
       case rel => exact ⟨_, (true), qT, H', ⟨by have := HJ4.out; first | omega | exact Nat.le_refl _⟩, ⟨qK BK234.out⟩, ⟨qB⟩⟩
      ·rw [if_neg c29] at H
       have c29b0 := decide_eq_false c29
       clear c29
       replace H := qb H; obtain ⟨t243, A34, H⟩ := H
       by_cases c35 : t243 ≥ a1
       ·rw [if_pos c35] at H
        have c35b0 : decide (a1 ≤ t243) = true := decide_eq_true c35
        clear c35
        have H' := Aside0.mk H
        clear H
        have z36_0 := bk6 BK234.out
        go_wp2_with (first | ((with_reducible refine gate_callee (f := 38) rfl ?_); refine goesL_ (some 30) rfl rfl Tryd.func38 (by kernel_rfl) rfl #[.agg #[.int .i64 a0_0, .int .i64 a0_1, .int .i64 a0_2, .int .i64 a0_3, .string a0_4, .slice A0_5 l0_5.length c0_5]] rfl qL ?_; (with_reducible refine (cubbyref07_Def.calls a0_0 a0_1 a0_2 a0_3 a0_4 _ _ l0_5 t237 _ ?side1 ?side2 A19.out).mono ?_); (case side1 => exact qCB HR0_5.out); (case side2 => exact HC0_5.out); rintro e w37 ⟨rfl, hb⟩; refine ⟨_, rfl, ?_⟩; replace BK234 := qW BK234 hb; replace HB := qH hb; (try clear hb); have z38_0 := bk6 BK234.out) | (go_at_call 38; (with_reducible refine (cubbyref07_Def.calls a0_0 a0_1 a0_2 a0_3 a0_4 _ _ l0_5 t242 _ ?side1 ?side2 A28.out).mono ?_); (case side1 => exact qCB HR0_5.out); (case side2 => exact HC0_5.out); (try clear A28); rintro e w39 ⟨rfl, hb⟩; replace BK234 := qW BK234 hb; replace HB := qH hb; (try clear hb); have z40_0 := bk6 BK234.out) | (go_at_call 38; (with_reducible refine (cubbyref07_Def.calls a0_0 a0_1 a0_2 a0_3 a0_4 _ _ l0_5 t243 _ ?side1 ?side2 A34.out).mono ?_); (case side1 => exact qCB HR0_5.out); (case side2 => exact HC0_5.out); (try clear A34); rintro e w41 ⟨rfl, hb⟩; replace BK234 := qW BK234 hb; replace HB := qH hb; (try clear hb)))
        go_meet
        case rel => exact ⟨_, (true), qT, H', ⟨by have := HJ4.out; first | omega | exact Nat.le_refl _⟩, ⟨qK BK234.out⟩, ⟨qB⟩⟩
       ·rw [if_neg c35] at H
        have c35b0 : decide (a1 ≤ t243) = false := decide_eq_false c35
        clear c35
        replace H := qb H; obtain ⟨t244, A42, H⟩ := H
        replace H := qb H; obtain ⟨t247, A43, H⟩ := H
        have H' := Aside0.mk H
        clear H
        have z44_0 := bk6 BK234.out
        go_wp2_with (first | ((with_reducible refine gate_callee (f := 38) rfl ?_); refine goesL_ (some 30) rfl rfl Tryd.func38 (by kernel_rfl) rfl #[.agg #[.int .i64 a0_0, .int .i64 a0_1, .int .i64 a0_2, .int .i64 a0_3, .string a0_4, .slice A0_5 l0_5.length c0_5]] rfl qL ?_; (with_reducible refine (cubbyref07_Def.calls a0_0 a0_1 a0_2 a0_3 a0_4 _ _ l0_5 t237 _ ?side1 ?side2 A19.out).mono ?_); (case side1 => exact qCB HR0_5.out); (case side2 => exact HC0_5.out); rintro e w45 ⟨rfl, hb⟩; refine ⟨_, rfl, ?_⟩; replace BK234 := qW BK234 hb; replace HB := qH hb; (try clear hb); have z46_0 := bk6 BK234.out) | (go_at_call 38; (with_reducible refine (cubbyref07_Def.calls a0_0 a0_1 a0_2 a0_3 a0_4 _ _ l0_5 t242 _ ?side1 ?side2 A28.out).mono ?_); (case side1 => exact qCB HR0_5.out); (case side2 => exact HC0_5.out); (try clear A28); rintro e w47 ⟨rfl, hb⟩; replace BK234 := qW BK234 hb; replace HB := qH hb; (try clear hb); have z48_0 := bk6 BK234.out) | (go_at_call 38; (with_reducible refine (cubbyref07_Def.calls a0_0 a0_1 a0_2 a0_3 a0_4 _ _ l0_5 t243 _ ?side1 ?side2 A34.out).mono ?_); (case side1 => exact qCB HR0_5.out); (case side2 => exact HC0_5.out); (try clear A34); rintro e w49 ⟨rfl, hb⟩; replace BK234 := qW BK234 hb; replace HB := qH hb; (try clear hb); have z50_0 := bk6 BK234.out) | (go_at_call 40; (with_reducible refine (cubbyref07_Uses.calls kj4 a0_0 a0_1 a0_2 a0_3 a0_4 _ _ l0_5 t244 _ ?side1 ?side2 A42.out).mono ?_); (case side1 => exact qCB HR0_5.out); (case side2 => exact HC0_5.out); (try clear A42); rintro e w51 ⟨v245, rfl, ho0, hb⟩; have HO246 := Aside0.mk (Kd.R_lower ho0 (below_size qB)); replace BK234 := qW BK234 hb; replace HB := qH hb; (try clear hb); (try clear ho0); obtain ⟨Ao52, co52, eo52⟩ := Kd.R_slice HO246.out; subst eo52) | (go_at_call 39; (with_reducible refine (cubbyref07_within.calls kj4 _ _ t244 a1 t247 _ ?side1 ?side2 A43.out).mono ?_); (case side1 => repeat (first | exact (Kd.R_reads' HO246.out).2.2 | (with_reducible refine Kd.C_alloc ?_ _) | (with_reducible refine Kd.C_drewN ?_ _) | (with_reducible refine Kd.C_drew ?_))); (case side2 => exact (Kd.R_reads' HO246.out).2.1); (try clear A43); rintro e w' ⟨rfl, ⟨nd, rfl⟩⟩))
        go_meet
        case rel => exact ⟨_, (!t247), qT, H', ⟨by have := HJ4.out; first | omega | exact Nat.le_refl _⟩, ⟨qK BK234.out⟩, ⟨qB⟩⟩
    case rest =>
     clear HC18
     try clear c1; try clear c2; try clear p2; try clear c3; try clear c7; try clear c7b0; try clear c9; try clear c9b0; try clear c12; try clear c12b0 c12b1 c12b2; try clear c17; try clear c20; try clear c20b0 c20b1; try clear c27; try clear c29; try clear c29b0; try clear c35; try clear c35b0; try clear c38; try clear z10_0; try clear z13_0; try clear z15_0; try clear z23_0; try clear z25_0; try clear z30_0; try clear z32_0; try clear z36_0; try clear z38_0; try clear z40_0; try clear z44_0; try clear z46_0; try clear z48_0; try clear z50_0; try clear z8_0
     obtain ⟨kq, x49_17, rfl, HA, HJ17, BK234, HB⟩ := hcut
     cases kq with
     | zero => exact absurd HA.out (by simp [cubbyref07_One.j1])
     | succ kj17 =>
      have H := HA.out
      clear HA
      simp only [cubbyref07_One.j1] at H
      by_cases c53 : x49_17 = true
      ·subst c53
       have H1 : (some 73) = some r := by rw [if_pos rfl] at H; exact H
       clear H
       have H := H1
       clear H1
       obtain rfl := Option.some.inj H
       go_wp2
       go_ret
       exact ⟨qE, qB⟩
      ·replace c53 := Bool.eq_false_iff.mpr c53
       subst c53
       have H1 : ((cubbyref07_Def.f a0_0 a0_1 a0_2 a0_3 a0_4 l0_5).bind fun t248 => (if t248 = (-1) then (if a0_0 = 9 then (cubbyref07_One.j2 kj17 a2 false a0_0 a0_1 a0_2 a0_3 a0_4 l0_5) else (if a0_0 = 10 then (cubbyref07_One.j2 kj17 a2 false a0_0 a0_1 a0_2 a0_3 a0_4 l0_5) else ((cubbyref07_Last.f a0_0).bind fun t249 => (cubbyref07_One.j2 kj17 a2 (!t249) a0_0 a0_1 a0_2 a0_3 a0_4 l0_5)))) else (cubbyref07_One.j2 kj17 a2 false a0_0 a0_1 a0_2 a0_3 a0_4 l0_5))) = some r := by rw [if_neg (show ¬ (false = true) by decide)] at H; exact H
       clear H
       have H := H1
       clear H1
       have HC54 := Aside0.mk H
       clear H
       go_upto_region 5 with (fail)
       go_cut [68] (fun v68 wc => ∃ (kq : Nat) (x68_53 : Bool), v68 = .bool x68_53 ∧ Aside0 (cubbyref07_One.j2 kq a2 x68_53 a0_0 a0_1 a0_2 a0_3 a0_4 l0_5 = some r) ∧ Aside0 (kq ≤ kj17) ∧ Aside0 (wc.heap[gb234]? = some (.cells #[.int .i64 a0_0, .int .i64 a0_1, .int .i64 a0_2, .int .i64 a0_3, .string a0_4, (.slice A0_5 l0_5.length c0_5)] 31 (0, 0))) ∧ Aside0 (Below w.heap.size w wc))
       case first =>
        have H := HC54.out
        clear HC54
        replace H := qb H; obtain ⟨t248, A55, H⟩ := H
        by_cases c56 : t248 = (-1)
        ·rw [if_pos c56] at H
         obtain ⟨c56b0, c56b1⟩ := qe c56; clear c56
         (first | rw [c56b0] | (simp only [i64_w, i32_w]; rw [c56b0]) | skip)
         by_cases c57 : a0_0 = 9
         ·rw [if_pos c57] at H
          obtain ⟨c57b0, c57b1⟩ := qe c57; clear c57
          have H' := Aside0.mk H
          clear H
          have z58_0 := bk6 BK234.out
          go_wp2_with (first | ((with_reducible refine gate_callee (f := 38) rfl ?_); refine goesL_ (some 51) rfl rfl Tryd.func38 (by kernel_rfl) rfl #[.agg #[.int .i64 a0_0, .int .i64 a0_1, .int .i64 a0_2, .int .i64 a0_3, .string a0_4, .slice A0_5 l0_5.length c0_5]] rfl qL ?_; (with_reducible refine (cubbyref07_Def.calls a0_0 a0_1 a0_2 a0_3 a0_4 _ _ l0_5 t248 _ ?side1 ?side2 A55.out).mono ?_); (case side1 => exact qCB HR0_5.out); (case side2 => exact HC0_5.out); rintro e w59 ⟨rfl, hb⟩; refine ⟨_, rfl, ?_⟩; replace BK234 := qW BK234 hb; replace HB := qH hb; (try clear hb); have z60_0 := bk6 BK234.out))
          go_meet
          case rel => exact ⟨_, (false), qT, H', ⟨by have := HJ4.out; have := HJ17.out; first | omega | exact Nat.le_refl _⟩, ⟨qK BK234.out⟩, ⟨qB⟩⟩
         ·rw [if_neg c57] at H
          obtain ⟨c57b0, c57b1⟩ := qn c57
          by_cases c61 : a0_0 = 10
          ·rw [if_pos c61] at H
           obtain ⟨c61b0, c61b1⟩ := qe c61; clear c61
           have H' := Aside0.mk H
           clear H
           have z62_0 := bk6 BK234.out
           go_wp2_with (first | ((with_reducible refine gate_callee (f := 38) rfl ?_); refine goesL_ (some 51) rfl rfl Tryd.func38 (by kernel_rfl) rfl #[.agg #[.int .i64 a0_0, .int .i64 a0_1, .int .i64 a0_2, .int .i64 a0_3, .string a0_4, .slice A0_5 l0_5.length c0_5]] rfl qL ?_; (with_reducible refine (cubbyref07_Def.calls a0_0 a0_1 a0_2 a0_3 a0_4 _ _ l0_5 t248 _ ?side1 ?side2 A55.out).mono ?_); (case side1 => exact qCB HR0_5.out); (case side2 => exact HC0_5.out); rintro e w63 ⟨rfl, hb⟩; refine ⟨_, rfl, ?_⟩; replace BK234 := qW BK234 hb; replace HB := qH hb; (try clear hb); have z64_0 := bk6 BK234.out))
           go_meet
           case rel => exact ⟨_, (false), qT, H', ⟨by have := HJ4.out; have := HJ17.out; first | omega | exact Nat.le_refl _⟩, ⟨qK BK234.out⟩, ⟨qB⟩⟩
          ·rw [if_neg c61] at H
           obtain ⟨c61b0, c61b1⟩ := qn c61
           replace H := qb H; obtain ⟨t249, A65, H⟩ := H
           have H' := Aside0.mk H
           clear H
           have z66_0 := bk6 BK234.out
           go_wp2_with (first | ((with_reducible refine gate_callee (f := 38) rfl ?_); refine goesL_ (some 51) rfl rfl Tryd.func38 (by kernel_rfl) rfl #[.agg #[.int .i64 a0_0, .int .i64 a0_1, .int .i64 a0_2, .int .i64 a0_3, .string a0_4, .slice A0_5 l0_5.length c0_5]] rfl qL ?_; (with_reducible refine (cubbyref07_Def.calls a0_0 a0_1 a0_2 a0_3 a0_4 _ _ l0_5 t248 _ ?side1 ?side2 A55.out).mono ?_); (case side1 => exact qCB HR0_5.out); (case side2 => exact HC0_5.out); rintro e w67 ⟨rfl, hb⟩; refine ⟨_, rfl, ?_⟩; replace BK234 := qW BK234 hb; replace HB := qH hb; (try clear hb); have z68_0 := bk6 BK234.out) | (go_at_call 36; (with_reducible refine (cubbyref07_Last.calls a0_0 t249 _ A65.out).mono ?_); (try clear A65); rintro e w' ⟨rfl, ⟨nd, rfl⟩⟩))
           go_meet
           case rel => exact ⟨_, (!t249), qT, H', ⟨by have := HJ4.out; have := HJ17.out; first | omega | exact Nat.le_refl _⟩, ⟨qK BK234.out⟩, ⟨qB⟩⟩
        ·rw [if_neg c56] at H
         obtain ⟨c56b0, c56b1⟩ := qn c56
         (first | rw [c56b0] | (simp only [i64_w, i32_w]; rw [c56b0]) | skip)
         have H' := Aside0.mk H
         clear H
         have z69_0 := bk6 BK234.out
         go_wp2_with (first | ((with_reducible refine gate_callee (f := 38) rfl ?_); refine goesL_ (some 51) rfl rfl Tryd.func38 (by kernel_rfl) rfl #[.agg #[.int .i64 a0_0, .int .i64 a0_1, .int .i64 a0_2, .int .i64 a0_3, .string a0_4, .slice A0_5 l0_5.length c0_5]] rfl qL ?_; (with_reducible refine (cubbyref07_Def.calls a0_0 a0_1 a0_2 a0_3 a0_4 _ _ l0_5 t248 _ ?side1 ?side2 A55.out).mono ?_); (case side1 => exact qCB HR0_5.out); (case side2 => exact HC0_5.out); rintro e w70 ⟨rfl, hb⟩; refine ⟨_, rfl, ?_⟩; replace BK234 := qW BK234 hb; replace HB := qH hb; (try clear hb)))
         go_meet
         case rel => exact ⟨_, (false), qT, H', ⟨by have := HJ4.out; have := HJ17.out; first | omega | exact Nat.le_refl _⟩, ⟨qK BK234.out⟩, ⟨qB⟩⟩
       case rest =>
        clear HC54
        try clear c1; try clear c2; try clear p2; try clear c3; try clear c5; try clear c6; try clear c7; try clear c7b0; try clear c9; try clear c9b0; try clear c12; try clear c12b0 c12b1 c12b2; try clear c17; try clear c20; try clear c20b0 c20b1; try clear c27; try clear c29; try clear c29b0; try clear c35; try clear c35b0; try clear c38; try clear c53; try clear c56; try clear c56b0 c56b1; try clear c57; try clear c57b0 c57b1; try clear c61; try clear c61b0 c61b1; try clear z10_0; try clear z13_0; try clear z15_0; try clear z23_0; try clear z25_0; try clear z30_0; try clear z32_0; try clear z36_0; try clear z38_0; try clear z40_0; try clear z44_0; try clear z46_0; try clear z48_0; try clear z50_0; try clear z58_0; try clear z60_0; try clear z62_0; try clear z64_0; try clear z66_0; try clear z68_0; try clear z69_0; try clear z8_0
        obtain ⟨kq, x68_53, rfl, HA, HJ53, BK234, HB⟩ := hcut
        cases kq with
        | zero => exact absurd HA.out (by simp [cubbyref07_One.j2])
        | succ kj53 =>
         have H := HA.out
         clear HA
         simp only [cubbyref07_One.j2] at H
         by_cases c71 : x68_53 = true
         ·subst c71
          have H1 : (some 73) = some r := by rw [if_pos rfl] at H; exact H
          clear H
          have H := H1
          clear H1
          obtain rfl := Option.some.inj H
          go_wp2
          go_ret
          exact ⟨qE, qB⟩
         ·replace c71 := Bool.eq_false_iff.mpr c71
          subst c71
          have H1 : (if a0_0 = 1 then (if a0_2 < 0 then (cubbyref07_One.j3 kj53 a2 true a0_0 a0_1 a0_2 a0_3 a0_4 l0_5) else (cubbyref07_One.j3 kj53 a2 (decide (a0_2 ≥ 65536)) a0_0 a0_1 a0_2 a0_3 a0_4 l0_5)) else (cubbyref07_One.j3 kj53 a2 false a0_0 a0_1 a0_2 a0_3 a0_4 l0_5)) = some r := by rw [if_neg (show ¬ (false = true) by decide)] at H; exact H
          clear H
          have H := H1
          clear H1
          have HC72 := Aside0.mk H
          clear H
          go_upto_region 7 with (fail)
          go_cut [81] (fun v81 wc => ∃ (kq : Nat) (x81_71 : Bool), v81 = .bool x81_71 ∧ Aside0 (cubbyref07_One.j3 kq a2 x81_71 a0_0 a0_1 a0_2 a0_3 a0_4 l0_5 = some r) ∧ Aside0 (kq ≤ kj53) ∧ Aside0 (wc.heap[gb234]? = some (.cells #[.int .i64 a0_0, .int .i64 a0_1, .int .i64 a0_2, .int .i64 a0_3, .string a0_4, (.slice A0_5 l0_5.length c0_5)] 31 (0, 0))) ∧ Aside0 (Below w.heap.size w wc))
          case first =>
           have H := HC72.out
           clear HC72
           by_cases c73 : a0_0 = 1
           ·rw [if_pos c73] at H
            obtain ⟨c73b0, c73b1⟩ := qe c73; clear c73
            (first | rw [c73b0] | (simp only [i64_w, i32_w]; rw [c73b0]) | skip)
            by_cases c74 : a0_2 < 0
            ·rw [if_pos c74] at H
             have c74b0 := decide_eq_true c74
             clear c74
             have H' := Aside0.mk H
             clear H
             have z75_0 := bk6 BK234.out
             go_wp2
             go_meet
             case rel => exact ⟨_, (true), qT, H', ⟨by have := HJ4.out; have := HJ17.out; have := HJ53.out; first | omega | exact Nat.le_refl _⟩, ⟨qK BK234.out⟩, ⟨qB⟩⟩
            ·rw [if_neg c74] at H
             have c74b0 := decide_eq_false c74
             clear c74
             have H' := Aside0.mk H
             clear H
             have z76_0 := bk6 BK234.out
             go_wp2
             go_meet
             case rel => exact ⟨_, (decide (a0_2 ≥ 65536)), qT, H', ⟨by have := HJ4.out; have := HJ17.out; have := HJ53.out; first | omega | exact Nat.le_refl _⟩, ⟨qK BK234.out⟩, ⟨qB⟩⟩
           ·rw [if_neg c73] at H
            obtain ⟨c73b0, c73b1⟩ := qn c73
            (first | rw [c73b0] | (simp only [i64_w, i32_w]; rw [c73b0]) | skip)
            have H' := Aside0.mk H
            clear H
            have z77_0 := bk6 BK234.out
            go_wp2
            go_meet
            case rel => exact ⟨_, (false), qT, H', ⟨by have := HJ4.out; have := HJ17.out; have := HJ53.out; first | omega | exact Nat.le_refl _⟩, ⟨qK BK234.out⟩, ⟨qB⟩⟩
          case rest =>
           clear HC72
           try clear c1; try clear c2; try clear p2; try clear c3; try clear c5; try clear c6; try clear c7; try clear c7b0; try clear c9; try clear c9b0; try clear c12; try clear c12b0 c12b1 c12b2; try clear c17; try clear c20; try clear c20b0 c20b1; try clear c27; try clear c29; try clear c29b0; try clear c35; try clear c35b0; try clear c38; try clear c53; try clear c56; try clear c56b0 c56b1; try clear c57; try clear c57b0 c57b1; try clear c61; try clear c61b0 c61b1; try clear c71; try clear c73; try clear c73b0 c73b1; try clear c74; try clear c74b0; try clear z10_0; try clear z13_0; try clear z15_0; try clear z23_0; try clear z25_0; try clear z30_0; try clear z32_0; try clear z36_0; try clear z38_0; try clear z40_0; try clear z44_0; try clear z46_0; try clear z48_0; try clear z50_0; try clear z58_0; try clear z60_0; try clear z62_0; try clear z64_0; try clear z66_0; try clear z68_0; try clear z69_0; try clear z75_0; try clear z76_0; try clear z77_0; try clear z8_0
           obtain ⟨kq, x81_71, rfl, HA, HJ71, BK234, HB⟩ := hcut
           cases kq with
           | zero => exact absurd HA.out (by simp [cubbyref07_One.j3])
           | succ kj71 =>
            have H := HA.out
            clear HA
            simp only [cubbyref07_One.j3] at H
            by_cases c78 : x81_71 = true
            ·subst c78
             have H1 : (some 81) = some r := by rw [if_pos rfl] at H; exact H
             clear H
             have H := H1
             clear H1
             obtain rfl := Option.some.inj H
             go_wp2
             go_ret
             exact ⟨qE, qB⟩
            ·replace c78 := Bool.eq_false_iff.mpr c78
             subst c78
             have H1 : ((cubbyref07_Targets.f a0_0 a0_1 a0_2 a0_3 a0_4 l0_5).bind fun t250 => ((cubbyref07_within.f kj71 t250 a2).bind fun t253 => (if t253 = true then (if a0_0 = 11 then ((cubbyref07_Name.f kj71 a0_4).bind fun t254 => (cubbyref07_One.j4 kj71 (!t254) a0_0 a0_1 a0_2 a0_3 a0_4 l0_5)) else (cubbyref07_One.j4 kj71 false a0_0 a0_1 a0_2 a0_3 a0_4 l0_5)) else (some 74)))) = some r := by rw [if_neg (show ¬ (false = true) by decide)] at H; exact H
             clear H
             have H := H1
             clear H1
             replace H := qb H; obtain ⟨t250, A79, H⟩ := H
             replace H := qb H; obtain ⟨t253, A80, H⟩ := H
             by_cases c81 : t253 = true
             ·subst c81
              have H1 : (if a0_0 = 11 then ((cubbyref07_Name.f kj71 a0_4).bind fun t254 => (cubbyref07_One.j4 kj71 (!t254) a0_0 a0_1 a0_2 a0_3 a0_4 l0_5)) else (cubbyref07_One.j4 kj71 false a0_0 a0_1 a0_2 a0_3 a0_4 l0_5)) = some r := by rw [if_pos rfl] at H; exact H
              clear H
              have H := H1
              clear H1
              have HC82 := Aside0.mk H
              clear H
              have z83_0 := bk6 BK234.out
              go_upto_region 11 with (first | ((with_reducible refine gate_callee (f := 41) rfl ?_); refine goesL_ (some 83) rfl rfl Tryd.func41 (by kernel_rfl) rfl #[.agg #[.int .i64 a0_0, .int .i64 a0_1, .int .i64 a0_2, .int .i64 a0_3, .string a0_4, .slice A0_5 l0_5.length c0_5]] rfl qL ?_; (with_reducible refine (cubbyref07_Targets.calls a0_0 a0_1 a0_2 a0_3 a0_4 _ _ l0_5 t250 _ ?side1 ?side2 A79.out).mono ?_); (case side1 => exact qCB HR0_5.out); (case side2 => exact HC0_5.out); rintro e w84 ⟨v251, rfl, ho0, hb⟩; refine ⟨_, rfl, ?_⟩; have HO252 := Aside0.mk (Kd.R_lower ho0 (below_size qB)); replace BK234 := qW BK234 hb; replace HB := qH hb; (try clear hb); (try clear ho0); obtain ⟨Ao85, co85, eo85⟩ := Kd.R_slice HO252.out; subst eo85) | ((with_reducible refine gate_callee (f := 39) rfl ?_); refine goesL_ (some 85) rfl rfl Tryd.func39 (by kernel_rfl) rfl #[.slice Ao85 t250.length co85, .int .i64 a2] rfl qL ?_; (with_reducible refine (cubbyref07_within.calls kj71 _ _ t250 a2 true _ ?side1 ?side2 A80.out).mono ?_); (case side1 => repeat (first | exact (Kd.R_reads' HO252.out).2.2 | (with_reducible refine Kd.C_alloc ?_ _) | (with_reducible refine Kd.C_drewN ?_ _) | (with_reducible refine Kd.C_drew ?_))); (case side2 => exact (Kd.R_reads' HO252.out).2.1); rintro e w' ⟨rfl, ⟨nd, rfl⟩⟩; refine ⟨_, rfl, ?_⟩))
              (try simp only [Act.put, List.setIfInBounds_toArray, List.set_cons_zero, List.set_cons_succ])
              go_cut [95] (fun v95 wc => ∃ (kq : Nat) (x95_81 : Bool), v95 = .bool x95_81 ∧ Aside0 (cubbyref07_One.j4 kq x95_81 a0_0 a0_1 a0_2 a0_3 a0_4 l0_5 = some r) ∧ Aside0 (kq ≤ kj71) ∧ Aside0 (wc.heap[gb234]? = some (.cells #[.int .i64 a0_0, .int .i64 a0_1, .int .i64 a0_2, .int .i64 a0_3, .string a0_4, (.slice A0_5 l0_5.length c0_5)] 31 (0, 0))) ∧ Aside0 (Below w.heap.size w wc))
              case first =>
               have H := HC82.out
               clear HC82
               by_cases c86 : a0_0 = 11
               ·rw [if_pos c86] at H
                obtain ⟨c86b0, c86b1⟩ := qe c86; clear c86
                (first | rw [c86b0] | (simp only [i64_w, i32_w]; rw [c86b0]) | skip)
                replace H := qb H; obtain ⟨t254, A87, H⟩ := H
                have H' := Aside0.mk H
                clear H
                have z88_0 := bk6 BK234.out
                go_wp2_with (first | (go_at_call 16; (with_reducible refine (cubbyref07_Name.calls kj71 a0_4 t254 _ A87.out).mono ?_); (try clear A87); rintro e w' ⟨rfl, ⟨nd, rfl⟩⟩))
                go_meet
                case rel => exact ⟨_, (!t254), qT, H', ⟨by have := HJ4.out; have := HJ17.out; have := HJ53.out; have := HJ71.out; first | omega | exact Nat.le_refl _⟩, ⟨qK BK234.out⟩, ⟨qB⟩⟩
               ·rw [if_neg c86] at H
                obtain ⟨c86b0, c86b1⟩ := qn c86
                (first | rw [c86b0] | (simp only [i64_w, i32_w]; rw [c86b0]) | skip)
                have H' := Aside0.mk H
                clear H
                have z89_0 := bk6 BK234.out
                go_wp2
                go_meet
                case rel => exact ⟨_, (false), qT, H', ⟨by have := HJ4.out; have := HJ17.out; have := HJ53.out; have := HJ71.out; first | omega | exact Nat.le_refl _⟩, ⟨qK BK234.out⟩, ⟨qB⟩⟩
              case rest =>
               clear HC82
               try clear c1; try clear c2; try clear p2; try clear c3; try clear c4; try clear c5; try clear c6; try clear c7; try clear c7b0; try clear c8; try clear c9; try clear c9b0; try clear c12; try clear c12b0 c12b1 c12b2; try clear c17; try clear c20; try clear c20b0 c20b1; try clear c27; try clear c29; try clear c29b0; try clear c35; try clear c35b0; try clear c38; try clear c39; try clear c41; try clear c53; try clear c56; try clear c56b0 c56b1; try clear c57; try clear c57b0 c57b1; try clear c61; try clear c61b0 c61b1; try clear c71; try clear c73; try clear c73b0 c73b1; try clear c74; try clear c74b0; try clear c78; try clear c81; try clear c86; try clear c86b0 c86b1; try clear z10_0; try clear z13_0; try clear z15_0; try clear z23_0; try clear z25_0; try clear z30_0; try clear z32_0; try clear z36_0; try clear z38_0; try clear z40_0; try clear z44_0; try clear z46_0; try clear z48_0; try clear z50_0; try clear z58_0; try clear z60_0; try clear z62_0; try clear z64_0; try clear z66_0; try clear z68_0; try clear z69_0; try clear z75_0; try clear z76_0; try clear z77_0; try clear z83_0; try clear z88_0; try clear z89_0; try clear z8_0
               obtain ⟨kq, x95_81, rfl, HA, HJ81, BK234, HB⟩ := hcut
               cases kq with
               | zero => exact absurd HA.out (by simp [cubbyref07_One.j4])
               | succ kj81 =>
                have H := HA.out
                clear HA
                simp only [cubbyref07_One.j4] at H
                by_cases c90 : x95_81 = true
                ·subst c90
                 have H1 : (some 70) = some r := by rw [if_pos rfl] at H; exact H
                 clear H
                 have H := H1
                 clear H1
                 obtain rfl := Option.some.inj H
                 go_wp2
                 go_ret
                 exact ⟨qE, qB⟩
                ·replace c90 := Bool.eq_false_iff.mpr c90
                 subst c90
                 have H1 : (if a0_0 = 11 then (if (l0_5.length : Int) > 4 then (some 192) else (some 0)) else (some 0)) = some r := by rw [if_neg (show ¬ (false = true) by decide)] at H; exact H
                 clear H
                 have H := H1
                 clear H1
                 by_cases c91 : a0_0 = 11
                 ·rw [if_pos c91] at H
                  obtain ⟨c91b0, c91b1⟩ := qe c91; clear c91
                  by_cases c92 : (l0_5.length : Int) > 4
                  ·rw [if_pos c92] at H
                   have c92b0 : decide (4 < (l0_5.length : Int)) = true := decide_eq_true c92
                   have c92b1 : decide (4 < l0_5.length) = true := decide_eq_true (by omega)
                   clear c92
                   obtain rfl := Option.some.inj H
                   have z93_0 := bk6 BK234.out
                   go_wp2
                   go_ret
                   exact ⟨qE, qB⟩
                  ·rw [if_neg c92] at H
                   have c92b0 : decide (4 < (l0_5.length : Int)) = false := decide_eq_false c92
                   have c92b1 : decide (4 < l0_5.length) = false := decide_eq_false (by omega)
                   clear c92
                   obtain rfl := Option.some.inj H
                   have z94_0 := bk6 BK234.out
                   go_wp2
                   go_ret
                   exact ⟨qE, qB⟩
                 ·rw [if_neg c91] at H
                  obtain ⟨c91b0, c91b1⟩ := qn c91
                  obtain rfl := Option.some.inj H
                  have z95_0 := bk6 BK234.out
                  go_wp2
                  go_ret
                  exact ⟨qE, qB⟩
             ·replace c81 := Bool.eq_false_iff.mpr c81
              subst c81
              have H1 : (some 74) = some r := by rw [if_neg (show ¬ (false = true) by decide)] at H; exact H
              clear H
              have H := H1
              clear H1
              obtain rfl := Option.some.inj H
              have z96_0 := bk6 BK234.out
              go_wp2_with (first | ((with_reducible refine gate_callee (f := 41) rfl ?_); refine goesL_ (some 83) rfl rfl Tryd.func41 (by kernel_rfl) rfl #[.agg #[.int .i64 a0_0, .int .i64 a0_1, .int .i64 a0_2, .int .i64 a0_3, .string a0_4, .slice A0_5 l0_5.length c0_5]] rfl qL ?_; (with_reducible refine (cubbyref07_Targets.calls a0_0 a0_1 a0_2 a0_3 a0_4 _ _ l0_5 t250 _ ?side1 ?side2 A79.out).mono ?_); (case side1 => exact qCB HR0_5.out); (case side2 => exact HC0_5.out); rintro e w97 ⟨v251, rfl, ho0, hb⟩; refine ⟨_, rfl, ?_⟩; have HO252 := Aside0.mk (Kd.R_lower ho0 (below_size qB)); replace BK234 := qW BK234 hb; replace HB := qH hb; (try clear hb); (try clear ho0); obtain ⟨Ao98, co98, eo98⟩ := Kd.R_slice HO252.out; subst eo98) | ((with_reducible refine gate_callee (f := 39) rfl ?_); refine goesL_ (some 85) rfl rfl Tryd.func39 (by kernel_rfl) rfl #[.slice Ao98 t250.length co98, .int .i64 a2] rfl qL ?_; (with_reducible refine (cubbyref07_within.calls kj71 _ _ t250 a2 false _ ?side1 ?side2 A80.out).mono ?_); (case side1 => repeat (first | exact (Kd.R_reads' HO252.out).2.2 | (with_reducible refine Kd.C_alloc ?_ _) | (with_reducible refine Kd.C_drewN ?_ _) | (with_reducible refine Kd.C_drew ?_))); (case side2 => exact (Kd.R_reads' HO252.out).2.1); rintro e w' ⟨rfl, ⟨nd, rfl⟩⟩; refine ⟨_, rfl, ?_⟩))
              go_ret
              exact ⟨qE, qB⟩

end Go.Proofs.YtbipipbfiekbgaaDoor.Q
