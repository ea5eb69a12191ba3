/- Lean functions that answer as the Go functions named below do, and the proofs of that. Written by a program out of the translation. -/
import Derived.Test.YtbipipbfiekbgaaDoorQ0
import Derived.Test.YtbipipbfiekbgaaDoorSq
import Derived.Test.YtbipipbfiekbgaaDoorLaid
import Derived.Test.YtbipipbfiekbgaaDoorQirName
import Derived.Test.YtbipipbfiekbgaaDoorQirone
namespace Go.Proofs.YtbipipbfiekbgaaDoor.Q
open Go.RowKit Go.Proofs.YtbipipbfiekbgaaDoorW.PrintWords Go.Proofs.YtbipipbfiekbgaaDoorW.PrintLast Go.Proofs.YtbipipbfiekbgaaDoorW.PrintMore
attribute [local go_sem] max2_int min2_int max_two min_two max_three min_three max_four min_four   -- for this text's walks alone
set_option linter.unusedVariables false
set_option linter.unusedSimpArgs false

/-! ### ir_Check: function 20 -/
mutual
def ir_Check.j0 : Nat → Bool → ByteArray → Int → Int → List (List (SIns)) → Option (Int)
 | 0, _, _, _, _, _ => none
 | k + 1, x46, x135000, x135001, x135002, x135003 => if x46 = true then (some 71) else (ir_Check.l0 k 200 x135003 (x135003.length : Int) 0 x135000 x135001 x135002 x135003)
def ir_Check.l0 : Nat → Int → List (List (SIns)) → Int → Int → ByteArray → Int → Int → List (List (SIns)) → Option (Int)
 | 0, _, _, _, _, _, _, _, _ => none
 | k + 1, x3, x48, x49, x50, x135000, x135001, x135002, x135003 => if x50 < x49 then (if 0 ≤ x50 then (if x50 < (x48.length : Int) then (if ((rd_LIns x48 x50).length : Int) = 0 then (some 71) else (if ((rd_LIns x48 x50).length : Int) > x3 then (some 71) else (ir_Check.l0 k (wrap64 (x3 - ((rd_LIns x48 x50).length : Int))) x48 x49 (wrap64 (x50 + 1)) x135000 x135001 x135002 x135003))) else (none)) else (none)) else (ir_Check.l1 k x135003 (x135003.length : Int) 0 x135000 x135001 x135002 x135003)
def ir_Check.l1 : Nat → List (List (SIns)) → Int → Int → ByteArray → Int → Int → List (List (SIns)) → Option (Int)
 | 0, _, _, _, _, _, _, _ => none
 | k + 1, x69, x70, x71, x135000, x135001, x135002, x135003 => if x71 < x70 then (if 0 ≤ x71 then (if x71 < (x69.length : Int) then (ir_Check.l2 k (rd_LIns x69 x71) x69 x70 x71 (rd_LIns x69 x71) ((rd_LIns x69 x71).length : Int) 0 x135000 x135001 x135002 x135003) else (none)) else (none)) else (some 0)
def ir_Check.l2 : Nat → List (SIns) → List (List (SIns)) → Int → Int → List (SIns) → Int → Int → ByteArray → Int → Int → List (List (SIns)) → Option (Int)
 | 0, _, _, _, _, _, _, _, _, _, _, _ => none
 | k + 1, x7, x69, x70, x71, x75, x76, x77, x135000, x135001, x135002, x135003 => if x77 < x76 then (if 0 ≤ x77 then (if x77 < (x75.length : Int) then ((ir_one.f k x135000 x135001 x135002 x135003 ((rd_TIns x75 x77).f0) ((rd_TIns x75 x77).f1) ((rd_TIns x75 x77).f2) ((rd_TIns x75 x77).f3) ((rd_TIns x75 x77).f4) ((rd_TIns x75 x77).f5) (x77 == (wrap64 ((x7.length : Int) - 1)))).bind fun t140 => (if t140 = 0 then (ir_Check.l2 k x7 x69 x70 x71 x75 x76 (wrap64 (x77 + 1)) x135000 x135001 x135002 x135003) else (some t140))) else (none)) else (none)) else (ir_Check.l1 k x69 x70 (wrap64 (x71 + 1)) x135000 x135001 x135002 x135003)
end
def ir_Check.f (k : Nat) (a0_0 : ByteArray) (a0_1 : Int) (a0_2 : Int) (l0_3 : List (List (SIns))) : Option (Int) := (ir_Name.f a0_0).bind fun t135 => (if t135 = true then (if a0_1 < 0 then (ir_Check.j0 k true a0_0 a0_1 a0_2 l0_3) else (if a0_1 > 4 then (ir_Check.j0 k true a0_0 a0_1 a0_2 l0_3) else (if a0_2 < a0_1 then (ir_Check.j0 k true a0_0 a0_1 a0_2 l0_3) else (if a0_2 > 64 then (ir_Check.j0 k true a0_0 a0_1 a0_2 l0_3) else (if (l0_3.length : Int) < 1 then (ir_Check.j0 k true a0_0 a0_1 a0_2 l0_3) else (ir_Check.j0 k (decide ((l0_3.length : Int) > 32)) a0_0 a0_1 a0_2 l0_3)))))) else (some 70))
theorem ir_Check.mono_l : ∀ k, (∀ y0 y1 y2 y3 y4, LeO (ir_Check.j0 k y0 y1 y2 y3 y4) (ir_Check.j0 (k + 1) y0 y1 y2 y3 y4)) ∧ (∀ y0 y1 y2 y3 y4 y5 y6 y7, LeO (ir_Check.l0 k y0 y1 y2 y3 y4 y5 y6 y7) (ir_Check.l0 (k + 1) y0 y1 y2 y3 y4 y5 y6 y7)) ∧ (∀ y0 y1 y2 y3 y4 y5 y6, LeO (ir_Check.l1 k y0 y1 y2 y3 y4 y5 y6) (ir_Check.l1 (k + 1) y0 y1 y2 y3 y4 y5 y6)) ∧ (∀ y0 y1 y2 y3 y4 y5 y6 y7 y8 y9 y10, LeO (ir_Check.l2 k y0 y1 y2 y3 y4 y5 y6 y7 y8 y9 y10) (ir_Check.l2 (k + 1) y0 y1 y2 y3 y4 y5 y6 y7 y8 y9 y10))
 | 0 => ⟨fun _ _ _ _ _ r h => by simp [ir_Check.j0] at h, fun _ _ _ _ _ _ _ _ r h => by simp [ir_Check.l0] at h, fun _ _ _ _ _ _ _ r h => by simp [ir_Check.l1] at h, fun _ _ _ _ _ _ _ _ _ _ _ r h => by simp [ir_Check.l2] at h⟩
 | k + 1 => by
  obtain ⟨ih0, ih1, ih2, ih3⟩ := ir_Check.mono_l k
  refine ⟨?_, ?_, ?_, ?_⟩ <;> intros <;> (first | unfold ir_Check.j0 | unfold ir_Check.l0 | unfold ir_Check.l1 | unfold ir_Check.l2) <;> repeat' first | (with_reducible exact ih0 _ _ _ _ _) | (with_reducible exact ih1 _ _ _ _ _ _ _ _) | (with_reducible exact ih2 _ _ _ _ _ _ _) | (with_reducible exact ih3 _ _ _ _ _ _ _ _ _ _ _) | (with_reducible exact ir_one.mono _ _ _ _ _ _ _ _ _ _ _ _) | (with_reducible exact LeO.refl _) | (with_reducible exact LeO.none _) | (with_reducible refine LeO.ite ?_ ?_) | (with_reducible refine LeO.bind ?_ (fun _ => ?_)) | exact LeO.none _ | refine LeO.ite ?_ ?_ | refine LeO.bind ?_ (fun _ => ?_)
theorem ir_Check.mono : ∀ a0 a1 a2 a3 k, LeO (ir_Check.f k a0 a1 a2 a3) (ir_Check.f (k + 1) a0 a1 a2 a3) := by
 intro a0 a1 a2 a3 k
 obtain ⟨ih0, ih1, ih2, ih3⟩ := ir_Check.mono_l k
 unfold ir_Check.f
 repeat' first | (with_reducible exact ih0 _ _ _ _ _) | (with_reducible exact ih1 _ _ _ _ _ _ _ _) | (with_reducible exact ih2 _ _ _ _ _ _ _) | (with_reducible exact ih3 _ _ _ _ _ _ _ _ _ _ _) | (with_reducible exact ir_one.mono _ _ _ _ _ _ _ _ _ _ _ _) | (with_reducible exact LeO.refl _) | (with_reducible exact LeO.none _) | (with_reducible refine LeO.ite ?_ ?_) | (with_reducible refine LeO.bind ?_ (fun _ => ?_)) | exact LeO.none _ | refine LeO.ite ?_ ?_ | refine LeO.bind ?_ (fun _ => ?_)
set_option maxHeartbeats 8000000 in
set_option maxRecDepth 100000 in
theorem ir_Check.calls (k : Nat) (a0_0 : ByteArray) (a0_1 : Int) (a0_2 : Int) (A0_3 : Option Addr) (c0_3 : Nat) (l0_3 : List (List (SIns))) (r : Int) (w : World) (hL : LaidW w) (hr0_3 : Kd.C (Kd.slice 31 kIns) w A0_3 l0_3.length l0_3) (hc0_3 : l0_3.length ≤ c0_3) (h : ir_Check.f k a0_0 a0_1 a0_2 l0_3 = some r) :
  Calls Tryd.prog 20 #[.agg #[.string a0_0, .int .i64 a0_1, .int .i64 a0_2, .slice A0_3 l0_3.length c0_3]] w fun e w' => e = .returned (.int .i64 r) ∧ Below w.heap.size w w' := by
 have hu34 := Tryd.underlying34
 have hu31 := Tryd.underlying31
 have HR0_3 := Aside0.mk hr0_3
 have HC0_3 := Aside0.mk hc0_3
 clear hr0_3 hc0_3
 have HB := Aside0.mk (Below.refl w.heap.size w)
 have HLd := Aside0.mk hL
 clear hL
 have H := h; clear h; unfold ir_Check.f at H
 replace H := qb H; obtain ⟨t135, A2, H⟩ := H
 by_cases c3 : t135 = true
 ·subst c3
  have H1 : (if a0_1 < 0 then (ir_Check.j0 k true a0_0 a0_1 a0_2 l0_3) else (if a0_1 > 4 then (ir_Check.j0 k true a0_0 a0_1 a0_2 l0_3) else (if a0_2 < a0_1 then (ir_Check.j0 k true a0_0 a0_1 a0_2 l0_3) else (if a0_2 > 64 then (ir_Check.j0 k true a0_0 a0_1 a0_2 l0_3) else (if (l0_3.length : Int) < 1 then (ir_Check.j0 k true a0_0 a0_1 a0_2 l0_3) else (ir_Check.j0 k (decide ((l0_3.length : Int) > 32)) a0_0 a0_1 a0_2 l0_3)))))) = some r := by rw [if_pos rfl] at H; exact H
  clear H
  have H := H1
  clear H1
  have HC4 := Aside0.mk H
  clear H
  go_enter Tryd.func20, Tryd.ntmps20
  go_upto_region 3 with (first | ((with_reducible refine gate_dst (N := 1) rfl ?_); (try (refine gate_guard (by rfl) ?_; dsimp only)); refine box_event (by rfl) (N := 1) (by rfl) (cs := #[.string a0_0, .int .i64 a0_1, .int .i64 a0_2, .slice A0_3 l0_3.length c0_3]) (t := 34) ?hr ?_; (case hr => first | (go_simp; done) | (go_simp; rfl)); intro gb134 hg w5 hbox hb; have BK134 := Aside0.mk (hbox); have GW134 := qG hg; have GE134 := GW134; replace HB := qH hb; clear hb hbox hg; have z6_0 := bk4 BK134.out) | ((with_reducible refine gate_callee (f := 21) rfl ?_); refine goesL_ (some 13) rfl rfl Tryd.func21 (by kernel_rfl) rfl #[.string a0_0] rfl qL ?_; (with_reducible refine (ir_Name.calls a0_0 true _ A2.out).mono ?_); rintro e w7 ⟨rfl, hb⟩; refine ⟨_, rfl, ?_⟩; replace BK134 := qW BK134 hb; replace HB := qH hb; (try clear hb)))
  (try simp only [Act.put, List.setIfInBounds_toArray, List.set_cons_zero, List.set_cons_succ])
  go_cut [46] (fun v46 wc => ∃ (kq : Nat) (x46_3 : Bool), v46 = .bool x46_3 ∧ Aside0 (ir_Check.j0 kq x46_3 a0_0 a0_1 a0_2 l0_3 = some r) ∧ Aside0 (kq ≤ k) ∧ Aside0 (wc.heap[gb134]? = some (.cells #[.string a0_0, .int .i64 a0_1, .int .i64 a0_2, (.slice A0_3 l0_3.length c0_3)] 34 (0, 0))) ∧ Aside0 (Below w.heap.size w wc))
  case first =>
   have H := HC4.out
   clear HC4
   by_cases c8 : a0_1 < 0
   ·rw [if_pos c8] at H
    have c8b0 := decide_eq_true c8
    clear c8
    (first | rw [c8b0] | (simp only [i64_w, i32_w]; rw [c8b0]) | skip)
    have H' := Aside0.mk H
    clear H
    have z9_0 := bk4 BK134.out
    go_wp2
    go_meet
    case rel => exact ⟨_, (true), qT, H', ⟨qO⟩, ⟨qK BK134.out⟩, ⟨qB⟩⟩
   ·rw [if_neg c8] at H
    have c8b0 := decide_eq_false c8
    clear c8
    (first | rw [c8b0] | (simp only [i64_w, i32_w]; rw [c8b0]) | skip)
    by_cases c10 : a0_1 > 4
    ·rw [if_pos c10] at H
     have c10b0 : decide (4 < a0_1) = true := decide_eq_true c10
     clear c10
     have H' := Aside0.mk H
     clear H
     have z11_0 := bk4 BK134.out
     go_wp2
     go_meet
     case rel => exact ⟨_, (true), qT, H', ⟨qO⟩, ⟨qK BK134.out⟩, ⟨qB⟩⟩
    ·rw [if_neg c10] at H
     have c10b0 : decide (4 < a0_1) = false := decide_eq_false c10
     clear c10
     by_cases c12 : a0_2 < a0_1
     ·rw [if_pos c12] at H
      have c12b0 := decide_eq_true c12
      clear c12
      have H' := Aside0.mk H
      clear H
      have z13_0 := bk4 BK134.out
      go_wp2
      go_meet
      case rel => exact ⟨_, (true), qT, H', ⟨qO⟩, ⟨qK BK134.out⟩, ⟨qB⟩⟩
     ·rw [if_neg c12] at H
      have c12b0 := decide_eq_false c12
      clear c12
      by_cases c14 : a0_2 > 64
      ·rw [if_pos c14] at H
       have c14b0 : decide (64 < a0_2) = true := decide_eq_true c14
       clear c14
       have H' := Aside0.mk H
       clear H
       have z15_0 := bk4 BK134.out
       go_wp2
       go_meet
       case rel => exact ⟨_, (true), qT, H', ⟨qO⟩, ⟨qK BK134.out⟩, ⟨qB⟩⟩
      ·rw [if_neg c14] at H
       have c14b0 : decide (64 < a0_2) = false := decide_eq_false c14
       clear c14
       by_cases c16 : (l0_3.length : Int) < 1
       ·rw [if_pos c16] at H
        have c16b0 := decide_eq_true c16
        have c16b1 : decide (l0_3.length < 1) = true := decide_eq_true (by omega)
        clear c16
        have H' := Aside0.mk H
        clear H
        have z17_0 := bk4 BK134.out
        go_wp2
        go_meet
        case rel => exact ⟨_, (true), qT, H', ⟨qO⟩, ⟨qK BK134.out⟩, ⟨qB⟩⟩
       ·rw [if_neg c16] at H
        have c16b0 := decide_eq_false c16
        have c16b1 : decide (l0_3.length < 1) = false := decide_eq_false (by omega)
        clear c16
        have H' := Aside0.mk H
        clear H
        have z18_0 := bk4 BK134.out
        go_wp2
        go_meet
        case rel => exact ⟨_, (decide ((l0_3.length : Int) > 32)), qT, H', ⟨qO⟩, ⟨qK BK134.out⟩, ⟨qB⟩⟩
  case rest =>
   clear HC4
   try clear c1; try clear c2; try clear p2; try clear c3; try clear c8; try clear c8b0; try clear c10; try clear c10b0; try clear c12; try clear c12b0; try clear c14; try clear c14b0; try clear c16; try clear c16b0 c16b1; try clear z11_0; try clear z13_0; try clear z15_0; try clear z17_0; try clear z18_0; try clear z6_0; try clear z9_0
   obtain ⟨kq, x46_3, rfl, HA, HJ3, BK134, HB⟩ := hcut
   cases kq with
   | zero => exact absurd HA.out (by simp [ir_Check.j0])
   | succ kj3 =>
    have H := HA.out
    clear HA
    simp only [ir_Check.j0] at H
    by_cases c19 : x46_3 = true
    ·subst c19
     have H1 : (some 71) = some r := by rw [if_pos rfl] at H; exact H
     clear H
     have H := H1
     clear H1
     obtain rfl := Option.some.inj H
     go_wp2
     go_ret
     exact ⟨qE, qB⟩
    ·replace c19 := Bool.eq_false_iff.mpr c19
     subst c19
     have H1 : (ir_Check.l0 kj3 200 l0_3 (l0_3.length : Int) 0 a0_0 a0_1 a0_2 l0_3) = some r := by rw [if_neg (show ¬ (false = true) by decide)] at H; exact H
     clear H
     have H := H1
     clear H1
     have H' := Aside0.mk H
     clear H
     have z20_0 := bk4 BK134.out
     go_wp2
     go_loopg [3, 50] kj3 (fun kq v3 v50 w' => ∃ (x3_2 : Int) (x50_2 : Int), v3 = .int .i64 x3_2 ∧ v50 = .int .i64 x50_2 ∧ Aside0 (ir_Check.l0 kq x3_2 l0_3 (l0_3.length : Int) x50_2 a0_0 a0_1 a0_2 l0_3 = some r) ∧ Aside0 (kq ≤ kj3) ∧ Aside0 (w'.heap[gb134]? = some (.cells #[.string a0_0, .int .i64 a0_1, .int .i64 a0_2, (.slice A0_3 l0_3.length c0_3)] 34 (0, 0))) ∧ Aside0 (Below w.heap.size w w'))
     case atStart => exact ⟨(200), (0), qT, qT, H', ⟨Nat.le_refl _⟩, ⟨qK BK134.out⟩, ⟨qB⟩⟩
     case round =>
      clear H'
      try clear c1; try clear c2; try clear p2; try clear c3; try clear c8; try clear c8b0; try clear c10; try clear c10b0; try clear c12; try clear c12b0; try clear c14; try clear c14b0; try clear c16; try clear c16b0 c16b1; try clear c19; try clear c20; try clear z11_0; try clear z13_0; try clear z15_0; try clear z17_0; try clear z18_0; try clear z20_0; try clear z6_0; try clear z9_0
      obtain ⟨x3_2, x50_2, rfl, rfl, HA, HK2, BK134, HB⟩ := hrel
      cases gk with
      | zero => exact absurd HA.out (by simp [ir_Check.l0])
      | succ k2 =>
       have H := HA.out
       clear HA
       simp only [ir_Check.l0] at H
       by_cases c21 : x50_2 < (l0_3.length : Int)
       ·rw [if_pos c21] at H
        have c21b0 := decide_eq_true c21
        clear c21
        by_cases c22 : 0 ≤ x50_2
        ·rw [if_pos c22] at H
         have c22b0 := decide_eq_true c22
         clear c22
         by_cases c23 : x50_2 < (l0_3.length : Int)
         ·rw [if_pos c23] at H
          have c23b0 := decide_eq_true c23
          clear c23
          by_cases c24 : ((rd_LIns l0_3 x50_2).length : Int) = 0
          ·rw [if_pos c24] at H
           obtain ⟨c24b0, c24b1⟩ := qe c24; clear c24
           obtain rfl := Option.some.inj H
           have p136 : 0 ≤ (x50_2 : Int) := of_decide_eq_true qA
           have q136 : x50_2 < (l0_3.length : Int) := of_decide_eq_true qA
           obtain ⟨ad136, A136_0, c136_0, e136, hx136_0, hl136_0, hi136_0⟩ := at_LIns HR0_3.out x50_2 p136 q136
           cases e136
           replace hx136_0 := (HB.out.cell (World.block_lt_of_cell? w _ hx136_0)).trans hx136_0
           have HR136_0 := Aside0.mk hi136_0
           have HC136_0 := Aside0.mk hl136_0
           clear hi136_0 hl136_0
           replace p136 := eq_true p136
           replace q136 := eq_true q136
           go_wp2
           go_ret
           exact ⟨qE, qB⟩
          ·rw [if_neg c24] at H
           obtain ⟨c24b0, c24b1⟩ := qn c24
           have c24b2 : ¬ ((rd_LIns l0_3 x50_2) = []) := fun h_ => c24 (by rw [h_]; rfl)
           by_cases c25 : ((rd_LIns l0_3 x50_2).length : Int) > x3_2
           ·rw [if_pos c25] at H
            have c25b0 : decide (x3_2 < ((rd_LIns l0_3 x50_2).length : Int)) = true := decide_eq_true c25
            clear c25
            obtain rfl := Option.some.inj H
            have p136 : 0 ≤ (x50_2 : Int) := of_decide_eq_true qA
            have q136 : x50_2 < (l0_3.length : Int) := of_decide_eq_true qA
            obtain ⟨ad136, A136_0, c136_0, e136, hx136_0, hl136_0, hi136_0⟩ := at_LIns HR0_3.out x50_2 p136 q136
            cases e136
            replace hx136_0 := (HB.out.cell (World.block_lt_of_cell? w _ hx136_0)).trans hx136_0
            have HR136_0 := Aside0.mk hi136_0
            have HC136_0 := Aside0.mk hl136_0
            clear hi136_0 hl136_0
            replace p136 := eq_true p136
            replace q136 := eq_true q136
            go_wp2
            go_ret
            exact ⟨qE, qB⟩
           ·rw [if_neg c25] at H
            have c25b0 : decide (x3_2 < ((rd_LIns l0_3 x50_2).length : Int)) = false := decide_eq_false c25
            clear c25
            have H' := Aside0.mk H
            clear H
            have p136 : 0 ≤ (x50_2 : Int) := of_decide_eq_true qA
            have q136 : x50_2 < (l0_3.length : Int) := of_decide_eq_true qA
            obtain ⟨ad136, A136_0, c136_0, e136, hx136_0, hl136_0, hi136_0⟩ := at_LIns HR0_3.out x50_2 p136 q136
            cases e136
            replace hx136_0 := (HB.out.cell (World.block_lt_of_cell? w _ hx136_0)).trans hx136_0
            have HR136_0 := Aside0.mk hi136_0
            have HC136_0 := Aside0.mk hl136_0
            clear hi136_0 hl136_0
            replace p136 := eq_true p136
            replace q136 := eq_true q136
            go_wp2
            go_roundg k2
            case measure => have := HJ3.out; have := HK2.out; omega
            case rel => exact ⟨(wrap64 (x3_2 - ((rd_LIns l0_3 x50_2).length : Int))), (wrap64 (x50_2 + 1)), qT, qT, H', ⟨by have := HJ3.out; have := HK2.out; omega⟩, ⟨qK BK134.out⟩, ⟨qB⟩⟩
         ·rw [if_neg c23] at H
          exact absurd H (by simp)
        ·rw [if_neg c22] at H
         exact absurd H (by simp)
       ·rw [if_neg c21] at H
        have c21b0 := decide_eq_false c21
        clear c21
        have H' := Aside0.mk H
        clear H
        have z26_0 := bk4 BK134.out
        go_wp2
        go_loopg [71] k2 (fun kq v71 w' => ∃ (x71_3 : Int), v71 = .int .i64 x71_3 ∧ Aside0 (ir_Check.l1 kq l0_3 (l0_3.length : Int) x71_3 a0_0 a0_1 a0_2 l0_3 = some r) ∧ Aside0 (kq ≤ k2) ∧ Aside0 (w'.heap[gb134]? = some (.cells #[.string a0_0, .int .i64 a0_1, .int .i64 a0_2, (.slice A0_3 l0_3.length c0_3)] 34 (0, 0))) ∧ Aside0 (Below w.heap.size w w'))
        case atStart => exact ⟨(0), qT, H', ⟨Nat.le_refl _⟩, ⟨qK BK134.out⟩, ⟨qB⟩⟩
        case round =>
         clear H'
         try clear c1; try clear p1; try clear q1; try clear hx1; try clear c2; try clear p2; try clear c3; try clear p6; try clear c8; try clear c8b0; try clear c10; try clear c10b0; try clear c12; try clear c12b0; try clear c13; try clear p13; try clear q13; try clear hx13; try clear c14; try clear c14b0; try clear c16; try clear c16b0 c16b1; try clear c19; try clear c20; try clear c21b0; try clear c22; try clear c22b0; try clear c23; try clear c23b0; try clear c24; try clear c24b0 c24b1 c24b2; try clear c25; try clear c25b0; try clear z11_0; try clear z13_0; try clear z15_0; try clear z17_0; try clear z18_0; try clear z20_0; try clear z26_0; try clear z6_0; try clear z9_0; try clear hx136_0; try clear p136; try clear q136
         obtain ⟨x71_3, rfl, HA, HK3, BK134, HB⟩ := hrel
         cases gk with
         | zero => exact absurd HA.out (by simp [ir_Check.l1])
         | succ k3 =>
          have H := HA.out
          clear HA
          simp only [ir_Check.l1] at H
          by_cases c27 : x71_3 < (l0_3.length : Int)
          ·rw [if_pos c27] at H
           have c27b0 := decide_eq_true c27
           clear c27
           by_cases c28 : 0 ≤ x71_3
           ·rw [if_pos c28] at H
            have c28b0 := decide_eq_true c28
            clear c28
            by_cases c29 : x71_3 < (l0_3.length : Int)
            ·rw [if_pos c29] at H
             have c29b0 := decide_eq_true c29
             clear c29
             have H' := Aside0.mk H
             clear H
             have p137 : 0 ≤ (x71_3 : Int) := of_decide_eq_true qA
             have q137 : x71_3 < (l0_3.length : Int) := of_decide_eq_true qA
             obtain ⟨ad137, A137_0, c137_0, e137, hx137_0, hl137_0, hi137_0⟩ := at_LIns HR0_3.out x71_3 p137 q137
             cases e137
             replace hx137_0 := (HB.out.cell (World.block_lt_of_cell? w _ hx137_0)).trans hx137_0
             have HR137_0 := Aside0.mk hi137_0
             have HC137_0 := Aside0.mk hl137_0
             clear hi137_0 hl137_0
             replace p137 := eq_true p137
             replace q137 := eq_true q137
             go_wp2
             go_loopg [77] k3 (fun kq v77 w' => ∃ (x77_4 : Int), v77 = .int .i64 x77_4 ∧ Aside0 (ir_Check.l2 kq (rd_LIns l0_3 x71_3) l0_3 (l0_3.length : Int) x71_3 (rd_LIns l0_3 x71_3) ((rd_LIns l0_3 x71_3).length : Int) x77_4 a0_0 a0_1 a0_2 l0_3 = some r) ∧ Aside0 (kq ≤ k3) ∧ Aside0 (w'.heap[gb134]? = some (.cells #[.string a0_0, .int .i64 a0_1, .int .i64 a0_2, (.slice (some ad137) l0_3.length c0_3)] 34 (0, 0))) ∧ Aside0 (Below w.heap.size w w'))
             case atStart => exact ⟨(0), qT, H', ⟨Nat.le_refl _⟩, ⟨qK BK134.out⟩, ⟨qB⟩⟩
             case round =>
              clear H'
              try clear c1; try clear p1; try clear q1; try clear hx1; try clear c2; try clear p2; try clear c3; try clear p6; try clear c8; try clear c8b0; try clear c10; try clear c10b0; try clear c12; try clear c12b0; try clear c13; try clear p13; try clear q13; try clear hx13; try clear c14; try clear c14b0; try clear c16; try clear c16b0 c16b1; try clear c19; try clear c20; try clear c21b0; try clear c22; try clear c22b0; try clear c23; try clear c23b0; try clear c24; try clear c24b0 c24b1 c24b2; try clear c25; try clear c25b0; try clear c27b0; try clear c28b0; try clear c29b0; try clear z11_0; try clear z13_0; try clear z15_0; try clear z17_0; try clear z18_0; try clear z20_0; try clear z26_0; try clear z6_0; try clear z9_0; try clear hx136_0; try clear hx137_0; try clear p136; try clear p137; try clear q136; try clear q137
              obtain ⟨x77_4, rfl, HA, HK4, BK134, HB⟩ := hrel
              cases gk with
              | zero => exact absurd HA.out (by simp [ir_Check.l2])
              | succ k4 =>
               have H := HA.out
               clear HA
               simp only [ir_Check.l2] at H
               by_cases c30 : x77_4 < ((rd_LIns l0_3 x71_3).length : Int)
               ·rw [if_pos c30] at H
                have c30b0 := decide_eq_true c30
                clear c30
                by_cases c31 : 0 ≤ x77_4
                ·rw [if_pos c31] at H
                 have c31b0 := decide_eq_true c31
                 clear c31
                 by_cases c32 : x77_4 < ((rd_LIns l0_3 x71_3).length : Int)
                 ·rw [if_pos c32] at H
                  have c32b0 := decide_eq_true c32
                  clear c32
                  replace H := qb H; obtain ⟨t140, A33, H⟩ := H
                  by_cases c34 : t140 = 0
                  ·rw [if_pos c34] at H
                   obtain ⟨c34b0, c34b1⟩ := qe c34; clear c34
                   have H' := Aside0.mk H
                   clear H
                   have p138 : 0 ≤ (x77_4 : Int) := of_decide_eq_true qA
                   have q138 : x77_4 < ((rd_LIns l0_3 x71_3).length : Int) := of_decide_eq_true qA
                   obtain ⟨ad138, A138_5, c138_5, e138, hx138_0, hx138_1, hx138_2, hx138_3, hx138_4, hx138_5, hl138_5, hi138_5⟩ := at_TIns HR137_0.out x77_4 p138 q138
                   cases e138
                   replace hx138_0 := (HB.out.cell (World.block_lt_of_cell? w _ hx138_0)).trans hx138_0
                   replace hx138_1 := (HB.out.cell (World.block_lt_of_cell? w _ hx138_1)).trans hx138_1
                   replace hx138_2 := (HB.out.cell (World.block_lt_of_cell? w _ hx138_2)).trans hx138_2
                   replace hx138_3 := (HB.out.cell (World.block_lt_of_cell? w _ hx138_3)).trans hx138_3
                   replace hx138_4 := (HB.out.cell (World.block_lt_of_cell? w _ hx138_4)).trans hx138_4
                   replace hx138_5 := (HB.out.cell (World.block_lt_of_cell? w _ hx138_5)).trans hx138_5
                   have HR138_5 := Aside0.mk hi138_5
                   have HC138_5 := Aside0.mk hl138_5
                   clear hi138_5 hl138_5
                   replace p138 := eq_true p138
                   replace q138 := eq_true q138
                   go_wp2_with (first | ((with_reducible refine gate_dst (N := 9) rfl ?_); (try (refine gate_guard (by rfl) ?_; dsimp only)); refine box_event (by rfl) (N := 9) (by rfl) (cs := #[.int .i64 0, .int .i64 0, .int .i64 0, .int .i64 0, .string (⟨#[]⟩ : ByteArray), .slice none 0 0]) (t := 31) ?hr ?_; (case hr => first | (go_simp; done) | (go_simp; rfl)); intro gb139 hg w35 hbox hb; have BK139 := Aside0.mk (hbox); have GW139 := qG hg; have GE139 := GW139; replace HB := qH hb; have NB134_139 := Aside0.mk ((by rw [hg]; exact Nat.ne_of_lt (blk_lt (g := gb134) (o := .cells #[.string a0_0, .int .i64 a0_1, .int .i64 a0_2, .slice (some ad137) l0_3.length c0_3] 34 (0, 0)) (qK BK134.out)) : gb134 ≠ gb139)); have NB139_134 := Aside0.mk ((by rw [hg]; exact Nat.ne_of_gt (blk_lt (g := gb134) (o := .cells #[.string a0_0, .int .i64 a0_1, .int .i64 a0_2, .slice (some ad137) l0_3.length c0_3] 34 (0, 0)) (qK BK134.out)) : gb139 ≠ gb134)); replace BK134 := qW BK134 hb; clear hb hbox hg; have hnb36 := NB139_134.out; have hnc36 := NB134_139.out; have z37_0 := bk6 BK139.out; have z38_0 := bk4 BK134.out) | ((with_reducible refine gate_callee (f := 33) rfl ?_); refine goesL_ (some 89) rfl rfl Tryd.func33 (by kernel_rfl) rfl #[.agg #[.string a0_0, .int .i64 a0_1, .int .i64 a0_2, .slice (some ad137) l0_3.length c0_3], .agg #[.int .i64 ((rd_TIns (rd_LIns l0_3 x71_3) x77_4).f0), .int .i64 ((rd_TIns (rd_LIns l0_3 x71_3) x77_4).f1), .int .i64 ((rd_TIns (rd_LIns l0_3 x71_3) x77_4).f2), .int .i64 ((rd_TIns (rd_LIns l0_3 x71_3) x77_4).f3), .string ((rd_TIns (rd_LIns l0_3 x71_3) x77_4).f4), .slice A138_5 ((rd_TIns (rd_LIns l0_3 x71_3) x77_4).f5).length c138_5], .bool (x77_4 == (wrap64 (((rd_LIns l0_3 x71_3).length : Int) - 1)))] rfl qL ?_; (with_reducible refine (ir_one.calls k4 a0_0 a0_1 a0_2 _ _ l0_3 ((rd_TIns (rd_LIns l0_3 x71_3) x77_4).f0) ((rd_TIns (rd_LIns l0_3 x71_3) x77_4).f1) ((rd_TIns (rd_LIns l0_3 x71_3) x77_4).f2) ((rd_TIns (rd_LIns l0_3 x71_3) x77_4).f3) ((rd_TIns (rd_LIns l0_3 x71_3) x77_4).f4) _ _ ((rd_TIns (rd_LIns l0_3 x71_3) x77_4).f5) (x77_4 == (wrap64 (((rd_LIns l0_3 x71_3).length : Int) - 1))) t140 _ ?side1 ?side2 ?side3 ?side4 A33.out (hL := ?side99)).mono ?_); (case side1 => exact Kd.C_below HR0_3.out qB); (case side2 => exact HC0_3.out); (case side3 => exact Kd.C_below HR138_5.out qB); (case side4 => exact HC138_5.out); (case side99 => exact LaidW.below HLd.out qB); rintro e w39 ⟨rfl, hb⟩; refine ⟨_, rfl, ?_⟩; replace BK134 := Aside0.mk (blk_below (g := gb134) (o := .cells #[.string a0_0, .int .i64 a0_1, .int .i64 a0_2, .slice (some ad137) l0_3.length c0_3] 34 (0, 0)) (by (with_reducible repeat (first | refine blk_drewN ?_ _ | refine blk_drew ?_ | refine blk_alloc ?_ _)); refine blk_far ?_ NB134_139.out _; (with_reducible repeat (first | refine blk_drewN ?_ _ | refine blk_drew ?_ | refine blk_alloc ?_ _)); refine blk_far ?_ NB134_139.out _; (with_reducible repeat (first | refine blk_drewN ?_ _ | refine blk_drew ?_ | refine blk_alloc ?_ _)); refine blk_far ?_ NB134_139.out _; (with_reducible repeat (first | refine blk_drewN ?_ _ | refine blk_drew ?_ | refine blk_alloc ?_ _)); refine blk_far ?_ NB134_139.out _; (with_reducible repeat (first | refine blk_drewN ?_ _ | refine blk_drew ?_ | refine blk_alloc ?_ _)); refine blk_far ?_ NB134_139.out _; (with_reducible repeat (first | refine blk_drewN ?_ _ | refine blk_drew ?_ | refine blk_alloc ?_ _)); refine blk_far ?_ NB134_139.out _; (with_reducible repeat (first | refine blk_drewN ?_ _ | refine blk_drew ?_ | refine blk_alloc ?_ _)); exact BK134.out) hb); replace BK139 := Aside0.mk (blk_below (g := gb139) (o := .cells #[.int .i64 ((rd_TIns (rd_LIns l0_3 x71_3) x77_4).f0), .int .i64 ((rd_TIns (rd_LIns l0_3 x71_3) x77_4).f1), .int .i64 ((rd_TIns (rd_LIns l0_3 x71_3) x77_4).f2), .int .i64 ((rd_TIns (rd_LIns l0_3 x71_3) x77_4).f3), .string ((rd_TIns (rd_LIns l0_3 x71_3) x77_4).f4), .slice A138_5 ((rd_TIns (rd_LIns l0_3 x71_3) x77_4).f5).length c138_5] 31 (0, 0)) (by (with_reducible repeat (first | refine blk_drewN ?_ _ | refine blk_drew ?_ | refine blk_alloc ?_ _)); refine blk_put (cs := #[.int .i64 ((rd_TIns (rd_LIns l0_3 x71_3) x77_4).f0), .int .i64 ((rd_TIns (rd_LIns l0_3 x71_3) x77_4).f1), .int .i64 ((rd_TIns (rd_LIns l0_3 x71_3) x77_4).f2), .int .i64 ((rd_TIns (rd_LIns l0_3 x71_3) x77_4).f3), .string ((rd_TIns (rd_LIns l0_3 x71_3) x77_4).f4), .slice none 0 0]) ?_ 5 _ rfl; (with_reducible repeat (first | refine blk_drewN ?_ _ | refine blk_drew ?_ | refine blk_alloc ?_ _)); refine blk_put (cs := #[.int .i64 ((rd_TIns (rd_LIns l0_3 x71_3) x77_4).f0), .int .i64 ((rd_TIns (rd_LIns l0_3 x71_3) x77_4).f1), .int .i64 ((rd_TIns (rd_LIns l0_3 x71_3) x77_4).f2), .int .i64 ((rd_TIns (rd_LIns l0_3 x71_3) x77_4).f3), .string (⟨#[]⟩ : ByteArray), .slice none 0 0]) ?_ 4 _ rfl; (with_reducible repeat (first | refine blk_drewN ?_ _ | refine blk_drew ?_ | refine blk_alloc ?_ _)); refine blk_put (cs := #[.int .i64 ((rd_TIns (rd_LIns l0_3 x71_3) x77_4).f0), .int .i64 ((rd_TIns (rd_LIns l0_3 x71_3) x77_4).f1), .int .i64 ((rd_TIns (rd_LIns l0_3 x71_3) x77_4).f2), .int .i64 0, .string (⟨#[]⟩ : ByteArray), .slice none 0 0]) ?_ 3 _ rfl; (with_reducible repeat (first | refine blk_drewN ?_ _ | refine blk_drew ?_ | refine blk_alloc ?_ _)); refine blk_put (cs := #[.int .i64 ((rd_TIns (rd_LIns l0_3 x71_3) x77_4).f0), .int .i64 ((rd_TIns (rd_LIns l0_3 x71_3) x77_4).f1), .int .i64 0, .int .i64 0, .string (⟨#[]⟩ : ByteArray), .slice none 0 0]) ?_ 2 _ rfl; (with_reducible repeat (first | refine blk_drewN ?_ _ | refine blk_drew ?_ | refine blk_alloc ?_ _)); refine blk_put (cs := #[.int .i64 ((rd_TIns (rd_LIns l0_3 x71_3) x77_4).f0), .int .i64 0, .int .i64 0, .int .i64 0, .string (⟨#[]⟩ : ByteArray), .slice none 0 0]) ?_ 1 _ rfl; (with_reducible repeat (first | refine blk_drewN ?_ _ | refine blk_drew ?_ | refine blk_alloc ?_ _)); refine blk_put (cs := #[.int .i64 0, .int .i64 0, .int .i64 0, .int .i64 0, .string (⟨#[]⟩ : ByteArray), .slice none 0 0]) ?_ 0 _ rfl; (with_reducible repeat (first | refine blk_drewN ?_ _ | refine blk_drew ?_ | refine blk_alloc ?_ _)); exact BK139.out) hb); replace HB := qH hb))
                   go_roundg k4
                   case measure => have := HJ3.out; have := HK2.out; have := HK3.out; have := HK4.out; omega
                   case rel => exact ⟨(wrap64 (x77_4 + 1)), qT, H', ⟨by have := HJ3.out; have := HK2.out; have := HK3.out; have := HK4.out; omega⟩, ⟨qK BK134.out⟩, ⟨qB⟩⟩
                  ·rw [if_neg c34] at H
                   obtain ⟨c34b0, c34b1⟩ := qn c34
                   obtain rfl := Option.some.inj H
                   have p138 : 0 ≤ (x77_4 : Int) := of_decide_eq_true qA
                   have q138 : x77_4 < ((rd_LIns l0_3 x71_3).length : Int) := of_decide_eq_true qA
                   obtain ⟨ad138, A138_5, c138_5, e138, hx138_0, hx138_1, hx138_2, hx138_3, hx138_4, hx138_5, hl138_5, hi138_5⟩ := at_TIns HR137_0.out x77_4 p138 q138
                   cases e138
                   replace hx138_0 := (HB.out.cell (World.block_lt_of_cell? w _ hx138_0)).trans hx138_0
                   replace hx138_1 := (HB.out.cell (World.block_lt_of_cell? w _ hx138_1)).trans hx138_1
                   replace hx138_2 := (HB.out.cell (World.block_lt_of_cell? w _ hx138_2)).trans hx138_2
                   replace hx138_3 := (HB.out.cell (World.block_lt_of_cell? w _ hx138_3)).trans hx138_3
                   replace hx138_4 := (HB.out.cell (World.block_lt_of_cell? w _ hx138_4)).trans hx138_4
                   replace hx138_5 := (HB.out.cell (World.block_lt_of_cell? w _ hx138_5)).trans hx138_5
                   have HR138_5 := Aside0.mk hi138_5
                   have HC138_5 := Aside0.mk hl138_5
                   clear hi138_5 hl138_5
                   replace p138 := eq_true p138
                   replace q138 := eq_true q138
                   go_wp2_with (first | ((with_reducible refine gate_dst (N := 9) rfl ?_); (try (refine gate_guard (by rfl) ?_; dsimp only)); refine box_event (by rfl) (N := 9) (by rfl) (cs := #[.int .i64 0, .int .i64 0, .int .i64 0, .int .i64 0, .string (⟨#[]⟩ : ByteArray), .slice none 0 0]) (t := 31) ?hr ?_; (case hr => first | (go_simp; done) | (go_simp; rfl)); intro gb139 hg w40 hbox hb; have BK139 := Aside0.mk (hbox); have GW139 := qG hg; have GE139 := GW139; replace HB := qH hb; have NB134_139 := Aside0.mk ((by rw [hg]; exact Nat.ne_of_lt (blk_lt (g := gb134) (o := .cells #[.string a0_0, .int .i64 a0_1, .int .i64 a0_2, .slice (some ad137) l0_3.length c0_3] 34 (0, 0)) (qK BK134.out)) : gb134 ≠ gb139)); have NB139_134 := Aside0.mk ((by rw [hg]; exact Nat.ne_of_gt (blk_lt (g := gb134) (o := .cells #[.string a0_0, .int .i64 a0_1, .int .i64 a0_2, .slice (some ad137) l0_3.length c0_3] 34 (0, 0)) (qK BK134.out)) : gb139 ≠ gb134)); replace BK134 := qW BK134 hb; clear hb hbox hg; have hnb41 := NB139_134.out; have hnc41 := NB134_139.out; have z42_0 := bk6 BK139.out; have z43_0 := bk4 BK134.out) | ((with_reducible refine gate_callee (f := 33) rfl ?_); refine goesL_ (some 89) rfl rfl Tryd.func33 (by kernel_rfl) rfl #[.agg #[.string a0_0, .int .i64 a0_1, .int .i64 a0_2, .slice (some ad137) l0_3.length c0_3], .agg #[.int .i64 ((rd_TIns (rd_LIns l0_3 x71_3) x77_4).f0), .int .i64 ((rd_TIns (rd_LIns l0_3 x71_3) x77_4).f1), .int .i64 ((rd_TIns (rd_LIns l0_3 x71_3) x77_4).f2), .int .i64 ((rd_TIns (rd_LIns l0_3 x71_3) x77_4).f3), .string ((rd_TIns (rd_LIns l0_3 x71_3) x77_4).f4), .slice A138_5 ((rd_TIns (rd_LIns l0_3 x71_3) x77_4).f5).length c138_5], .bool (x77_4 == (wrap64 (((rd_LIns l0_3 x71_3).length : Int) - 1)))] rfl qL ?_; (with_reducible refine (ir_one.calls k4 a0_0 a0_1 a0_2 _ _ l0_3 ((rd_TIns (rd_LIns l0_3 x71_3) x77_4).f0) ((rd_TIns (rd_LIns l0_3 x71_3) x77_4).f1) ((rd_TIns (rd_LIns l0_3 x71_3) x77_4).f2) ((rd_TIns (rd_LIns l0_3 x71_3) x77_4).f3) ((rd_TIns (rd_LIns l0_3 x71_3) x77_4).f4) _ _ ((rd_TIns (rd_LIns l0_3 x71_3) x77_4).f5) (x77_4 == (wrap64 (((rd_LIns l0_3 x71_3).length : Int) - 1))) t140 _ ?side1 ?side2 ?side3 ?side4 A33.out (hL := ?side99)).mono ?_); (case side1 => exact Kd.C_below HR0_3.out qB); (case side2 => exact HC0_3.out); (case side3 => exact Kd.C_below HR138_5.out qB); (case side4 => exact HC138_5.out); (case side99 => exact LaidW.below HLd.out qB); rintro e w44 ⟨rfl, hb⟩; refine ⟨_, rfl, ?_⟩; replace BK134 := Aside0.mk (blk_below (g := gb134) (o := .cells #[.string a0_0, .int .i64 a0_1, .int .i64 a0_2, .slice (some ad137) l0_3.length c0_3] 34 (0, 0)) (by (with_reducible repeat (first | refine blk_drewN ?_ _ | refine blk_drew ?_ | refine blk_alloc ?_ _)); refine blk_far ?_ NB134_139.out _; (with_reducible repeat (first | refine blk_drewN ?_ _ | refine blk_drew ?_ | refine blk_alloc ?_ _)); refine blk_far ?_ NB134_139.out _; (with_reducible repeat (first | refine blk_drewN ?_ _ | refine blk_drew ?_ | refine blk_alloc ?_ _)); refine blk_far ?_ NB134_139.out _; (with_reducible repeat (first | refine blk_drewN ?_ _ | refine blk_drew ?_ | refine blk_alloc ?_ _)); refine blk_far ?_ NB134_139.out _; (with_reducible repeat (first | refine blk_drewN ?_ _ | refine blk_drew ?_ | refine blk_alloc ?_ _)); refine blk_far ?_ NB134_139.out _; (with_reducible repeat (first | refine blk_drewN ?_ _ | refine blk_drew ?_ | refine blk_alloc ?_ _)); refine blk_far ?_ NB134_139.out _; (with_reducible repeat (first | refine blk_drewN ?_ _ | refine blk_drew ?_ | refine blk_alloc ?_ _)); exact BK134.out) hb); replace BK139 := Aside0.mk (blk_below (g := gb139) (o := .cells #[.int .i64 ((rd_TIns (rd_LIns l0_3 x71_3) x77_4).f0), .int .i64 ((rd_TIns (rd_LIns l0_3 x71_3) x77_4).f1), .int .i64 ((rd_TIns (rd_LIns l0_3 x71_3) x77_4).f2), .int .i64 ((rd_TIns (rd_LIns l0_3 x71_3) x77_4).f3), .string ((rd_TIns (rd_LIns l0_3 x71_3) x77_4).f4), .slice A138_5 ((rd_TIns (rd_LIns l0_3 x71_3) x77_4).f5).length c138_5] 31 (0, 0)) (by (with_reducible repeat (first | refine blk_drewN ?_ _ | refine blk_drew ?_ | refine blk_alloc ?_ _)); refine blk_put (cs := #[.int .i64 ((rd_TIns (rd_LIns l0_3 x71_3) x77_4).f0), .int .i64 ((rd_TIns (rd_LIns l0_3 x71_3) x77_4).f1), .int .i64 ((rd_TIns (rd_LIns l0_3 x71_3) x77_4).f2), .int .i64 ((rd_TIns (rd_LIns l0_3 x71_3) x77_4).f3), .string ((rd_TIns (rd_LIns l0_3 x71_3) x77_4).f4), .slice none 0 0]) ?_ 5 _ rfl; (with_reducible repeat (first | refine blk_drewN ?_ _ | refine blk_drew ?_ | refine blk_alloc ?_ _)); refine blk_put (cs := #[.int .i64 ((rd_TIns (rd_LIns l0_3 x71_3) x77_4).f0), .int .i64 ((rd_TIns (rd_LIns l0_3 x71_3) x77_4).f1), .int .i64 ((rd_TIns (rd_LIns l0_3 x71_3) x77_4).f2), .int .i64 ((rd_TIns (rd_LIns l0_3 x71_3) x77_4).f3), .string (⟨#[]⟩ : ByteArray), .slice none 0 0]) ?_ 4 _ rfl; (with_reducible repeat (first | refine blk_drewN ?_ _ | refine blk_drew ?_ | refine blk_alloc ?_ _)); refine blk_put (cs := #[.int .i64 ((rd_TIns (rd_LIns l0_3 x71_3) x77_4).f0), .int .i64 ((rd_TIns (rd_LIns l0_3 x71_3) x77_4).f1), .int .i64 ((rd_TIns (rd_LIns l0_3 x71_3) x77_4).f2), .int .i64 0, .string (⟨#[]⟩ : ByteArray), .slice none 0 0]) ?_ 3 _ rfl; (with_reducible repeat (first | refine blk_drewN ?_ _ | refine blk_drew ?_ | refine blk_alloc ?_ _)); refine blk_put (cs := #[.int .i64 ((rd_TIns (rd_LIns l0_3 x71_3) x77_4).f0), .int .i64 ((rd_TIns (rd_LIns l0_3 x71_3) x77_4).f1), .int .i64 0, .int .i64 0, .string (⟨#[]⟩ : ByteArray), .slice none 0 0]) ?_ 2 _ rfl; (with_reducible repeat (first | refine blk_drewN ?_ _ | refine blk_drew ?_ | refine blk_alloc ?_ _)); refine blk_put (cs := #[.int .i64 ((rd_TIns (rd_LIns l0_3 x71_3) x77_4).f0), .int .i64 0, .int .i64 0, .int .i64 0, .string (⟨#[]⟩ : ByteArray), .slice none 0 0]) ?_ 1 _ rfl; (with_reducible repeat (first | refine blk_drewN ?_ _ | refine blk_drew ?_ | refine blk_alloc ?_ _)); refine blk_put (cs := #[.int .i64 0, .int .i64 0, .int .i64 0, .int .i64 0, .string (⟨#[]⟩ : ByteArray), .slice none 0 0]) ?_ 0 _ rfl; (with_reducible repeat (first | refine blk_drewN ?_ _ | refine blk_drew ?_ | refine blk_alloc ?_ _)); exact BK139.out) hb); replace HB := qH hb))
                   go_ret
                   exact ⟨qE, qB⟩
                 ·rw [if_neg c32] at H
                  exact absurd H (by simp)
                ·rw [if_neg c31] at H
                 exact absurd H (by simp)
               ·rw [if_neg c30] at H
                have c30b0 := decide_eq_false c30
                clear c30
                have H' := Aside0.mk H
                clear H
                go_wp2
                go_roundg k4
                case measure => have := HJ3.out; have := HK2.out; have := HK3.out; have := HK4.out; omega
                case rel => exact ⟨(wrap64 (x71_3 + 1)), qT, H', ⟨by have := HJ3.out; have := HK2.out; have := HK3.out; have := HK4.out; omega⟩, ⟨qK BK134.out⟩, ⟨qB⟩⟩
            ·rw [if_neg c29] at H
             exact absurd H (by simp)
           ·rw [if_neg c28] at H
            exact absurd H (by simp)
          ·rw [if_neg c27] at H
           have c27b0 := decide_eq_false c27
           clear c27
           obtain rfl := Option.some.inj H
           go_wp2
           go_ret
           exact ⟨qE, qB⟩
 ·replace c3 := Bool.eq_false_iff.mpr c3
  subst c3
  have H1 : (some 70) = some r := by rw [if_neg (show ¬ (false = true) by decide)] at H; exact H
  clear H
  have H := H1
  clear H1
  obtain rfl := Option.some.inj H
  go_enter Tryd.func20, Tryd.ntmps20
  go_wp2_with (first | ((with_reducible refine gate_dst (N := 1) rfl ?_); (try (refine gate_guard (by rfl) ?_; dsimp only)); refine box_event (by rfl) (N := 1) (by rfl) (cs := #[.string a0_0, .int .i64 a0_1, .int .i64 a0_2, .slice A0_3 l0_3.length c0_3]) (t := 34) ?hr ?_; (case hr => first | (go_simp; done) | (go_simp; rfl)); intro gb134 hg w45 hbox hb; have BK134 := Aside0.mk (hbox); have GW134 := qG hg; have GE134 := GW134; replace HB := qH hb; clear hb hbox hg; have z46_0 := bk4 BK134.out) | ((with_reducible refine gate_callee (f := 21) rfl ?_); refine goesL_ (some 13) rfl rfl Tryd.func21 (by kernel_rfl) rfl #[.string a0_0] rfl qL ?_; (with_reducible refine (ir_Name.calls a0_0 false _ A2.out).mono ?_); rintro e w47 ⟨rfl, hb⟩; refine ⟨_, rfl, ?_⟩; replace BK134 := qW BK134 hb; replace HB := qH hb; (try clear hb)))
  go_ret
  exact ⟨qE, qB⟩

end Go.Proofs.YtbipipbfiekbgaaDoor.Q
