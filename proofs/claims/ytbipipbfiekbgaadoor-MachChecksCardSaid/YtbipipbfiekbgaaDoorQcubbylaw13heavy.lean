/- Lean functions that answer as the Go functions named below do, and the proofs of that. Written by a program out of the translation. -/
import Derived.Test.YtbipipbfiekbgaaDoorQ0
import Derived.Test.YtbipipbfiekbgaaDoorSq
namespace Go.Proofs.YtbipipbfiekbgaaDoor.Q
open Go.RowKit Go.Proofs.YtbipipbfiekbgaaDoorW.PrintWords Go.Proofs.YtbipipbfiekbgaaDoorW.PrintLast Go.Proofs.YtbipipbfiekbgaaDoorW.PrintMore
attribute [local go_sem] max2_int min2_int max_two min_two max_three min_three max_four min_four   -- for this text's walks alone
set_option linter.unusedVariables false
set_option linter.unusedSimpArgs false

/-! ### cubbylaw13_heavy: function 9 -/
mutual
def cubbylaw13_heavy.j0 : Nat → Bool → ByteArray → Int → Int → Int → List (List (SIns)) → Option (Bool)
 | 0, _, _, _, _, _, _ => none
 | k + 1, x15, x102000, x102001, x102002, x102003, x102004 => if x15 = true then (some true) else (cubbylaw13_heavy.l0 k 0 0 x102000 x102001 x102002 x102003 x102004)
def cubbylaw13_heavy.l0 : Nat → Int → Int → ByteArray → Int → Int → Int → List (List (SIns)) → Option (Bool)
 | 0, _, _, _, _, _, _, _ => none
 | k + 1, x3, x4, x102000, x102001, x102002, x102003, x102004 => if x4 < (x102004.length : Int) then (cubbylaw13_heavy.j2 k x3 x4 (decide (x3 ≤ 2000)) x102000 x102001 x102002 x102003 x102004) else (cubbylaw13_heavy.j2 k x3 x4 false x102000 x102001 x102002 x102003 x102004)
def cubbylaw13_heavy.j2 : Nat → Int → Int → Bool → ByteArray → Int → Int → Int → List (List (SIns)) → Option (Bool)
 | 0, _, _, _, _, _, _, _, _ => none
 | k + 1, x3, x4, x24, x102000, x102001, x102002, x102003, x102004 => if x24 = true then (if 0 ≤ x4 then (if x4 < (x102004.length : Int) then (cubbylaw13_heavy.l1 k (wrap64 (x3 + (mn ((rd_LIns x102004 x4).length : Int) 1048576))) x4 0 x102000 x102001 x102002 x102003 x102004) else (none)) else (none)) else (some (decide (x3 > 2000)))
def cubbylaw13_heavy.l1 : Nat → Int → Int → Int → ByteArray → Int → Int → Int → List (List (SIns)) → Option (Bool)
 | 0, _, _, _, _, _, _, _, _ => none
 | k + 1, x3, x4, x5, x102000, x102001, x102002, x102003, x102004 => if 0 ≤ x4 then (if x4 < (x102004.length : Int) then (if x5 < ((rd_LIns x102004 x4).length : Int) then (cubbylaw13_heavy.j4 k x3 x4 x5 (decide (x5 ≤ 2000)) x102000 x102001 x102002 x102003 x102004) else (cubbylaw13_heavy.j4 k x3 x4 x5 false x102000 x102001 x102002 x102003 x102004)) else (none)) else (none)
def cubbylaw13_heavy.j4 : Nat → Int → Int → Int → Bool → ByteArray → Int → Int → Int → List (List (SIns)) → Option (Bool)
 | 0, _, _, _, _, _, _, _, _, _ => none
 | k + 1, x3, x4, x5, x47, x102000, x102001, x102002, x102003, x102004 => if x47 = true then (if 0 ≤ x4 then (if x4 < (x102004.length : Int) then (if 0 ≤ x5 then (if x5 < ((rd_LIns x102004 x4).length : Int) then (if (((rd_TIns (rd_LIns x102004 x4) x5).f5).length : Int) > 50 then (some true) else (if (((rd_TIns (rd_LIns x102004 x4) x5).f4).size : Int) > 256 then (some true) else (cubbylaw13_heavy.l1 k x3 x4 (wrap64 (x5 + 1)) x102000 x102001 x102002 x102003 x102004))) else (none)) else (none)) else (none)) else (none)) else (cubbylaw13_heavy.l0 k x3 (wrap64 (x4 + 1)) x102000 x102001 x102002 x102003 x102004)
end
def cubbylaw13_heavy.f (k : Nat) (a0_0 : ByteArray) (a0_1 : Int) (a0_2 : Int) (a0_3 : Int) (l0_4 : List (List (SIns))) : Option (Bool) := if (l0_4.length : Int) > 50 then (cubbylaw13_heavy.j0 k true a0_0 a0_1 a0_2 a0_3 l0_4) else (cubbylaw13_heavy.j0 k (decide ((a0_0.size : Int) > 256)) a0_0 a0_1 a0_2 a0_3 l0_4)
theorem cubbylaw13_heavy.mono_l : ∀ k, (∀ y0 y1 y2 y3 y4 y5, LeO (cubbylaw13_heavy.j0 k y0 y1 y2 y3 y4 y5) (cubbylaw13_heavy.j0 (k + 1) y0 y1 y2 y3 y4 y5)) ∧ (∀ y0 y1 y2 y3 y4 y5 y6, LeO (cubbylaw13_heavy.l0 k y0 y1 y2 y3 y4 y5 y6) (cubbylaw13_heavy.l0 (k + 1) y0 y1 y2 y3 y4 y5 y6)) ∧ (∀ y0 y1 y2 y3 y4 y5 y6 y7, LeO (cubbylaw13_heavy.j2 k y0 y1 y2 y3 y4 y5 y6 y7) (cubbylaw13_heavy.j2 (k + 1) y0 y1 y2 y3 y4 y5 y6 y7)) ∧ (∀ y0 y1 y2 y3 y4 y5 y6 y7, LeO (cubbylaw13_heavy.l1 k y0 y1 y2 y3 y4 y5 y6 y7) (cubbylaw13_heavy.l1 (k + 1) y0 y1 y2 y3 y4 y5 y6 y7)) ∧ (∀ y0 y1 y2 y3 y4 y5 y6 y7 y8, LeO (cubbylaw13_heavy.j4 k y0 y1 y2 y3 y4 y5 y6 y7 y8) (cubbylaw13_heavy.j4 (k + 1) y0 y1 y2 y3 y4 y5 y6 y7 y8))
 | 0 => ⟨fun _ _ _ _ _ _ r h => by simp [cubbylaw13_heavy.j0] at h, fun _ _ _ _ _ _ _ r h => by simp [cubbylaw13_heavy.l0] at h, fun _ _ _ _ _ _ _ _ r h => by simp [cubbylaw13_heavy.j2] at h, fun _ _ _ _ _ _ _ _ r h => by simp [cubbylaw13_heavy.l1] at h, fun _ _ _ _ _ _ _ _ _ r h => by simp [cubbylaw13_heavy.j4] at h⟩
 | k + 1 => by
  obtain ⟨ih0, ih1, ih2, ih3, ih4⟩ := cubbylaw13_heavy.mono_l k
  refine ⟨?_, ?_, ?_, ?_, ?_⟩ <;> intros <;> (first | unfold cubbylaw13_heavy.j0 | unfold cubbylaw13_heavy.l0 | unfold cubbylaw13_heavy.j2 | unfold cubbylaw13_heavy.l1 | unfold cubbylaw13_heavy.j4) <;> repeat' first | (with_reducible exact ih0 _ _ _ _ _ _) | (with_reducible exact ih1 _ _ _ _ _ _ _) | (with_reducible exact ih2 _ _ _ _ _ _ _ _) | (with_reducible exact ih3 _ _ _ _ _ _ _ _) | (with_reducible exact ih4 _ _ _ _ _ _ _ _ _) | (with_reducible exact LeO.refl _) | (with_reducible exact LeO.none _) | (with_reducible refine LeO.ite ?_ ?_) | (with_reducible refine LeO.bind ?_ (fun _ => ?_)) | exact LeO.none _ | refine LeO.ite ?_ ?_ | refine LeO.bind ?_ (fun _ => ?_)
theorem cubbylaw13_heavy.mono : ∀ a0 a1 a2 a3 a4 k, LeO (cubbylaw13_heavy.f k a0 a1 a2 a3 a4) (cubbylaw13_heavy.f (k + 1) a0 a1 a2 a3 a4) := by
 intro a0 a1 a2 a3 a4 k
 obtain ⟨ih0, ih1, ih2, ih3, ih4⟩ := cubbylaw13_heavy.mono_l k
 unfold cubbylaw13_heavy.f
 repeat' first | (with_reducible exact ih0 _ _ _ _ _ _) | (with_reducible exact ih1 _ _ _ _ _ _ _) | (with_reducible exact ih2 _ _ _ _ _ _ _ _) | (with_reducible exact ih3 _ _ _ _ _ _ _ _) | (with_reducible exact ih4 _ _ _ _ _ _ _ _ _) | (with_reducible exact LeO.refl _) | (with_reducible exact LeO.none _) | (with_reducible refine LeO.ite ?_ ?_) | (with_reducible refine LeO.bind ?_ (fun _ => ?_)) | exact LeO.none _ | refine LeO.ite ?_ ?_ | refine LeO.bind ?_ (fun _ => ?_)
set_option maxHeartbeats 8000000 in
set_option maxRecDepth 100000 in
theorem cubbylaw13_heavy.calls (k : Nat) (a0_0 : ByteArray) (a0_1 : Int) (a0_2 : Int) (a0_3 : Int) (A0_4 : Option Addr) (c0_4 : Nat) (l0_4 : List (List (SIns))) (r : Bool) (w : World) (hr0_4 : Kd.C (Kd.slice 31 kIns) w A0_4 l0_4.length l0_4) (hc0_4 : l0_4.length ≤ c0_4) (h : cubbylaw13_heavy.f k a0_0 a0_1 a0_2 a0_3 l0_4 = some r) :
  Calls Tryd.prog 9 #[.agg #[.string a0_0, .int .i64 a0_1, .int .i64 a0_2, .int .i64 a0_3, .slice A0_4 l0_4.length c0_4]] w fun e w' => e = .returned (.bool r) ∧ Below w.heap.size w w' := by
 have hu24 := Tryd.underlying24
 have HR0_4 := Aside0.mk hr0_4
 have HC0_4 := Aside0.mk hc0_4
 clear hr0_4 hc0_4
 have HB := Aside0.mk (Below.refl w.heap.size w)
 have H := h; clear h; unfold cubbylaw13_heavy.f at H
 have HC2 := Aside0.mk H
 clear H
 go_enter Tryd.func9, Tryd.ntmps9
 go_upto_region 1 with (first | ((with_reducible refine gate_dst (N := 1) rfl ?_); (try (refine gate_guard (by rfl) ?_; dsimp only)); refine box_event (by rfl) (N := 1) (by rfl) (cs := #[.string a0_0, .int .i64 a0_1, .int .i64 a0_2, .int .i64 a0_3, .slice A0_4 l0_4.length c0_4]) (t := 24) ?hr ?_; (case hr => first | (go_simp; done) | (go_simp; rfl)); intro gb101 hg w3 hbox hb; have BK101 := Aside0.mk (hbox); have GW101 := qG hg; have GE101 := GW101; replace HB := qH hb; clear hb hbox hg))
 (try simp only [Act.put, List.setIfInBounds_toArray, List.set_cons_zero, List.set_cons_succ])
 go_cut [15] (fun v15 wc => ∃ (kq : Nat) (x15_1 : Bool), v15 = .bool x15_1 ∧ Aside0 (cubbylaw13_heavy.j0 kq x15_1 a0_0 a0_1 a0_2 a0_3 l0_4 = some r) ∧ Aside0 (kq ≤ k) ∧ Aside0 (wc.heap[gb101]? = some (.cells #[.string a0_0, .int .i64 a0_1, .int .i64 a0_2, .int .i64 a0_3, (.slice A0_4 l0_4.length c0_4)] 24 (0, 0))) ∧ Aside0 (Below w.heap.size w wc))
 case first =>
  have H := HC2.out
  clear HC2
  by_cases c4 : (l0_4.length : Int) > 50
  ·rw [if_pos c4] at H
   have c4b0 : decide (50 < (l0_4.length : Int)) = true := decide_eq_true c4
   have c4b1 : decide (50 < l0_4.length) = true := decide_eq_true (by omega)
   clear c4
   (first | rw [c4b0] | (simp only [i64_w, i32_w]; rw [c4b0]) | skip)
   have H' := Aside0.mk H
   clear H
   have z5_0 := bk5 BK101.out
   go_wp2
   go_meet
   case rel => exact ⟨_, (true), qT, H', ⟨qO⟩, ⟨qK BK101.out⟩, ⟨qB⟩⟩
  ·rw [if_neg c4] at H
   have c4b0 : decide (50 < (l0_4.length : Int)) = false := decide_eq_false c4
   have c4b1 : decide (50 < l0_4.length) = false := decide_eq_false (by omega)
   clear c4
   (first | rw [c4b0] | (simp only [i64_w, i32_w]; rw [c4b0]) | skip)
   have H' := Aside0.mk H
   clear H
   have z6_0 := bk5 BK101.out
   go_wp2
   go_meet
   case rel => exact ⟨_, (decide ((a0_0.size : Int) > 256)), qT, H', ⟨qO⟩, ⟨qK BK101.out⟩, ⟨qB⟩⟩
 case rest =>
  clear HC2
  try clear p2; try clear c4; try clear c4b0 c4b1; try clear z5_0; try clear z6_0
  obtain ⟨kq, x15_1, rfl, HA, HJ1, BK101, HB⟩ := hcut
  cases kq with
  | zero => exact absurd HA.out (by simp [cubbylaw13_heavy.j0])
  | succ kj1 =>
   have H := HA.out
   clear HA
   simp only [cubbylaw13_heavy.j0] at H
   by_cases c7 : x15_1 = true
   ·subst c7
    have H1 : (some true) = some r := by rw [if_pos rfl] at H; exact H
    clear H
    have H := H1
    clear H1
    obtain rfl := Option.some.inj H
    go_wp2
    go_ret
    exact ⟨qE, qB⟩
   ·replace c7 := Bool.eq_false_iff.mpr c7
    subst c7
    have H1 : (cubbylaw13_heavy.l0 kj1 0 0 a0_0 a0_1 a0_2 a0_3 l0_4) = some r := by rw [if_neg (show ¬ (false = true) by decide)] at H; exact H
    clear H
    have H := H1
    clear H1
    have H' := Aside0.mk H
    clear H
    go_wp2
    go_loopg [3, 4] kj1 (fun kq v3 v4 w' => ∃ (x3_2 : Int) (x4_2 : Int), v3 = .int .i64 x3_2 ∧ v4 = .int .i64 x4_2 ∧ Aside0 (cubbylaw13_heavy.l0 kq x3_2 x4_2 a0_0 a0_1 a0_2 a0_3 l0_4 = some r) ∧ Aside0 (kq ≤ kj1) ∧ Aside0 (w'.heap[gb101]? = some (.cells #[.string a0_0, .int .i64 a0_1, .int .i64 a0_2, .int .i64 a0_3, (.slice A0_4 l0_4.length c0_4)] 24 (0, 0))) ∧ Aside0 (Below w.heap.size w w'))
    case atStart => exact ⟨(0), (0), qT, qT, H', ⟨Nat.le_refl _⟩, ⟨qK BK101.out⟩, ⟨qB⟩⟩
    case round =>
     clear H'
     try clear p2; try clear c4; try clear c4b0 c4b1; try clear c7; try clear z5_0; try clear z6_0
     obtain ⟨x3_2, x4_2, rfl, rfl, HA, HK2, BK101, HB⟩ := hrel
     cases gk with
     | zero => exact absurd HA.out (by simp [cubbylaw13_heavy.l0])
     | succ k2 =>
      have H := HA.out
      clear HA
      simp only [cubbylaw13_heavy.l0] at H
      have HC8 := Aside0.mk H
      clear H
      go_upto_region 5 with (fail)
      go_cut [24] (fun v24 wc => ∃ (kq : Nat) (x24_7 : Bool), v24 = .bool x24_7 ∧ Aside0 (cubbylaw13_heavy.j2 kq x3_2 x4_2 x24_7 a0_0 a0_1 a0_2 a0_3 l0_4 = some r) ∧ Aside0 (kq ≤ k2) ∧ Aside0 (wc.heap[gb101]? = some (.cells #[.string a0_0, .int .i64 a0_1, .int .i64 a0_2, .int .i64 a0_3, (.slice A0_4 l0_4.length c0_4)] 24 (0, 0))) ∧ Aside0 (Below w.heap.size w wc))
      case first =>
       have H := HC8.out
       clear HC8
       by_cases c9 : x4_2 < (l0_4.length : Int)
       ·rw [if_pos c9] at H
        have c9b0 := decide_eq_true c9
        clear c9
        (first | rw [c9b0] | (simp only [i64_w, i32_w]; rw [c9b0]) | skip)
        have H' := Aside0.mk H
        clear H
        have z10_0 := bk5 BK101.out
        go_wp2
        go_meet
        case rel => exact ⟨_, (decide (x3_2 ≤ 2000)), qT, H', ⟨by have := HJ1.out; have := HK2.out; first | omega | exact Nat.le_refl _⟩, ⟨qK BK101.out⟩, ⟨qB⟩⟩
       ·rw [if_neg c9] at H
        have c9b0 := decide_eq_false c9
        clear c9
        (first | rw [c9b0] | (simp only [i64_w, i32_w]; rw [c9b0]) | skip)
        have H' := Aside0.mk H
        clear H
        have z11_0 := bk5 BK101.out
        go_wp2
        go_meet
        case rel => exact ⟨_, (false), qT, H', ⟨by have := HJ1.out; have := HK2.out; first | omega | exact Nat.le_refl _⟩, ⟨qK BK101.out⟩, ⟨qB⟩⟩
      case rest =>
       clear HC8
       try clear p2; try clear c4; try clear c4b0 c4b1; try clear c7; try clear c9; try clear c9b0; try clear z10_0; try clear z11_0; try clear z5_0; try clear z6_0
       obtain ⟨kq, x24_7, rfl, HA, HJ7, BK101, HB⟩ := hcut
       cases kq with
       | zero => exact absurd HA.out (by simp [cubbylaw13_heavy.j2])
       | succ kj7 =>
        have H := HA.out
        clear HA
        simp only [cubbylaw13_heavy.j2] at H
        by_cases c12 : x24_7 = true
        ·subst c12
         have H1 : (if 0 ≤ x4_2 then (if x4_2 < (l0_4.length : Int) then (cubbylaw13_heavy.l1 kj7 (wrap64 (x3_2 + (mn ((rd_LIns l0_4 x4_2).length : Int) 1048576))) x4_2 0 a0_0 a0_1 a0_2 a0_3 l0_4) else (none)) else (none)) = some r := by rw [if_pos rfl] at H; exact H
         clear H
         have H := H1
         clear H1
         by_cases c13 : 0 ≤ x4_2
         ·rw [if_pos c13] at H
          have c13b0 := decide_eq_true c13
          clear c13
          by_cases c14 : x4_2 < (l0_4.length : Int)
          ·rw [if_pos c14] at H
           have c14b0 := decide_eq_true c14
           clear c14
           obtain ⟨ji15, hji15⟩ : ∃ j_ : Int, (mn ((rd_LIns l0_4 x4_2).length : Int) 1048576) = j_ := ⟨_, rfl⟩
           replace H : (cubbylaw13_heavy.l1 kj7 (wrap64 (x3_2 + (ji15))) x4_2 0 a0_0 a0_1 a0_2 a0_3 l0_4) = some r := by first | (rw [hji15] at H; exact H) | (simp only [hji15] at H ⊢; exact H)
           have hji15_ : (if 1048576 < ((rd_LIns l0_4 x4_2).length : Int) then 1048576 else ((rd_LIns l0_4 x4_2).length : Int)) = ji15 := hji15
           have H' := Aside0.mk H
           clear H
           have z16_0 := bk5 BK101.out
           have p102 : 0 ≤ (x4_2 : Int) := of_decide_eq_true qA
           have q102 : x4_2 < (l0_4.length : Int) := of_decide_eq_true qA
           obtain ⟨ad102, A102_0, c102_0, e102, hx102_0, hl102_0, hi102_0⟩ := at_LIns HR0_4.out x4_2 p102 q102
           cases e102
           replace hx102_0 := (HB.out.cell (World.block_lt_of_cell? w _ hx102_0)).trans hx102_0
           have HR102_0 := Aside0.mk hi102_0
           have HC102_0 := Aside0.mk hl102_0
           clear hi102_0 hl102_0
           replace p102 := eq_true p102
           replace q102 := eq_true q102
           go_wp2
           go_loopg [5] kj7 (fun kq v5 w' => ∃ (x5_4 : Int), v5 = .int .i64 x5_4 ∧ Aside0 (cubbylaw13_heavy.l1 kq (wrap64 (x3_2 + (ji15))) x4_2 x5_4 a0_0 a0_1 a0_2 a0_3 l0_4 = some r) ∧ Aside0 (kq ≤ kj7) ∧ Aside0 (w'.heap[gb101]? = some (.cells #[.string a0_0, .int .i64 a0_1, .int .i64 a0_2, .int .i64 a0_3, (.slice (some ad102) l0_4.length c0_4)] 24 (0, 0))) ∧ Aside0 (Below w.heap.size w w'))
           case atStart => exact ⟨(0), qT, H', ⟨Nat.le_refl _⟩, ⟨qK BK101.out⟩, ⟨qB⟩⟩
           case round =>
            clear H'
            try clear c1; try clear p1; try clear q1; try clear hx1; try clear p2; try clear c4; try clear c4b0 c4b1; try clear p6; try clear c7; try clear c9; try clear c9b0; try clear c10; try clear p10; try clear q10; try clear hx10; try clear c12; try clear c13b0; try clear c14b0; try clear z10_0; try clear z11_0; try clear z16_0; try clear z5_0; try clear z6_0; try clear hx102_0; try clear p102; try clear q102
            obtain ⟨x5_4, rfl, HA, HK4, BK101, HB⟩ := hrel
            cases gk with
            | zero => exact absurd HA.out (by simp [cubbylaw13_heavy.l1])
            | succ k4 =>
             have H := HA.out
             clear HA
             simp only [cubbylaw13_heavy.l1] at H
             have HC17 := Aside0.mk H
             clear H
             go_upto_region 9 with (fail)
             go_cut [47] (fun v47 wc => ∃ (kq : Nat) (x47_16 : Bool), v47 = .bool x47_16 ∧ Aside0 (cubbylaw13_heavy.j4 kq (wrap64 (x3_2 + (ji15))) x4_2 x5_4 x47_16 a0_0 a0_1 a0_2 a0_3 l0_4 = some r) ∧ Aside0 (kq ≤ k4) ∧ Aside0 (wc.heap[gb101]? = some (.cells #[.string a0_0, .int .i64 a0_1, .int .i64 a0_2, .int .i64 a0_3, (.slice (some ad102) l0_4.length c0_4)] 24 (0, 0))) ∧ Aside0 (Below w.heap.size w wc))
             case first =>
              have H := HC17.out
              clear HC17
              by_cases c18 : 0 ≤ x4_2
              ·rw [if_pos c18] at H
               have c18b0 := decide_eq_true c18
               clear c18
               (first | rw [c18b0] | (simp only [i64_w, i32_w]; rw [c18b0]) | skip)
               by_cases c19 : x4_2 < (l0_4.length : Int)
               ·rw [if_pos c19] at H
                have c19b0 := decide_eq_true c19
                clear c19
                by_cases c20 : x5_4 < ((rd_LIns l0_4 x4_2).length : Int)
                ·rw [if_pos c20] at H
                 have c20b0 := decide_eq_true c20
                 clear c20
                 have H' := Aside0.mk H
                 clear H
                 have z21_0 := bk5 BK101.out
                 have p103 : 0 ≤ (x4_2 : Int) := of_decide_eq_true qA
                 have q103 : x4_2 < (l0_4.length : Int) := of_decide_eq_true qA
                 obtain ⟨ad103, A103_0, c103_0, e103, hx103_0, hl103_0, hi103_0⟩ := at_LIns HR0_4.out x4_2 p103 q103
                 obtain rfl : ad102 = ad103 := (by injection e103)
                 replace hx103_0 := (HB.out.cell (World.block_lt_of_cell? w _ hx103_0)).trans hx103_0
                 have HR103_0 := Aside0.mk hi103_0
                 have HC103_0 := Aside0.mk hl103_0
                 clear hi103_0 hl103_0
                 replace p103 := eq_true p103
                 replace q103 := eq_true q103
                 go_wp2
                 go_meet
                 case rel => exact ⟨_, (decide (x5_4 ≤ 2000)), qT, H', ⟨by have := HJ1.out; have := HK2.out; have := HJ7.out; have := HK4.out; first | omega | exact Nat.le_refl _⟩, ⟨qK BK101.out⟩, ⟨qB⟩⟩
                ·rw [if_neg c20] at H
                 have c20b0 := decide_eq_false c20
                 clear c20
                 have H' := Aside0.mk H
                 clear H
                 have z22_0 := bk5 BK101.out
                 have p103 : 0 ≤ (x4_2 : Int) := of_decide_eq_true qA
                 have q103 : x4_2 < (l0_4.length : Int) := of_decide_eq_true qA
                 obtain ⟨ad103, A103_0, c103_0, e103, hx103_0, hl103_0, hi103_0⟩ := at_LIns HR0_4.out x4_2 p103 q103
                 obtain rfl : ad102 = ad103 := (by injection e103)
                 replace hx103_0 := (HB.out.cell (World.block_lt_of_cell? w _ hx103_0)).trans hx103_0
                 have HR103_0 := Aside0.mk hi103_0
                 have HC103_0 := Aside0.mk hl103_0
                 clear hi103_0 hl103_0
                 replace p103 := eq_true p103
                 replace q103 := eq_true q103
                 go_wp2
                 go_meet
                 case rel => exact ⟨_, (false), qT, H', ⟨by have := HJ1.out; have := HK2.out; have := HJ7.out; have := HK4.out; first | omega | exact Nat.le_refl _⟩, ⟨qK BK101.out⟩, ⟨qB⟩⟩
               ·rw [if_neg c19] at H
                exact absurd H (by simp)
              ·rw [if_neg c18] at H
               exact absurd H (by simp)
             case rest =>
              clear HC17
              try clear c1; try clear p1; try clear q1; try clear hx1; try clear c2; try clear p2; try clear c4; try clear c4b0 c4b1; try clear p6; try clear c7; try clear c9; try clear c9b0; try clear c10; try clear p10; try clear q10; try clear hx10; try clear c12; try clear c13b0; try clear c14b0; try clear c18; try clear c18b0; try clear c19; try clear c19b0; try clear c20; try clear c20b0; try clear z10_0; try clear z11_0; try clear z16_0; try clear z21_0; try clear z22_0; try clear z5_0; try clear z6_0; try clear hx102_0; try clear hx103_0; try clear p102; try clear p103; try clear q102; try clear q103
              obtain ⟨kq, x47_16, rfl, HA, HJ16, BK101, HB⟩ := hcut
              cases kq with
              | zero => exact absurd HA.out (by simp [cubbylaw13_heavy.j4])
              | succ kj16 =>
               have H := HA.out
               clear HA
               simp only [cubbylaw13_heavy.j4] at H
               by_cases c23 : x47_16 = true
               ·subst c23
                have H1 : (if 0 ≤ x4_2 then (if x4_2 < (l0_4.length : Int) then (if 0 ≤ x5_4 then (if x5_4 < ((rd_LIns l0_4 x4_2).length : Int) then (if (((rd_TIns (rd_LIns l0_4 x4_2) x5_4).f5).length : Int) > 50 then (some true) else (if (((rd_TIns (rd_LIns l0_4 x4_2) x5_4).f4).size : Int) > 256 then (some true) else (cubbylaw13_heavy.l1 kj16 (wrap64 (x3_2 + (ji15))) x4_2 (wrap64 (x5_4 + 1)) a0_0 a0_1 a0_2 a0_3 l0_4))) else (none)) else (none)) else (none)) else (none)) = some r := by rw [if_pos rfl] at H; exact H
                clear H
                have H := H1
                clear H1
                by_cases c24 : 0 ≤ x4_2
                ·rw [if_pos c24] at H
                 have c24b0 := decide_eq_true c24
                 clear c24
                 by_cases c25 : x4_2 < (l0_4.length : Int)
                 ·rw [if_pos c25] at H
                  have c25b0 := decide_eq_true c25
                  clear c25
                  by_cases c26 : 0 ≤ x5_4
                  ·rw [if_pos c26] at H
                   have c26b0 := decide_eq_true c26
                   clear c26
                   by_cases c27 : x5_4 < ((rd_LIns l0_4 x4_2).length : Int)
                   ·rw [if_pos c27] at H
                    have c27b0 := decide_eq_true c27
                    clear c27
                    by_cases c28 : (((rd_TIns (rd_LIns l0_4 x4_2) x5_4).f5).length : Int) > 50
                    ·rw [if_pos c28] at H
                     have c28b0 : decide (50 < (((rd_TIns (rd_LIns l0_4 x4_2) x5_4).f5).length : Int)) = true := decide_eq_true c28
                     have c28b1 : decide (50 < ((rd_TIns (rd_LIns l0_4 x4_2) x5_4).f5).length) = true := decide_eq_true (by omega)
                     clear c28
                     obtain rfl := Option.some.inj H
                     have z29_0 := bk5 BK101.out
                     have p104 : 0 ≤ (x4_2 : Int) := of_decide_eq_true qA
                     have q104 : x4_2 < (l0_4.length : Int) := of_decide_eq_true qA
                     obtain ⟨ad104, A104_0, c104_0, e104, hx104_0, hl104_0, hi104_0⟩ := at_LIns HR0_4.out x4_2 p104 q104
                     obtain rfl : ad102 = ad104 := (by injection e104)
                     replace hx104_0 := (HB.out.cell (World.block_lt_of_cell? w _ hx104_0)).trans hx104_0
                     have HR104_0 := Aside0.mk hi104_0
                     have HC104_0 := Aside0.mk hl104_0
                     clear hi104_0 hl104_0
                     replace p104 := eq_true p104
                     replace q104 := eq_true q104
                     have p105 : 0 ≤ (x5_4 : Int) := of_decide_eq_true qA
                     have q105 : x5_4 < ((rd_LIns l0_4 x4_2).length : Int) := of_decide_eq_true qA
                     obtain ⟨ad105, A105_5, c105_5, e105, hx105_0, hx105_1, hx105_2, hx105_3, hx105_4, hx105_5, hl105_5, hi105_5⟩ := at_TIns HR104_0.out x5_4 p105 q105
                     cases e105
                     replace hx105_0 := (HB.out.cell (World.block_lt_of_cell? w _ hx105_0)).trans hx105_0
                     replace hx105_1 := (HB.out.cell (World.block_lt_of_cell? w _ hx105_1)).trans hx105_1
                     replace hx105_2 := (HB.out.cell (World.block_lt_of_cell? w _ hx105_2)).trans hx105_2
                     replace hx105_3 := (HB.out.cell (World.block_lt_of_cell? w _ hx105_3)).trans hx105_3
                     replace hx105_4 := (HB.out.cell (World.block_lt_of_cell? w _ hx105_4)).trans hx105_4
                     replace hx105_5 := (HB.out.cell (World.block_lt_of_cell? w _ hx105_5)).trans hx105_5
                     have HR105_5 := Aside0.mk hi105_5
                     have HC105_5 := Aside0.mk hl105_5
                     clear hi105_5 hl105_5
                     replace p105 := eq_true p105
                     replace q105 := eq_true q105
                     go_wp2
                     go_ret
                     exact ⟨by first | rfl | (simp [errW_none, errW_some] <;> rfl) | (simp only [← hji15]; first | rfl | (simp [errW_none, errW_some] <;> rfl)) | (simp [*, errW_none, errW_some] <;> rfl), qB⟩
                    ·rw [if_neg c28] at H
                     have c28b0 : decide (50 < (((rd_TIns (rd_LIns l0_4 x4_2) x5_4).f5).length : Int)) = false := decide_eq_false c28
                     have c28b1 : decide (50 < ((rd_TIns (rd_LIns l0_4 x4_2) x5_4).f5).length) = false := decide_eq_false (by omega)
                     clear c28
                     by_cases c30 : (((rd_TIns (rd_LIns l0_4 x4_2) x5_4).f4).size : Int) > 256
                     ·rw [if_pos c30] at H
                      have c30b0 : decide (256 < (((rd_TIns (rd_LIns l0_4 x4_2) x5_4).f4).size : Int)) = true := decide_eq_true c30
                      have c30b1 : decide (256 < ((rd_TIns (rd_LIns l0_4 x4_2) x5_4).f4).size) = true := decide_eq_true (by omega)
                      clear c30
                      obtain rfl := Option.some.inj H
                      have z31_0 := bk5 BK101.out
                      have p104 : 0 ≤ (x4_2 : Int) := of_decide_eq_true qA
                      have q104 : x4_2 < (l0_4.length : Int) := of_decide_eq_true qA
                      obtain ⟨ad104, A104_0, c104_0, e104, hx104_0, hl104_0, hi104_0⟩ := at_LIns HR0_4.out x4_2 p104 q104
                      obtain rfl : ad102 = ad104 := (by injection e104)
                      replace hx104_0 := (HB.out.cell (World.block_lt_of_cell? w _ hx104_0)).trans hx104_0
                      have HR104_0 := Aside0.mk hi104_0
                      have HC104_0 := Aside0.mk hl104_0
                      clear hi104_0 hl104_0
                      replace p104 := eq_true p104
                      replace q104 := eq_true q104
                      have p105 : 0 ≤ (x5_4 : Int) := of_decide_eq_true qA
                      have q105 : x5_4 < ((rd_LIns l0_4 x4_2).length : Int) := of_decide_eq_true qA
                      obtain ⟨ad105, A105_5, c105_5, e105, hx105_0, hx105_1, hx105_2, hx105_3, hx105_4, hx105_5, hl105_5, hi105_5⟩ := at_TIns HR104_0.out x5_4 p105 q105
                      cases e105
                      replace hx105_0 := (HB.out.cell (World.block_lt_of_cell? w _ hx105_0)).trans hx105_0
                      replace hx105_1 := (HB.out.cell (World.block_lt_of_cell? w _ hx105_1)).trans hx105_1
                      replace hx105_2 := (HB.out.cell (World.block_lt_of_cell? w _ hx105_2)).trans hx105_2
                      replace hx105_3 := (HB.out.cell (World.block_lt_of_cell? w _ hx105_3)).trans hx105_3
                      replace hx105_4 := (HB.out.cell (World.block_lt_of_cell? w _ hx105_4)).trans hx105_4
                      replace hx105_5 := (HB.out.cell (World.block_lt_of_cell? w _ hx105_5)).trans hx105_5
                      have HR105_5 := Aside0.mk hi105_5
                      have HC105_5 := Aside0.mk hl105_5
                      clear hi105_5 hl105_5
                      replace p105 := eq_true p105
                      replace q105 := eq_true q105
                      have p106 : 0 ≤ (x4_2 : Int) := of_decide_eq_true qA
                      have q106 : x4_2 < (l0_4.length : Int) := of_decide_eq_true qA
                      obtain ⟨ad106, A106_0, c106_0, e106, hx106_0, hl106_0, hi106_0⟩ := at_LIns HR0_4.out x4_2 p106 q106
                      obtain rfl : ad102 = ad106 := (by injection e106)
                      replace hx106_0 := (HB.out.cell (World.block_lt_of_cell? w _ hx106_0)).trans hx106_0
                      have HR106_0 := Aside0.mk hi106_0
                      have HC106_0 := Aside0.mk hl106_0
                      clear hi106_0 hl106_0
                      replace p106 := eq_true p106
                      replace q106 := eq_true q106
                      have ea_ := Option.some.inj (hx104_0.symm.trans hx106_0)
                      injection ea_ with ea_ en_ ec_
                      subst ea_
                      subst ec_
                      clear en_
                      have p107 : 0 ≤ (x5_4 : Int) := of_decide_eq_true qA
                      have q107 : x5_4 < ((rd_LIns l0_4 x4_2).length : Int) := of_decide_eq_true qA
                      obtain ⟨ad107, A107_5, c107_5, e107, hx107_0, hx107_1, hx107_2, hx107_3, hx107_4, hx107_5, hl107_5, hi107_5⟩ := at_TIns HR106_0.out x5_4 p107 q107
                      cases e107
                      replace hx107_0 := (HB.out.cell (World.block_lt_of_cell? w _ hx107_0)).trans hx107_0
                      replace hx107_1 := (HB.out.cell (World.block_lt_of_cell? w _ hx107_1)).trans hx107_1
                      replace hx107_2 := (HB.out.cell (World.block_lt_of_cell? w _ hx107_2)).trans hx107_2
                      replace hx107_3 := (HB.out.cell (World.block_lt_of_cell? w _ hx107_3)).trans hx107_3
                      replace hx107_4 := (HB.out.cell (World.block_lt_of_cell? w _ hx107_4)).trans hx107_4
                      replace hx107_5 := (HB.out.cell (World.block_lt_of_cell? w _ hx107_5)).trans hx107_5
                      have HR107_5 := Aside0.mk hi107_5
                      have HC107_5 := Aside0.mk hl107_5
                      clear hi107_5 hl107_5
                      replace p107 := eq_true p107
                      replace q107 := eq_true q107
                      go_wp2
                      go_ret
                      exact ⟨by first | rfl | (simp [errW_none, errW_some] <;> rfl) | (simp only [← hji15]; first | rfl | (simp [errW_none, errW_some] <;> rfl)) | (simp [*, errW_none, errW_some] <;> rfl), qB⟩
                     ·rw [if_neg c30] at H
                      have c30b0 : decide (256 < (((rd_TIns (rd_LIns l0_4 x4_2) x5_4).f4).size : Int)) = false := decide_eq_false c30
                      have c30b1 : decide (256 < ((rd_TIns (rd_LIns l0_4 x4_2) x5_4).f4).size) = false := decide_eq_false (by omega)
                      clear c30
                      have H' := Aside0.mk H
                      clear H
                      have z32_0 := bk5 BK101.out
                      have p104 : 0 ≤ (x4_2 : Int) := of_decide_eq_true qA
                      have q104 : x4_2 < (l0_4.length : Int) := of_decide_eq_true qA
                      obtain ⟨ad104, A104_0, c104_0, e104, hx104_0, hl104_0, hi104_0⟩ := at_LIns HR0_4.out x4_2 p104 q104
                      obtain rfl : ad102 = ad104 := (by injection e104)
                      replace hx104_0 := (HB.out.cell (World.block_lt_of_cell? w _ hx104_0)).trans hx104_0
                      have HR104_0 := Aside0.mk hi104_0
                      have HC104_0 := Aside0.mk hl104_0
                      clear hi104_0 hl104_0
                      replace p104 := eq_true p104
                      replace q104 := eq_true q104
                      have p105 : 0 ≤ (x5_4 : Int) := of_decide_eq_true qA
                      have q105 : x5_4 < ((rd_LIns l0_4 x4_2).length : Int) := of_decide_eq_true qA
                      obtain ⟨ad105, A105_5, c105_5, e105, hx105_0, hx105_1, hx105_2, hx105_3, hx105_4, hx105_5, hl105_5, hi105_5⟩ := at_TIns HR104_0.out x5_4 p105 q105
                      cases e105
                      replace hx105_0 := (HB.out.cell (World.block_lt_of_cell? w _ hx105_0)).trans hx105_0
                      replace hx105_1 := (HB.out.cell (World.block_lt_of_cell? w _ hx105_1)).trans hx105_1
                      replace hx105_2 := (HB.out.cell (World.block_lt_of_cell? w _ hx105_2)).trans hx105_2
                      replace hx105_3 := (HB.out.cell (World.block_lt_of_cell? w _ hx105_3)).trans hx105_3
                      replace hx105_4 := (HB.out.cell (World.block_lt_of_cell? w _ hx105_4)).trans hx105_4
                      replace hx105_5 := (HB.out.cell (World.block_lt_of_cell? w _ hx105_5)).trans hx105_5
                      have HR105_5 := Aside0.mk hi105_5
                      have HC105_5 := Aside0.mk hl105_5
                      clear hi105_5 hl105_5
                      replace p105 := eq_true p105
                      replace q105 := eq_true q105
                      have p106 : 0 ≤ (x4_2 : Int) := of_decide_eq_true qA
                      have q106 : x4_2 < (l0_4.length : Int) := of_decide_eq_true qA
                      obtain ⟨ad106, A106_0, c106_0, e106, hx106_0, hl106_0, hi106_0⟩ := at_LIns HR0_4.out x4_2 p106 q106
                      obtain rfl : ad102 = ad106 := (by injection e106)
                      replace hx106_0 := (HB.out.cell (World.block_lt_of_cell? w _ hx106_0)).trans hx106_0
                      have HR106_0 := Aside0.mk hi106_0
                      have HC106_0 := Aside0.mk hl106_0
                      clear hi106_0 hl106_0
                      replace p106 := eq_true p106
                      replace q106 := eq_true q106
                      have ea_ := Option.some.inj (hx104_0.symm.trans hx106_0)
                      injection ea_ with ea_ en_ ec_
                      subst ea_
                      subst ec_
                      clear en_
                      have p107 : 0 ≤ (x5_4 : Int) := of_decide_eq_true qA
                      have q107 : x5_4 < ((rd_LIns l0_4 x4_2).length : Int) := of_decide_eq_true qA
                      obtain ⟨ad107, A107_5, c107_5, e107, hx107_0, hx107_1, hx107_2, hx107_3, hx107_4, hx107_5, hl107_5, hi107_5⟩ := at_TIns HR106_0.out x5_4 p107 q107
                      cases e107
                      replace hx107_0 := (HB.out.cell (World.block_lt_of_cell? w _ hx107_0)).trans hx107_0
                      replace hx107_1 := (HB.out.cell (World.block_lt_of_cell? w _ hx107_1)).trans hx107_1
                      replace hx107_2 := (HB.out.cell (World.block_lt_of_cell? w _ hx107_2)).trans hx107_2
                      replace hx107_3 := (HB.out.cell (World.block_lt_of_cell? w _ hx107_3)).trans hx107_3
                      replace hx107_4 := (HB.out.cell (World.block_lt_of_cell? w _ hx107_4)).trans hx107_4
                      replace hx107_5 := (HB.out.cell (World.block_lt_of_cell? w _ hx107_5)).trans hx107_5
                      have HR107_5 := Aside0.mk hi107_5
                      have HC107_5 := Aside0.mk hl107_5
                      clear hi107_5 hl107_5
                      replace p107 := eq_true p107
                      replace q107 := eq_true q107
                      go_wp2
                      go_roundg kj16
                      case measure => have := HJ1.out; have := HK2.out; have := HJ7.out; have := HK4.out; have := HJ16.out; omega
                      case rel => exact ⟨(wrap64 (x5_4 + 1)), qT, H', ⟨by have := HJ1.out; have := HK2.out; have := HJ7.out; have := HK4.out; have := HJ16.out; omega⟩, ⟨qK BK101.out⟩, ⟨qB⟩⟩
                   ·rw [if_neg c27] at H
                    exact absurd H (by simp)
                  ·rw [if_neg c26] at H
                   exact absurd H (by simp)
                 ·rw [if_neg c25] at H
                  exact absurd H (by simp)
                ·rw [if_neg c24] at H
                 exact absurd H (by simp)
               ·replace c23 := Bool.eq_false_iff.mpr c23
                subst c23
                have H1 : (cubbylaw13_heavy.l0 kj16 (wrap64 (x3_2 + (ji15))) (wrap64 (x4_2 + 1)) a0_0 a0_1 a0_2 a0_3 l0_4) = some r := by rw [if_neg (show ¬ (false = true) by decide)] at H; exact H
                clear H
                have H := H1
                clear H1
                have H' := Aside0.mk H
                clear H
                go_wp2
                go_roundg kj16
                case measure => have := HJ1.out; have := HK2.out; have := HJ7.out; have := HK4.out; have := HJ16.out; omega
                case rel => exact ⟨((wrap64 (x3_2 + (ji15)))), (wrap64 (x4_2 + 1)), (by first | rfl | (simp; done) | (simp only [← hji15] <;> (first | rfl | simp)) | (simp [*]; done)), qT, H', ⟨by have := HJ1.out; have := HK2.out; have := HJ7.out; have := HK4.out; have := HJ16.out; omega⟩, ⟨qK BK101.out⟩, ⟨qB⟩⟩
          ·rw [if_neg c14] at H
           exact absurd H (by simp)
         ·rw [if_neg c13] at H
          exact absurd H (by simp)
        ·replace c12 := Bool.eq_false_iff.mpr c12
         subst c12
         have H1 : (some (decide (x3_2 > 2000))) = some r := by rw [if_neg (show ¬ (false = true) by decide)] at H; exact H
         clear H
         have H := H1
         clear H1
         obtain rfl := Option.some.inj H
         go_wp2
         go_ret
         exact ⟨qE, qB⟩

end Go.Proofs.YtbipipbfiekbgaaDoor.Q
