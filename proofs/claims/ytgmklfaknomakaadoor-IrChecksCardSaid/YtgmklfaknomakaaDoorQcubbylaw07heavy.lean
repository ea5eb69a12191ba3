/- Lean functions that answer as the Go functions named below do, and the proofs of that. Written by a program out of the translation. -/
import Derived.Test.YtgmklfaknomakaaDoorQ0
namespace Go.Proofs.YtgmklfaknomakaaDoor.Q
open Go.RowKit Go.Proofs.YtgmklfaknomakaaDoorW.PrintWords Go.Proofs.YtgmklfaknomakaaDoorW.PrintLast Go.Proofs.YtgmklfaknomakaaDoorW.PrintMore
attribute [local go_sem] max2_int min2_int max_two min_two max_three min_three max_four min_four   -- for this text's walks alone
set_option linter.unusedVariables false
set_option linter.unusedSimpArgs false

/-! ### cubbylaw07_heavy: function 27 -/
mutual
def cubbylaw07_heavy.l0 : Nat → List (List (SIns)) → Int → Int → Option (Bool)
 | 0, _, _, _ => none
 | k + 1, x0, x3, x4 => if x4 < (x0.length : Int) then (cubbylaw07_heavy.j1 k x0 x3 x4 (decide (x3 ≤ 500))) else (cubbylaw07_heavy.j1 k x0 x3 x4 false)
def cubbylaw07_heavy.j1 : Nat → List (List (SIns)) → Int → Int → Bool → Option (Bool)
 | 0, _, _, _, _ => none
 | k + 1, x0, x3, x4, x16 => if x16 = true then (if 0 ≤ x4 then (if x4 < (x0.length : Int) then (cubbylaw07_heavy.l1 k x0 (wrap64 (x3 + (mn ((rd_LIns x0 x4).length : Int) 1048576))) x4 0) else (none)) else (none)) else (some (decide (x3 > 500)))
def cubbylaw07_heavy.l1 : Nat → List (List (SIns)) → Int → Int → Int → Option (Bool)
 | 0, _, _, _, _ => none
 | k + 1, x0, x3, x4, x5 => if 0 ≤ x4 then (if x4 < (x0.length : Int) then (if x5 < ((rd_LIns x0 x4).length : Int) then (cubbylaw07_heavy.j3 k x0 x3 x4 x5 (decide (x5 ≤ 500))) else (cubbylaw07_heavy.j3 k x0 x3 x4 x5 false)) else (none)) else (none)
def cubbylaw07_heavy.j3 : Nat → List (List (SIns)) → Int → Int → Int → Bool → Option (Bool)
 | 0, _, _, _, _, _ => none
 | k + 1, x0, x3, x4, x5, x37 => if x37 = true then (if 0 ≤ x4 then (if x4 < (x0.length : Int) then (if 0 ≤ x5 then (if x5 < ((rd_LIns x0 x4).length : Int) then (if (((rd_TIns (rd_LIns x0 x4) x5).f5).length : Int) > 100 then (some true) else (if (((rd_TIns (rd_LIns x0 x4) x5).f4).size : Int) > 1024 then (some true) else (cubbylaw07_heavy.l1 k x0 x3 x4 (wrap64 (x5 + 1))))) else (none)) else (none)) else (none)) else (none)) else (cubbylaw07_heavy.l0 k x0 x3 (wrap64 (x4 + 1)))
end
def cubbylaw07_heavy.f (k : Nat) (l0 : List (List (SIns))) : Option (Bool) := if (l0.length : Int) > 100 then (some true) else (cubbylaw07_heavy.l0 k l0 0 0)
theorem cubbylaw07_heavy.mono_l : ∀ k, (∀ y0 y1 y2, LeO (cubbylaw07_heavy.l0 k y0 y1 y2) (cubbylaw07_heavy.l0 (k + 1) y0 y1 y2)) ∧ (∀ y0 y1 y2 y3, LeO (cubbylaw07_heavy.j1 k y0 y1 y2 y3) (cubbylaw07_heavy.j1 (k + 1) y0 y1 y2 y3)) ∧ (∀ y0 y1 y2 y3, LeO (cubbylaw07_heavy.l1 k y0 y1 y2 y3) (cubbylaw07_heavy.l1 (k + 1) y0 y1 y2 y3)) ∧ (∀ y0 y1 y2 y3 y4, LeO (cubbylaw07_heavy.j3 k y0 y1 y2 y3 y4) (cubbylaw07_heavy.j3 (k + 1) y0 y1 y2 y3 y4))
 | 0 => ⟨fun _ _ _ r h => by simp [cubbylaw07_heavy.l0] at h, fun _ _ _ _ r h => by simp [cubbylaw07_heavy.j1] at h, fun _ _ _ _ r h => by simp [cubbylaw07_heavy.l1] at h, fun _ _ _ _ _ r h => by simp [cubbylaw07_heavy.j3] at h⟩
 | k + 1 => by
  obtain ⟨ih0, ih1, ih2, ih3⟩ := cubbylaw07_heavy.mono_l k
  refine ⟨?_, ?_, ?_, ?_⟩
  ·intro y0 y1 y2
   unfold cubbylaw07_heavy.l0
   repeat' first
   | (with_reducible exact ih0 _ _ _)
   | (with_reducible exact ih1 _ _ _ _)
   | (with_reducible exact ih2 _ _ _ _)
   | (with_reducible exact ih3 _ _ _ _ _)
   | (with_reducible exact LeO.refl _)
   | (with_reducible exact LeO.none _)
   | (with_reducible refine LeO.ite ?_ ?_)
   | (with_reducible refine LeO.bind ?_ (fun _ => ?_))
   | exact ih0 _ _ _
   | exact ih1 _ _ _ _
   | exact ih2 _ _ _ _
   | exact ih3 _ _ _ _ _
   | exact LeO.none _
   | refine LeO.ite ?_ ?_
   | refine LeO.bind ?_ (fun _ => ?_)
  ·intro y0 y1 y2 y3
   unfold cubbylaw07_heavy.j1
   repeat' first
   | (with_reducible exact ih0 _ _ _)
   | (with_reducible exact ih1 _ _ _ _)
   | (with_reducible exact ih2 _ _ _ _)
   | (with_reducible exact ih3 _ _ _ _ _)
   | (with_reducible exact LeO.refl _)
   | (with_reducible exact LeO.none _)
   | (with_reducible refine LeO.ite ?_ ?_)
   | (with_reducible refine LeO.bind ?_ (fun _ => ?_))
   | exact ih0 _ _ _
   | exact ih1 _ _ _ _
   | exact ih2 _ _ _ _
   | exact ih3 _ _ _ _ _
   | exact LeO.none _
   | refine LeO.ite ?_ ?_
   | refine LeO.bind ?_ (fun _ => ?_)
  ·intro y0 y1 y2 y3
   unfold cubbylaw07_heavy.l1
   repeat' first
   | (with_reducible exact ih0 _ _ _)
   | (with_reducible exact ih1 _ _ _ _)
   | (with_reducible exact ih2 _ _ _ _)
   | (with_reducible exact ih3 _ _ _ _ _)
   | (with_reducible exact LeO.refl _)
   | (with_reducible exact LeO.none _)
   | (with_reducible refine LeO.ite ?_ ?_)
   | (with_reducible refine LeO.bind ?_ (fun _ => ?_))
   | exact ih0 _ _ _
   | exact ih1 _ _ _ _
   | exact ih2 _ _ _ _
   | exact ih3 _ _ _ _ _
   | exact LeO.none _
   | refine LeO.ite ?_ ?_
   | refine LeO.bind ?_ (fun _ => ?_)
  ·intro y0 y1 y2 y3 y4
   unfold cubbylaw07_heavy.j3
   repeat' first
   | (with_reducible exact ih0 _ _ _)
   | (with_reducible exact ih1 _ _ _ _)
   | (with_reducible exact ih2 _ _ _ _)
   | (with_reducible exact ih3 _ _ _ _ _)
   | (with_reducible exact LeO.refl _)
   | (with_reducible exact LeO.none _)
   | (with_reducible refine LeO.ite ?_ ?_)
   | (with_reducible refine LeO.bind ?_ (fun _ => ?_))
   | exact ih0 _ _ _
   | exact ih1 _ _ _ _
   | exact ih2 _ _ _ _
   | exact ih3 _ _ _ _ _
   | exact LeO.none _
   | refine LeO.ite ?_ ?_
   | refine LeO.bind ?_ (fun _ => ?_)
theorem cubbylaw07_heavy.mono : ∀ a0 k, LeO (cubbylaw07_heavy.f k a0) (cubbylaw07_heavy.f (k + 1) a0) := by
 intro a0 k
 obtain ⟨ih0, ih1, ih2, ih3⟩ := cubbylaw07_heavy.mono_l k
 unfold cubbylaw07_heavy.f
 repeat' first
   | (with_reducible exact ih0 _ _ _)
   | (with_reducible exact ih1 _ _ _ _)
   | (with_reducible exact ih2 _ _ _ _)
   | (with_reducible exact ih3 _ _ _ _ _)
   | (with_reducible exact LeO.refl _)
   | (with_reducible exact LeO.none _)
   | (with_reducible refine LeO.ite ?_ ?_)
   | (with_reducible refine LeO.bind ?_ (fun _ => ?_))
   | exact ih0 _ _ _
   | exact ih1 _ _ _ _
   | exact ih2 _ _ _ _
   | exact ih3 _ _ _ _ _
   | exact LeO.none _
   | refine LeO.ite ?_ ?_
   | refine LeO.bind ?_ (fun _ => ?_)
set_option maxHeartbeats 8000000 in
set_option maxRecDepth 100000 in
theorem cubbylaw07_heavy.calls (k : Nat) (A0 : Option Addr) (c0 : Nat) (l0 : List (List (SIns))) (r : Bool) (w : World) (hr0 : Kd.C (Kd.slice 24 kIns) w A0 l0.length l0) (hc0 : l0.length ≤ c0) (h : cubbylaw07_heavy.f k l0 = some r) :
  Calls Tryd.prog 27 #[.slice A0 l0.length c0] w fun e w' => e = .returned (.bool r) ∧ Below w.heap.size w w' := by
 have HR0 := Aside0.mk hr0
 have HC0 := Aside0.mk hc0
 clear hr0 hc0
 have HB := Aside0.mk (Below.refl w.heap.size w)
 have H : (if (l0.length : Int) > 100 then (some true) else (cubbylaw07_heavy.l0 k l0 0 0)) = some r := h
 clear h
 by_cases c2 : (l0.length : Int) > 100
 ·rw [if_pos c2] at H
  have c2b0 : decide (100 < (l0.length : Int)) = true := decide_eq_true c2
  have c2b1 : decide (100 < l0.length) = true := decide_eq_true (by omega)
  clear c2
  obtain rfl := Option.some.inj H
  go_enter Tryd.func27, Tryd.ntmps27
  go_wp2
  go_ret
  exact ⟨by first | rfl | (simp [errW_none, errW_some] <;> rfl) | (simp [*, errW_none, errW_some] <;> rfl), by repeat (first | (with_reducible first | exact HB.out | apply below_alloc | apply pw_below_drewN | apply below_drew1) | exact HB.out)⟩
 ·rw [if_neg c2] at H
  have c2b0 : decide (100 < (l0.length : Int)) = false := decide_eq_false c2
  have c2b1 : decide (100 < l0.length) = false := decide_eq_false (by omega)
  clear c2
  have H' := Aside0.mk H
  clear H
  go_enter Tryd.func27, Tryd.ntmps27
  go_wp2
  go_loopg [3, 4] k (fun kq v3 v4 w' => ∃ (x3_1 : Int) (x4_1 : Int), v3 = .int .i64 x3_1 ∧ v4 = .int .i64 x4_1 ∧ Aside0 (cubbylaw07_heavy.l0 kq l0 x3_1 x4_1 = some r) ∧ Aside0 (kq ≤ k) ∧ Aside0 (Below w.heap.size w w'))
  case atStart => exact ⟨(0), (0), (by first | rfl | (simp; done) | (simp [*]; done)), (by first | rfl | (simp; done) | (simp [*]; done)), H', ⟨Nat.le_refl _⟩, ⟨by repeat (first | (with_reducible first | exact HB.out | apply below_alloc | apply pw_below_drewN | apply below_drew1) | exact HB.out)⟩⟩
  case round =>
   clear H'
   try clear c2
   try clear c2b0
   try clear c2b1
   try clear p2
   obtain ⟨x3_1, x4_1, rfl, rfl, HA, HK1, HB⟩ := hrel
   cases gk with
   | zero => exact absurd HA.out (by simp [cubbylaw07_heavy.l0])
   | succ k1 =>
    have H := HA.out
    clear HA
    simp only [cubbylaw07_heavy.l0] at H
    have HC3 := Aside0.mk H
    clear H
    go_upto_region 5 with (fail)
    go_cut [16] (fun v16 wc => ∃ (kq : Nat) (x16_2 : Bool), v16 = .bool x16_2 ∧ Aside0 (cubbylaw07_heavy.j1 kq l0 x3_1 x4_1 x16_2 = some r) ∧ Aside0 (kq ≤ k1) ∧ Aside0 (Below w.heap.size w wc))
    case first =>
     have H := HC3.out
     clear HC3
     by_cases c4 : x4_1 < (l0.length : Int)
     ·rw [if_pos c4] at H
      have c4b0 : decide (x4_1 < (l0.length : Int)) = true := decide_eq_true c4
      clear c4
      (first | rw [c4b0] | (simp only [i64_w, i32_w]; rw [c4b0]) | skip)
      have H' := Aside0.mk H
      clear H
      go_wp2
      go_meet
      case rel => exact ⟨_, (decide (x3_1 ≤ 500)), (by first | rfl | (simp; done) | (simp [*]; done)), H', ⟨by have := HK1.out; first | omega | exact Nat.le_refl _⟩, ⟨by repeat (first | (with_reducible first | exact HB.out | apply below_alloc | apply pw_below_drewN | apply below_drew1) | exact HB.out)⟩⟩
     ·rw [if_neg c4] at H
      have c4b0 : decide (x4_1 < (l0.length : Int)) = false := decide_eq_false c4
      clear c4
      (first | rw [c4b0] | (simp only [i64_w, i32_w]; rw [c4b0]) | skip)
      have H' := Aside0.mk H
      clear H
      go_wp2
      go_meet
      case rel => exact ⟨_, (false), (by first | rfl | (simp; done) | (simp [*]; done)), H', ⟨by have := HK1.out; first | omega | exact Nat.le_refl _⟩, ⟨by repeat (first | (with_reducible first | exact HB.out | apply below_alloc | apply pw_below_drewN | apply below_drew1) | exact HB.out)⟩⟩
    case rest =>
     clear HC3
     try clear c2
     try clear c2b0
     try clear c2b1
     try clear p2
     try clear c4
     try clear c4b0
     try clear p2
     obtain ⟨kq, x16_2, rfl, HA, HJ2, HB⟩ := hcut
     cases kq with
     | zero => exact absurd HA.out (by simp [cubbylaw07_heavy.j1])
     | succ kj2 =>
      have H := HA.out
      clear HA
      simp only [cubbylaw07_heavy.j1] at H
      by_cases c5 : x16_2 = true
      ·subst c5
       have H1 : (if 0 ≤ x4_1 then (if x4_1 < (l0.length : Int) then (cubbylaw07_heavy.l1 kj2 l0 (wrap64 (x3_1 + (mn ((rd_LIns l0 x4_1).length : Int) 1048576))) x4_1 0) else (none)) else (none)) = some r := by rw [if_pos rfl] at H; exact H
       clear H
       have H := H1
       clear H1
       by_cases c6 : 0 ≤ x4_1
       ·rw [if_pos c6] at H
        have c6b0 : decide (0 ≤ x4_1) = true := decide_eq_true c6
        clear c6
        by_cases c7 : x4_1 < (l0.length : Int)
        ·rw [if_pos c7] at H
         have c7b0 : decide (x4_1 < (l0.length : Int)) = true := decide_eq_true c7
         clear c7
         obtain ⟨ji8, hji8⟩ : ∃ j_ : Int, (mn ((rd_LIns l0 x4_1).length : Int) 1048576) = j_ := ⟨_, rfl⟩
         replace H : (cubbylaw07_heavy.l1 kj2 l0 (wrap64 (x3_1 + (ji8))) x4_1 0) = some r := by first | (rw [hji8] at H; exact H) | (simp only [hji8] at H ⊢; exact H)
         have hji8_ : (if 1048576 < ((rd_LIns l0 x4_1).length : Int) then 1048576 else ((rd_LIns l0 x4_1).length : Int)) = ji8 := hji8
         have H' := Aside0.mk H
         clear H
         have p233 : 0 ≤ (x4_1 : Int) := of_decide_eq_true (by first | (with_reducible assumption) | assumption)
         have q233 : x4_1 < (l0.length : Int) := of_decide_eq_true (by first | (with_reducible assumption) | assumption)
         obtain ⟨ad233, A233_0, c233_0, e233, hx233_0, hl233_0, hi233_0⟩ := at_LIns HR0.out x4_1 p233 q233
         cases e233
         replace hx233_0 := (HB.out.cell (World.block_lt_of_cell? w _ hx233_0)).trans hx233_0
         have HR233_0 := Aside0.mk hi233_0
         have HC233_0 := Aside0.mk hl233_0
         clear hi233_0 hl233_0
         replace p233 := eq_true p233
         replace q233 := eq_true q233
         go_wp2
         go_loopg [5] kj2 (fun kq v5 w' => ∃ (x5_3 : Int), v5 = .int .i64 x5_3 ∧ Aside0 (cubbylaw07_heavy.l1 kq l0 (wrap64 (x3_1 + (ji8))) x4_1 x5_3 = some r) ∧ Aside0 (kq ≤ kj2) ∧ Aside0 (Below w.heap.size w w'))
         case atStart => exact ⟨(0), (by first | rfl | (simp; done) | (simp [*]; done)), H', ⟨Nat.le_refl _⟩, ⟨by repeat (first | (with_reducible first | exact HB.out | apply below_alloc | apply pw_below_drewN | apply below_drew1) | exact HB.out)⟩⟩
         case round =>
          clear H'
          try clear c2
          try clear c2b0
          try clear c2b1
          try clear p2
          try clear q2
          try clear hx2
          try clear c4
          try clear c4b0
          try clear c5
          try clear c6
          try clear c6b0
          try clear p6
          try clear c7
          try clear c7b0
          try clear hx233_0
          try clear p2
          try clear p233
          try clear q233
          obtain ⟨x5_3, rfl, HA, HK3, HB⟩ := hrel
          cases gk with
          | zero => exact absurd HA.out (by simp [cubbylaw07_heavy.l1])
          | succ k3 =>
           have H := HA.out
           clear HA
           simp only [cubbylaw07_heavy.l1] at H
           have HC9 := Aside0.mk H
           clear H
           go_upto_region 9 with (fail)
           go_cut [37] (fun v37 wc => ∃ (kq : Nat) (x37_8 : Bool), v37 = .bool x37_8 ∧ Aside0 (cubbylaw07_heavy.j3 kq l0 (wrap64 (x3_1 + (ji8))) x4_1 x5_3 x37_8 = some r) ∧ Aside0 (kq ≤ k3) ∧ Aside0 (Below w.heap.size w wc))
           case first =>
            have H := HC9.out
            clear HC9
            by_cases c10 : 0 ≤ x4_1
            ·rw [if_pos c10] at H
             have c10b0 : decide (0 ≤ x4_1) = true := decide_eq_true c10
             clear c10
             (first | rw [c10b0] | (simp only [i64_w, i32_w]; rw [c10b0]) | skip)
             by_cases c11 : x4_1 < (l0.length : Int)
             ·rw [if_pos c11] at H
              have c11b0 : decide (x4_1 < (l0.length : Int)) = true := decide_eq_true c11
              clear c11
              by_cases c12 : x5_3 < ((rd_LIns l0 x4_1).length : Int)
              ·rw [if_pos c12] at H
               have c12b0 : decide (x5_3 < ((rd_LIns l0 x4_1).length : Int)) = true := decide_eq_true c12
               clear c12
               have H' := Aside0.mk H
               clear H
               have p234 : 0 ≤ (x4_1 : Int) := of_decide_eq_true (by first | (with_reducible assumption) | assumption)
               have q234 : x4_1 < (l0.length : Int) := of_decide_eq_true (by first | (with_reducible assumption) | assumption)
               obtain ⟨ad234, A234_0, c234_0, e234, hx234_0, hl234_0, hi234_0⟩ := at_LIns HR0.out x4_1 p234 q234
               obtain rfl : ad233 = ad234 := (by injection e234)
               replace hx234_0 := (HB.out.cell (World.block_lt_of_cell? w _ hx234_0)).trans hx234_0
               have HR234_0 := Aside0.mk hi234_0
               have HC234_0 := Aside0.mk hl234_0
               clear hi234_0 hl234_0
               replace p234 := eq_true p234
               replace q234 := eq_true q234
               go_wp2
               go_meet
               case rel => exact ⟨_, (decide (x5_3 ≤ 500)), (by first | rfl | (simp; done) | (simp [*]; done)), H', ⟨by have := HK1.out; have := HJ2.out; have := HK3.out; first | omega | exact Nat.le_refl _⟩, ⟨by repeat (first | (with_reducible first | exact HB.out | apply below_alloc | apply pw_below_drewN | apply below_drew1) | exact HB.out)⟩⟩
              ·rw [if_neg c12] at H
               have c12b0 : decide (x5_3 < ((rd_LIns l0 x4_1).length : Int)) = false := decide_eq_false c12
               clear c12
               have H' := Aside0.mk H
               clear H
               have p234 : 0 ≤ (x4_1 : Int) := of_decide_eq_true (by first | (with_reducible assumption) | assumption)
               have q234 : x4_1 < (l0.length : Int) := of_decide_eq_true (by first | (with_reducible assumption) | assumption)
               obtain ⟨ad234, A234_0, c234_0, e234, hx234_0, hl234_0, hi234_0⟩ := at_LIns HR0.out x4_1 p234 q234
               obtain rfl : ad233 = ad234 := (by injection e234)
               replace hx234_0 := (HB.out.cell (World.block_lt_of_cell? w _ hx234_0)).trans hx234_0
               have HR234_0 := Aside0.mk hi234_0
               have HC234_0 := Aside0.mk hl234_0
               clear hi234_0 hl234_0
               replace p234 := eq_true p234
               replace q234 := eq_true q234
               go_wp2
               go_meet
               case rel => exact ⟨_, (false), (by first | rfl | (simp; done) | (simp [*]; done)), H', ⟨by have := HK1.out; have := HJ2.out; have := HK3.out; first | omega | exact Nat.le_refl _⟩, ⟨by repeat (first | (with_reducible first | exact HB.out | apply below_alloc | apply pw_below_drewN | apply below_drew1) | exact HB.out)⟩⟩
             ·rw [if_neg c11] at H
              exact absurd H (by simp)
            ·rw [if_neg c10] at H
             exact absurd H (by simp)
           case rest =>
            clear HC9
            try clear c1
            try clear c2
            try clear c2b0
            try clear c2b1
            try clear p2
            try clear q2
            try clear hx2
            try clear c4
            try clear c4b0
            try clear c5
            try clear c6
            try clear c6b0
            try clear p6
            try clear c7
            try clear c7b0
            try clear c10
            try clear c10b0
            try clear c11
            try clear c11b0
            try clear c12
            try clear c12b0
            try clear hx233_0
            try clear hx234_0
            try clear p2
            try clear p233
            try clear p234
            try clear p6
            try clear q2
            try clear q233
            try clear q234
            obtain ⟨kq, x37_8, rfl, HA, HJ8, HB⟩ := hcut
            cases kq with
            | zero => exact absurd HA.out (by simp [cubbylaw07_heavy.j3])
            | succ kj8 =>
             have H := HA.out
             clear HA
             simp only [cubbylaw07_heavy.j3] at H
             by_cases c13 : x37_8 = true
             ·subst c13
              have H1 : (if 0 ≤ x4_1 then (if x4_1 < (l0.length : Int) then (if 0 ≤ x5_3 then (if x5_3 < ((rd_LIns l0 x4_1).length : Int) then (if (((rd_TIns (rd_LIns l0 x4_1) x5_3).f5).length : Int) > 100 then (some true) else (if (((rd_TIns (rd_LIns l0 x4_1) x5_3).f4).size : Int) > 1024 then (some true) else (cubbylaw07_heavy.l1 kj8 l0 (wrap64 (x3_1 + (ji8))) x4_1 (wrap64 (x5_3 + 1))))) else (none)) else (none)) else (none)) else (none)) = some r := by rw [if_pos rfl] at H; exact H
              clear H
              have H := H1
              clear H1
              by_cases c14 : 0 ≤ x4_1
              ·rw [if_pos c14] at H
               have c14b0 : decide (0 ≤ x4_1) = true := decide_eq_true c14
               clear c14
               by_cases c15 : x4_1 < (l0.length : Int)
               ·rw [if_pos c15] at H
                have c15b0 : decide (x4_1 < (l0.length : Int)) = true := decide_eq_true c15
                clear c15
                by_cases c16 : 0 ≤ x5_3
                ·rw [if_pos c16] at H
                 have c16b0 : decide (0 ≤ x5_3) = true := decide_eq_true c16
                 clear c16
                 by_cases c17 : x5_3 < ((rd_LIns l0 x4_1).length : Int)
                 ·rw [if_pos c17] at H
                  have c17b0 : decide (x5_3 < ((rd_LIns l0 x4_1).length : Int)) = true := decide_eq_true c17
                  clear c17
                  by_cases c18 : (((rd_TIns (rd_LIns l0 x4_1) x5_3).f5).length : Int) > 100
                  ·rw [if_pos c18] at H
                   have c18b0 : decide (100 < (((rd_TIns (rd_LIns l0 x4_1) x5_3).f5).length : Int)) = true := decide_eq_true c18
                   have c18b1 : decide (100 < ((rd_TIns (rd_LIns l0 x4_1) x5_3).f5).length) = true := decide_eq_true (by omega)
                   clear c18
                   obtain rfl := Option.some.inj H
                   have p235 : 0 ≤ (x4_1 : Int) := of_decide_eq_true (by first | (with_reducible assumption) | assumption)
                   have q235 : x4_1 < (l0.length : Int) := of_decide_eq_true (by first | (with_reducible assumption) | assumption)
                   obtain ⟨ad235, A235_0, c235_0, e235, hx235_0, hl235_0, hi235_0⟩ := at_LIns HR0.out x4_1 p235 q235
                   obtain rfl : ad233 = ad235 := (by injection e235)
                   replace hx235_0 := (HB.out.cell (World.block_lt_of_cell? w _ hx235_0)).trans hx235_0
                   have HR235_0 := Aside0.mk hi235_0
                   have HC235_0 := Aside0.mk hl235_0
                   clear hi235_0 hl235_0
                   replace p235 := eq_true p235
                   replace q235 := eq_true q235
                   have p236 : 0 ≤ (x5_3 : Int) := of_decide_eq_true (by first | (with_reducible assumption) | assumption)
                   have q236 : x5_3 < ((rd_LIns l0 x4_1).length : Int) := of_decide_eq_true (by first | (with_reducible assumption) | assumption)
                   obtain ⟨ad236, A236_5, c236_5, e236, hx236_0, hx236_1, hx236_2, hx236_3, hx236_4, hx236_5, hl236_5, hi236_5⟩ := at_TIns HR235_0.out x5_3 p236 q236
                   cases e236
                   replace hx236_0 := (HB.out.cell (World.block_lt_of_cell? w _ hx236_0)).trans hx236_0
                   replace hx236_1 := (HB.out.cell (World.block_lt_of_cell? w _ hx236_1)).trans hx236_1
                   replace hx236_2 := (HB.out.cell (World.block_lt_of_cell? w _ hx236_2)).trans hx236_2
                   replace hx236_3 := (HB.out.cell (World.block_lt_of_cell? w _ hx236_3)).trans hx236_3
                   replace hx236_4 := (HB.out.cell (World.block_lt_of_cell? w _ hx236_4)).trans hx236_4
                   replace hx236_5 := (HB.out.cell (World.block_lt_of_cell? w _ hx236_5)).trans hx236_5
                   have HR236_5 := Aside0.mk hi236_5
                   have HC236_5 := Aside0.mk hl236_5
                   clear hi236_5 hl236_5
                   replace p236 := eq_true p236
                   replace q236 := eq_true q236
                   go_wp2
                   go_ret
                   exact ⟨by first | rfl | (simp [errW_none, errW_some] <;> rfl) | (simp only [← hji8]; first | rfl | (simp [errW_none, errW_some] <;> rfl)) | (simp [*, errW_none, errW_some] <;> rfl), by repeat (first | (with_reducible first | exact HB.out | apply below_alloc | apply pw_below_drewN | apply below_drew1) | exact HB.out)⟩
                  ·rw [if_neg c18] at H
                   have c18b0 : decide (100 < (((rd_TIns (rd_LIns l0 x4_1) x5_3).f5).length : Int)) = false := decide_eq_false c18
                   have c18b1 : decide (100 < ((rd_TIns (rd_LIns l0 x4_1) x5_3).f5).length) = false := decide_eq_false (by omega)
                   clear c18
                   by_cases c19 : (((rd_TIns (rd_LIns l0 x4_1) x5_3).f4).size : Int) > 1024
                   ·rw [if_pos c19] at H
                    have c19b0 : decide (1024 < (((rd_TIns (rd_LIns l0 x4_1) x5_3).f4).size : Int)) = true := decide_eq_true c19
                    have c19b1 : decide (1024 < ((rd_TIns (rd_LIns l0 x4_1) x5_3).f4).size) = true := decide_eq_true (by omega)
                    clear c19
                    obtain rfl := Option.some.inj H
                    have p235 : 0 ≤ (x4_1 : Int) := of_decide_eq_true (by first | (with_reducible assumption) | assumption)
                    have q235 : x4_1 < (l0.length : Int) := of_decide_eq_true (by first | (with_reducible assumption) | assumption)
                    obtain ⟨ad235, A235_0, c235_0, e235, hx235_0, hl235_0, hi235_0⟩ := at_LIns HR0.out x4_1 p235 q235
                    obtain rfl : ad233 = ad235 := (by injection e235)
                    replace hx235_0 := (HB.out.cell (World.block_lt_of_cell? w _ hx235_0)).trans hx235_0
                    have HR235_0 := Aside0.mk hi235_0
                    have HC235_0 := Aside0.mk hl235_0
                    clear hi235_0 hl235_0
                    replace p235 := eq_true p235
                    replace q235 := eq_true q235
                    have p236 : 0 ≤ (x5_3 : Int) := of_decide_eq_true (by first | (with_reducible assumption) | assumption)
                    have q236 : x5_3 < ((rd_LIns l0 x4_1).length : Int) := of_decide_eq_true (by first | (with_reducible assumption) | assumption)
                    obtain ⟨ad236, A236_5, c236_5, e236, hx236_0, hx236_1, hx236_2, hx236_3, hx236_4, hx236_5, hl236_5, hi236_5⟩ := at_TIns HR235_0.out x5_3 p236 q236
                    cases e236
                    replace hx236_0 := (HB.out.cell (World.block_lt_of_cell? w _ hx236_0)).trans hx236_0
                    replace hx236_1 := (HB.out.cell (World.block_lt_of_cell? w _ hx236_1)).trans hx236_1
                    replace hx236_2 := (HB.out.cell (World.block_lt_of_cell? w _ hx236_2)).trans hx236_2
                    replace hx236_3 := (HB.out.cell (World.block_lt_of_cell? w _ hx236_3)).trans hx236_3
                    replace hx236_4 := (HB.out.cell (World.block_lt_of_cell? w _ hx236_4)).trans hx236_4
                    replace hx236_5 := (HB.out.cell (World.block_lt_of_cell? w _ hx236_5)).trans hx236_5
                    have HR236_5 := Aside0.mk hi236_5
                    have HC236_5 := Aside0.mk hl236_5
                    clear hi236_5 hl236_5
                    replace p236 := eq_true p236
                    replace q236 := eq_true q236
                    have p237 : 0 ≤ (x4_1 : Int) := of_decide_eq_true (by first | (with_reducible assumption) | assumption)
                    have q237 : x4_1 < (l0.length : Int) := of_decide_eq_true (by first | (with_reducible assumption) | assumption)
                    obtain ⟨ad237, A237_0, c237_0, e237, hx237_0, hl237_0, hi237_0⟩ := at_LIns HR0.out x4_1 p237 q237
                    obtain rfl : ad233 = ad237 := (by injection e237)
                    replace hx237_0 := (HB.out.cell (World.block_lt_of_cell? w _ hx237_0)).trans hx237_0
                    have HR237_0 := Aside0.mk hi237_0
                    have HC237_0 := Aside0.mk hl237_0
                    clear hi237_0 hl237_0
                    replace p237 := eq_true p237
                    replace q237 := eq_true q237
                    have ea_ := Option.some.inj (hx235_0.symm.trans hx237_0)
                    injection ea_ with ea_ en_ ec_
                    subst ea_
                    subst ec_
                    clear en_
                    have p238 : 0 ≤ (x5_3 : Int) := of_decide_eq_true (by first | (with_reducible assumption) | assumption)
                    have q238 : x5_3 < ((rd_LIns l0 x4_1).length : Int) := of_decide_eq_true (by first | (with_reducible assumption) | assumption)
                    obtain ⟨ad238, A238_5, c238_5, e238, hx238_0, hx238_1, hx238_2, hx238_3, hx238_4, hx238_5, hl238_5, hi238_5⟩ := at_TIns HR237_0.out x5_3 p238 q238
                    cases e238
                    replace hx238_0 := (HB.out.cell (World.block_lt_of_cell? w _ hx238_0)).trans hx238_0
                    replace hx238_1 := (HB.out.cell (World.block_lt_of_cell? w _ hx238_1)).trans hx238_1
                    replace hx238_2 := (HB.out.cell (World.block_lt_of_cell? w _ hx238_2)).trans hx238_2
                    replace hx238_3 := (HB.out.cell (World.block_lt_of_cell? w _ hx238_3)).trans hx238_3
                    replace hx238_4 := (HB.out.cell (World.block_lt_of_cell? w _ hx238_4)).trans hx238_4
                    replace hx238_5 := (HB.out.cell (World.block_lt_of_cell? w _ hx238_5)).trans hx238_5
                    have HR238_5 := Aside0.mk hi238_5
                    have HC238_5 := Aside0.mk hl238_5
                    clear hi238_5 hl238_5
                    replace p238 := eq_true p238
                    replace q238 := eq_true q238
                    go_wp2
                    go_ret
                    exact ⟨by first | rfl | (simp [errW_none, errW_some] <;> rfl) | (simp only [← hji8]; first | rfl | (simp [errW_none, errW_some] <;> rfl)) | (simp [*, errW_none, errW_some] <;> rfl), by repeat (first | (with_reducible first | exact HB.out | apply below_alloc | apply pw_below_drewN | apply below_drew1) | exact HB.out)⟩
                   ·rw [if_neg c19] at H
                    have c19b0 : decide (1024 < (((rd_TIns (rd_LIns l0 x4_1) x5_3).f4).size : Int)) = false := decide_eq_false c19
                    have c19b1 : decide (1024 < ((rd_TIns (rd_LIns l0 x4_1) x5_3).f4).size) = false := decide_eq_false (by omega)
                    clear c19
                    have H' := Aside0.mk H
                    clear H
                    have p235 : 0 ≤ (x4_1 : Int) := of_decide_eq_true (by first | (with_reducible assumption) | assumption)
                    have q235 : x4_1 < (l0.length : Int) := of_decide_eq_true (by first | (with_reducible assumption) | assumption)
                    obtain ⟨ad235, A235_0, c235_0, e235, hx235_0, hl235_0, hi235_0⟩ := at_LIns HR0.out x4_1 p235 q235
                    obtain rfl : ad233 = ad235 := (by injection e235)
                    replace hx235_0 := (HB.out.cell (World.block_lt_of_cell? w _ hx235_0)).trans hx235_0
                    have HR235_0 := Aside0.mk hi235_0
                    have HC235_0 := Aside0.mk hl235_0
                    clear hi235_0 hl235_0
                    replace p235 := eq_true p235
                    replace q235 := eq_true q235
                    have p236 : 0 ≤ (x5_3 : Int) := of_decide_eq_true (by first | (with_reducible assumption) | assumption)
                    have q236 : x5_3 < ((rd_LIns l0 x4_1).length : Int) := of_decide_eq_true (by first | (with_reducible assumption) | assumption)
                    obtain ⟨ad236, A236_5, c236_5, e236, hx236_0, hx236_1, hx236_2, hx236_3, hx236_4, hx236_5, hl236_5, hi236_5⟩ := at_TIns HR235_0.out x5_3 p236 q236
                    cases e236
                    replace hx236_0 := (HB.out.cell (World.block_lt_of_cell? w _ hx236_0)).trans hx236_0
                    replace hx236_1 := (HB.out.cell (World.block_lt_of_cell? w _ hx236_1)).trans hx236_1
                    replace hx236_2 := (HB.out.cell (World.block_lt_of_cell? w _ hx236_2)).trans hx236_2
                    replace hx236_3 := (HB.out.cell (World.block_lt_of_cell? w _ hx236_3)).trans hx236_3
                    replace hx236_4 := (HB.out.cell (World.block_lt_of_cell? w _ hx236_4)).trans hx236_4
                    replace hx236_5 := (HB.out.cell (World.block_lt_of_cell? w _ hx236_5)).trans hx236_5
                    have HR236_5 := Aside0.mk hi236_5
                    have HC236_5 := Aside0.mk hl236_5
                    clear hi236_5 hl236_5
                    replace p236 := eq_true p236
                    replace q236 := eq_true q236
                    have p237 : 0 ≤ (x4_1 : Int) := of_decide_eq_true (by first | (with_reducible assumption) | assumption)
                    have q237 : x4_1 < (l0.length : Int) := of_decide_eq_true (by first | (with_reducible assumption) | assumption)
                    obtain ⟨ad237, A237_0, c237_0, e237, hx237_0, hl237_0, hi237_0⟩ := at_LIns HR0.out x4_1 p237 q237
                    obtain rfl : ad233 = ad237 := (by injection e237)
                    replace hx237_0 := (HB.out.cell (World.block_lt_of_cell? w _ hx237_0)).trans hx237_0
                    have HR237_0 := Aside0.mk hi237_0
                    have HC237_0 := Aside0.mk hl237_0
                    clear hi237_0 hl237_0
                    replace p237 := eq_true p237
                    replace q237 := eq_true q237
                    have ea_ := Option.some.inj (hx235_0.symm.trans hx237_0)
                    injection ea_ with ea_ en_ ec_
                    subst ea_
                    subst ec_
                    clear en_
                    have p238 : 0 ≤ (x5_3 : Int) := of_decide_eq_true (by first | (with_reducible assumption) | assumption)
                    have q238 : x5_3 < ((rd_LIns l0 x4_1).length : Int) := of_decide_eq_true (by first | (with_reducible assumption) | assumption)
                    obtain ⟨ad238, A238_5, c238_5, e238, hx238_0, hx238_1, hx238_2, hx238_3, hx238_4, hx238_5, hl238_5, hi238_5⟩ := at_TIns HR237_0.out x5_3 p238 q238
                    cases e238
                    replace hx238_0 := (HB.out.cell (World.block_lt_of_cell? w _ hx238_0)).trans hx238_0
                    replace hx238_1 := (HB.out.cell (World.block_lt_of_cell? w _ hx238_1)).trans hx238_1
                    replace hx238_2 := (HB.out.cell (World.block_lt_of_cell? w _ hx238_2)).trans hx238_2
                    replace hx238_3 := (HB.out.cell (World.block_lt_of_cell? w _ hx238_3)).trans hx238_3
                    replace hx238_4 := (HB.out.cell (World.block_lt_of_cell? w _ hx238_4)).trans hx238_4
                    replace hx238_5 := (HB.out.cell (World.block_lt_of_cell? w _ hx238_5)).trans hx238_5
                    have HR238_5 := Aside0.mk hi238_5
                    have HC238_5 := Aside0.mk hl238_5
                    clear hi238_5 hl238_5
                    replace p238 := eq_true p238
                    replace q238 := eq_true q238
                    go_wp2
                    go_roundg kj8
                    case measure => have := HK1.out; have := HJ2.out; have := HK3.out; have := HJ8.out; omega
                    case rel => exact ⟨(wrap64 (x5_3 + 1)), (by first | rfl | (simp; done) | (simp [*]; done)), H', ⟨by have := HK1.out; have := HJ2.out; have := HK3.out; have := HJ8.out; omega⟩, ⟨by repeat (first | (with_reducible first | exact HB.out | apply below_alloc | apply pw_below_drewN | apply below_drew1) | exact HB.out)⟩⟩
                 ·rw [if_neg c17] at H
                  exact absurd H (by simp)
                ·rw [if_neg c16] at H
                 exact absurd H (by simp)
               ·rw [if_neg c15] at H
                exact absurd H (by simp)
              ·rw [if_neg c14] at H
               exact absurd H (by simp)
             ·replace c13 := Bool.eq_false_iff.mpr c13
              subst c13
              have H1 : (cubbylaw07_heavy.l0 kj8 l0 (wrap64 (x3_1 + (ji8))) (wrap64 (x4_1 + 1))) = some r := by rw [if_neg (show ¬ (false = true) by decide)] at H; exact H
              clear H
              have H := H1
              clear H1
              have H' := Aside0.mk H
              clear H
              go_wp2
              go_roundg kj8
              case measure => have := HK1.out; have := HJ2.out; have := HK3.out; have := HJ8.out; omega
              case rel => exact ⟨((wrap64 (x3_1 + (ji8)))), (wrap64 (x4_1 + 1)), (by first | rfl | (simp; done) | (simp only [← hji8] <;> (first | rfl | simp)) | (simp [*]; done)), (by first | rfl | (simp; done) | (simp [*]; done)), H', ⟨by have := HK1.out; have := HJ2.out; have := HK3.out; have := HJ8.out; omega⟩, ⟨by repeat (first | (with_reducible first | exact HB.out | apply below_alloc | apply pw_below_drewN | apply below_drew1) | exact HB.out)⟩⟩
        ·rw [if_neg c7] at H
         exact absurd H (by simp)
       ·rw [if_neg c6] at H
        exact absurd H (by simp)
      ·replace c5 := Bool.eq_false_iff.mpr c5
       subst c5
       have H1 : (some (decide (x3_1 > 500))) = some r := by rw [if_neg (show ¬ (false = true) by decide)] at H; exact H
       clear H
       have H := H1
       clear H1
       obtain rfl := Option.some.inj H
       go_wp2
       go_ret
       exact ⟨by first | rfl | (simp [errW_none, errW_some] <;> rfl) | (simp [*, errW_none, errW_some] <;> rfl), by repeat (first | (with_reducible first | exact HB.out | apply below_alloc | apply pw_below_drewN | apply below_drew1) | exact HB.out)⟩

end Go.Proofs.YtgmklfaknomakaaDoor.Q
