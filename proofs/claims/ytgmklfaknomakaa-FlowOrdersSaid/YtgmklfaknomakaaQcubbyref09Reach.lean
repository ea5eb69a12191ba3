/- Lean functions that answer as the Go functions named below do, and the proofs of that. Written by a program out of the translation. -/
import Derived.Test.YtgmklfaknomakaaQ0
import Derived.Test.YtgmklfaknomakaaQcubbyref09Succs
namespace Go.Proofs.Ytgmklfaknomakaa.Q
open Go.RowKit Go.Proofs.YtgmklfaknomakaaW.PrintWords Go.Proofs.YtgmklfaknomakaaW.PrintLast Go.Proofs.YtgmklfaknomakaaW.PrintMore
attribute [local go_sem] max2_int min2_int max_two min_two max_three min_three max_four min_four   -- for this text's walks alone
set_option linter.unusedVariables false
set_option linter.unusedSimpArgs false

/-! ### cubbyref09_Reach: function 19 -/
mutual
def cubbyref09_Reach.l0 : Nat → List (List (SIns)) → List Bool → Int → Option (List Bool)
  | 0, _, _, _ => none
  | k + 1, x0, x3, x4 => if x4 < (x0.length : Int) then (if 0 < (x3.length : Int) then (cubbyref09_Reach.l1 k x0 (x3.set (0 : Int).toNat true) x4 0) else (none)) else (some x3)
def cubbyref09_Reach.l1 : Nat → List (List (SIns)) → List Bool → Int → Int → Option (List Bool)
  | 0, _, _, _, _ => none
  | k + 1, x0, x3, x4, x5 => if x5 < (x0.length : Int) then ((cubbyref09_Succs.f k x0 x5).bind fun t206 => (cubbyref09_Reach.l2 k x0 x3 x4 x5 t206 0)) else (cubbyref09_Reach.l0 k x0 x3 (wrap64 (x4 + 1)))
def cubbyref09_Reach.l2 : Nat → List (List (SIns)) → List Bool → Int → Int → List Int → Int → Option (List Bool)
  | 0, _, _, _, _, _, _ => none
  | k + 1, x0, x3, x4, x5, x6, x7 => if x7 < (x6.length : Int) then (if 0 ≤ x5 then (if x5 < (x3.length : Int) then (if rdOf false x3 x5 = true then (if 0 ≤ x7 then (if 0 ≤ (rd x6 x7) then (if (rd x6 x7) < (x3.length : Int) then (cubbyref09_Reach.l2 k x0 (x3.set ((rd x6 x7) : Int).toNat true) x4 x5 x6 (wrap64 (x7 + 1))) else (none)) else (none)) else (none)) else (cubbyref09_Reach.l1 k x0 x3 x4 (wrap64 (x5 + 1)))) else (none)) else (none)) else (cubbyref09_Reach.l1 k x0 x3 x4 (wrap64 (x5 + 1)))
end
def cubbyref09_Reach.f (k : Nat) (l0 : List (List (SIns))) : Option (List Bool) := if 0 ≤ (l0.length : Int) then (if ((l0.length : Int) : Int).toNat ≤ 281474976710656 then (cubbyref09_Reach.l0 k l0 (List.replicate ((l0.length : Int) : Int).toNat false) 0) else (none)) else (none)
theorem cubbyref09_Reach.mono_l : ∀ k, (∀ y0 y1 y2, LeO (cubbyref09_Reach.l0 k y0 y1 y2) (cubbyref09_Reach.l0 (k + 1) y0 y1 y2)) ∧ (∀ y0 y1 y2 y3, LeO (cubbyref09_Reach.l1 k y0 y1 y2 y3) (cubbyref09_Reach.l1 (k + 1) y0 y1 y2 y3)) ∧ (∀ y0 y1 y2 y3 y4 y5, LeO (cubbyref09_Reach.l2 k y0 y1 y2 y3 y4 y5) (cubbyref09_Reach.l2 (k + 1) y0 y1 y2 y3 y4 y5))
  | 0 => ⟨fun _ _ _ r h => by simp [cubbyref09_Reach.l0] at h, fun _ _ _ _ r h => by simp [cubbyref09_Reach.l1] at h, fun _ _ _ _ _ _ r h => by simp [cubbyref09_Reach.l2] at h⟩
  | k + 1 => by
    obtain ⟨ih0, ih1, ih2⟩ := cubbyref09_Reach.mono_l k
    refine ⟨?_, ?_, ?_⟩
    · intro y0 y1 y2
      unfold cubbyref09_Reach.l0
      repeat' first
      | (with_reducible exact ih0 _ _ _)
      | (with_reducible exact ih1 _ _ _ _)
      | (with_reducible exact ih2 _ _ _ _ _ _)
      | (with_reducible exact cubbyref09_Succs.mono _ _ _)
      | (with_reducible exact LeO.refl _)
      | (with_reducible exact LeO.none _)
      | (with_reducible refine LeO.ite ?_ ?_)
      | (with_reducible refine LeO.bind ?_ (fun _ => ?_))
      | exact ih0 _ _ _
      | exact ih1 _ _ _ _
      | exact ih2 _ _ _ _ _ _
      | exact cubbyref09_Succs.mono _ _ _
      | exact LeO.none _
      | refine LeO.ite ?_ ?_
      | refine LeO.bind ?_ (fun _ => ?_)
    · intro y0 y1 y2 y3
      unfold cubbyref09_Reach.l1
      repeat' first
      | (with_reducible exact ih0 _ _ _)
      | (with_reducible exact ih1 _ _ _ _)
      | (with_reducible exact ih2 _ _ _ _ _ _)
      | (with_reducible exact cubbyref09_Succs.mono _ _ _)
      | (with_reducible exact LeO.refl _)
      | (with_reducible exact LeO.none _)
      | (with_reducible refine LeO.ite ?_ ?_)
      | (with_reducible refine LeO.bind ?_ (fun _ => ?_))
      | exact ih0 _ _ _
      | exact ih1 _ _ _ _
      | exact ih2 _ _ _ _ _ _
      | exact cubbyref09_Succs.mono _ _ _
      | exact LeO.none _
      | refine LeO.ite ?_ ?_
      | refine LeO.bind ?_ (fun _ => ?_)
    · intro y0 y1 y2 y3 y4 y5
      unfold cubbyref09_Reach.l2
      repeat' first
      | (with_reducible exact ih0 _ _ _)
      | (with_reducible exact ih1 _ _ _ _)
      | (with_reducible exact ih2 _ _ _ _ _ _)
      | (with_reducible exact cubbyref09_Succs.mono _ _ _)
      | (with_reducible exact LeO.refl _)
      | (with_reducible exact LeO.none _)
      | (with_reducible refine LeO.ite ?_ ?_)
      | (with_reducible refine LeO.bind ?_ (fun _ => ?_))
      | exact ih0 _ _ _
      | exact ih1 _ _ _ _
      | exact ih2 _ _ _ _ _ _
      | exact cubbyref09_Succs.mono _ _ _
      | exact LeO.none _
      | refine LeO.ite ?_ ?_
      | refine LeO.bind ?_ (fun _ => ?_)
theorem cubbyref09_Reach.mono : ∀ a0 k, LeO (cubbyref09_Reach.f k a0) (cubbyref09_Reach.f (k + 1) a0) := by
  intro a0 k
  obtain ⟨ih0, ih1, ih2⟩ := cubbyref09_Reach.mono_l k
  unfold cubbyref09_Reach.f
  repeat' first
      | (with_reducible exact ih0 _ _ _)
      | (with_reducible exact ih1 _ _ _ _)
      | (with_reducible exact ih2 _ _ _ _ _ _)
      | (with_reducible exact cubbyref09_Succs.mono _ _ _)
      | (with_reducible exact LeO.refl _)
      | (with_reducible exact LeO.none _)
      | (with_reducible refine LeO.ite ?_ ?_)
      | (with_reducible refine LeO.bind ?_ (fun _ => ?_))
      | exact ih0 _ _ _
      | exact ih1 _ _ _ _
      | exact ih2 _ _ _ _ _ _
      | exact cubbyref09_Succs.mono _ _ _
      | exact LeO.none _
      | refine LeO.ite ?_ ?_
      | refine LeO.bind ?_ (fun _ => ?_)
set_option maxHeartbeats 8000000 in
set_option maxRecDepth 100000 in
theorem cubbyref09_Reach.calls (k : Nat) (A0 : Option Addr) (c0 : Nat) (l0 : List (List (SIns))) (r : List Bool) (w : World) (hr0 : Kd.C (Kd.slice 37 kIns) w A0 l0.length l0) (hc0 : l0.length ≤ c0) (h : cubbyref09_Reach.f k l0 = some r) :
    Calls Try.prog 19 #[.slice A0 l0.length c0] w fun e w' => ∃ v0_ : Value, e = .returned (v0_) ∧ Kd.R Kd.bool 4 w' w.heap.size (fun _ => True) v0_ r ∧ Below w.heap.size w w' := by
  have HR0 := Aside0.mk hr0
  have HC0 := Aside0.mk hc0
  clear hr0 hc0
  have HB := Aside0.mk (Below.refl w.heap.size w)
  have H : (if 0 ≤ (l0.length : Int) then (if ((l0.length : Int) : Int).toNat ≤ 281474976710656 then (cubbyref09_Reach.l0 k l0 (List.replicate ((l0.length : Int) : Int).toNat false) 0) else (none)) else (none)) = some r := h
  clear h
  by_cases c2 : 0 ≤ (l0.length : Int)
  · rw [if_pos c2] at H
    have c2b0 := eq_true c2
    have c2b1 : decide (0 ≤ (l0.length : Int)) = true := decide_eq_true c2
    clear c2
    by_cases c3 : ((l0.length : Int) : Int).toNat ≤ 281474976710656
    · rw [if_pos c3] at H
      have c3b0 := eq_true c3
      have c3b1 : decide (((l0.length : Int) : Int).toNat ≤ 281474976710656) = true := decide_eq_true c3
      clear c3
      obtain ⟨y202, hy202⟩ : ∃ y_ : List Bool, y_ = (List.replicate ((l0.length : Int) : Int).toNat false) := ⟨_, rfl⟩
      replace H : (cubbyref09_Reach.l0 k l0 y202 0) = some r := by first | (rw [hy202]; with_reducible exact H) | (have H2_ := (Option.bind_some _ _).symm.trans H; rw [hy202]; with_reducible exact H2_) | (have H2_ := (Option.bind_some _ _).symm.trans H; with_reducible exact H2_) | with_reducible exact H | (rw [hy202]; exact H) | exact H
      have Ny202 := Aside0.mk hy202
      clear hy202
      have H' := Aside0.mk H
      clear H
      go_enter Try.func19, Try.ntmps19
      go_wp2_with (first | ((with_reducible refine gate_dst (N := 10) rfl ?_); refine Kd.R_make Kd.bool _ 4 rfl (N := 10) rfl 32 _ _ rfl (l0.length : Int) rfl rfl Try.underlying32 (.bool false) 1 info4 rfl (by decide) (by omega) false (ok := fun _ => True) (okp := fun _ => True) rfl (fun _ hk => hk) trivial (of_decide_eq_true (by first | (with_reducible assumption) | assumption)) (Nat.le_trans (Nat.mul_le_mul_right _ (of_decide_eq_true (by first | (with_reducible assumption) | assumption) : (l0.length : Int).toNat ≤ 281474976710656)) (by omega)) (Below.refl _ _) (Nat.le_refl _) ?_; intro v203 w4 ho5 hb hg_ hnew_; clear hg_ hnew_; (first | rw [← Ny202.out] at ho5 | (simp only [Int.reduceToNat] at ho5; rw [← Ny202.out] at ho5)); have n0_ := Aside0.mk (Kd.R_lower ho5 (below_size (by repeat (first | (with_reducible first | exact HB.out | apply below_alloc | apply pw_below_drewN | apply below_drew1) | exact HB.out)))); have n1_ := Aside0.mk (below_step (by repeat (first | (with_reducible first | exact HB.out | apply below_alloc | apply pw_below_drewN | apply below_drew1) | exact HB.out)) hb); clear HB; have HO204 := n0_; have HB := n1_; clear n0_ n1_; clear hb ho5))
      go_loopg [4] k (fun kq v4 w' => ∃ (x3_1 : List Bool) (x4_1 : Int), v4 = .int .i64 x4_1 ∧ Aside0 (cubbyref09_Reach.l0 kq l0 x3_1 x4_1 = some r) ∧ Aside0 (kq ≤ k) ∧ Aside0 (Kd.R Kd.bool 4 w' w.heap.size (fun _ => True) v203 x3_1) ∧ Aside0 (Below w.heap.size w w'))
      case atStart => exact ⟨(y202), (0), (by first | rfl | (simp; done) | (simp [*]; done)), H', ⟨Nat.le_refl _⟩, ⟨by (with_reducible repeat (first | apply Kd.R_alloc | apply Kd.R_drewN | apply Kd.R_drew)); exact HO204.out⟩, ⟨by repeat (first | (with_reducible first | exact HB.out | apply below_alloc | apply pw_below_drewN | apply below_drew1) | exact HB.out)⟩⟩
      case round =>
        clear H'
        try clear c1
        try clear c2
        try clear c2b0
        try clear c2b1
        try clear p2
        try clear c3
        try clear c3b0
        try clear c3b1
        obtain ⟨x3_1, x4_1, rfl, HA, HK1, HO_3, HB⟩ := hrel
        cases gk with
        | zero => exact absurd HA.out (by simp [cubbyref09_Reach.l0])
        | succ k1 =>
          have H := HA.out
          clear HA
          simp only [cubbyref09_Reach.l0] at H
          by_cases c6 : x4_1 < (l0.length : Int)
          · rw [if_pos c6] at H
            have c6b0 : decide (x4_1 < (l0.length : Int)) = true := decide_eq_true c6
            clear c6
            by_cases c7 : 0 < (x3_1.length : Int)
            · rw [if_pos c7] at H
              have c7b0 : decide (0 < (x3_1.length : Int)) = true := decide_eq_true c7
              have c7b1 : decide (0 < x3_1.length) = true := decide_eq_true (by omega)
              clear c7
              obtain ⟨y205, hy205⟩ : ∃ y_ : List Bool, y_ = (x3_1.set (0 : Int).toNat true) := ⟨_, rfl⟩
              replace H : (cubbyref09_Reach.l1 k1 l0 y205 x4_1 0) = some r := by first | (rw [hy205]; with_reducible exact H) | (have H2_ := (Option.bind_some _ _).symm.trans H; rw [hy205]; with_reducible exact H2_) | (have H2_ := (Option.bind_some _ _).symm.trans H; with_reducible exact H2_) | with_reducible exact H | (rw [hy205]; exact H) | exact H
              have Ny205 := Aside0.mk hy205
              clear hy205
              have H' := Aside0.mk H
              clear H
              have p8 : 0 ≤ (0 : Int) := (by omega)
              have q8 : (0 : Int) < ((x3_1.length : Int) : Int) := of_decide_eq_true (by first | (with_reducible assumption) | assumption)
              have qi8 : (0 < x3_1.length) = True := eq_true (by omega)
              obtain ⟨go8, co8, eo8, gb8, gl8, cl8, HG8⟩ := Kd.R_form HO_3.out (by omega)
              (first | cases eo8 | (injection eo8 with ea_ en_ ec_; (first | subst ea_ | (injection ea_ with ea_; subst ea_)); subst ec_; clear en_))
              have GB8 := Aside0.mk gb8
              have GG8 := Aside0.mk HG8
              clear gb8 gl8 HG8
              obtain ⟨hx8_0, hf8_0⟩ := Kd.R_celln false HO_3.out (0 : Int) p8 q8
              (try rw [show ((0 : Int)).toNat = 0 from rfl] at hx8_0)
              (try simp only [Nat.reduceMul, Nat.zero_mul, Nat.zero_add, Nat.reduceAdd] at hx8_0)
              (try rw [show ((0 : Int)).toNat = 0 from rfl] at hf8_0)
              (try simp only [Nat.reduceMul, Nat.zero_mul, Nat.zero_add, Nat.reduceAdd] at hf8_0)
              replace p8 := eq_true p8
              replace q8 := eq_true q8
              have HP9 := Kd.R_putg HO_3.out (0 : Int) true
              go_wp2_with (first | ((with_reducible refine gate_store (t := 4) (p := 18) rfl ?_); refine store_event (t := 4) (p := 18) (v := ?vo_w10) (w1 := (wr.setCell ⟨go8, (0 : Int).toNat, none⟩ (.bool true))) ?hg ?ho ?hn ?hr ?_; (case ho => rfl); (case hg => rfl); (case hn => rfl); (case hr => first | (go_simp; done) | (go_simp; rfl)); intro w10 hw; have hg : wr.grownBy w10 (some go8) := (by rw [hw]; exact HP9.2); have hp_ : Kd.R Kd.bool 4 w10 w.heap.size (fun _ => True) (.slice (some ⟨go8, 0, none⟩) x3_1.length co8) y205 := (by rw [hw, Ny205.out]; exact HP9.1); clear HP9; have n0_ := Aside0.mk (hp_); have n1_ := Aside0.mk ((by rw [hw]; exact below_set (HB.out) GB8.out : Below w.heap.size w w10)); clear HO_3; clear HB; have HO_3 := n0_; have HB := n1_; clear n0_ n1_; clear hg hw hp_))
              go_loopg [5] k1 (fun kq v5 w' => ∃ (x3_2 : List Bool) (x5_2 : Int), v5 = .int .i64 x5_2 ∧ Aside0 (cubbyref09_Reach.l1 kq l0 x3_2 x4_1 x5_2 = some r) ∧ Aside0 (kq ≤ k1) ∧ Aside0 (Kd.R Kd.bool 4 w' w.heap.size (fun _ => True) (.slice (some ⟨go8, 0, none⟩) x3_1.length co8) x3_2) ∧ Aside0 (Below w.heap.size w w'))
              case atStart => exact ⟨(y205), (0), (by first | rfl | (simp; done) | (simp [*]; done)), H', ⟨Nat.le_refl _⟩, ⟨by (with_reducible repeat (first | apply Kd.R_alloc | apply Kd.R_drewN | apply Kd.R_drew)); exact HO_3.out⟩, ⟨by repeat (first | (with_reducible first | exact HB.out | apply below_alloc | apply pw_below_drewN | apply below_drew1) | exact HB.out)⟩⟩
              case round =>
                clear H'
                try clear c1
                try clear c2
                try clear c2b0
                try clear c2b1
                try clear p2
                try clear c3
                try clear c3b0
                try clear c3b1
                try clear c6
                try clear c6b0
                try clear c7
                try clear c7b0
                try clear c7b1
                try clear p8
                try clear q8
                try clear hx8
                try clear qi8
                try clear hf8
                try clear hx8_0
                try clear p2
                try clear p8
                try clear q8
                obtain ⟨x3_2, x5_2, rfl, HA, HK2, HO_3, HB⟩ := hrel
                have hl3_2 := (Kd.R_reads' HO_3.out).1
                rw [hl3_2] at HO_3
                (try simp only [hl3_2])
                cases gk with
                | zero => exact absurd HA.out (by simp [cubbyref09_Reach.l1])
                | succ k2 =>
                  have H := HA.out
                  clear HA
                  simp only [cubbyref09_Reach.l1] at H
                  by_cases c11 : x5_2 < (l0.length : Int)
                  · rw [if_pos c11] at H
                    have c11b0 : decide (x5_2 < (l0.length : Int)) = true := decide_eq_true c11
                    clear c11
                    replace H := Option.bind_eq_some_iff.mp H
                    obtain ⟨t206, A120, H⟩ := H
                    replace H : (cubbyref09_Reach.l2 k2 l0 x3_2 x4_1 x5_2 t206 0) = some r := H
                    have A12 := Aside0.mk A120
                    clear A120
                    have H' := Aside0.mk H
                    clear H
                    go_wp2_with (first | ((with_reducible refine gate_callee (f := 15) rfl ?_); refine goesL_ (some 27) rfl rfl Try.func15 (by kernel_rfl) rfl #[.slice A0 l0.length c0, .int .i64 x5_2] rfl (by (try simp only [List.map_toArray, List.map_cons, List.map_nil]); first | done | rfl | (simp only [List.length_drop, List.length_take]; rfl)) ?_; (with_reducible refine (cubbyref09_Succs.calls k2 _ _ l0 x5_2 t206 _ ?side1 ?side2 A12.out).mono ?_); (case side1 => repeat (first | exact (Kd.C_below HR0.out HB.out) | (with_reducible refine Kd.C_alloc ?_ _) | (with_reducible refine Kd.C_drewN ?_ _) | (with_reducible refine Kd.C_drew ?_))); (case side2 => exact HC0.out); rintro e w13 ⟨v207, rfl, ho0, hb⟩; refine ⟨_, rfl, ?_⟩; have n0_ := Aside0.mk (Kd.R_below (by (with_reducible repeat (first | apply Kd.R_alloc | apply Kd.R_drewN | apply Kd.R_drew)); exact HO_3.out) hb); have n1_ := Aside0.mk (Kd.R_lower ho0 (below_size (by repeat (first | (with_reducible first | exact HB.out | apply below_alloc | apply pw_below_drewN | apply below_drew1) | exact HB.out)))); have n2_ := Aside0.mk (below_step (by repeat (first | (with_reducible first | exact HB.out | apply below_alloc | apply pw_below_drewN | apply below_drew1) | exact HB.out)) hb); clear HO_3; clear HB; have HO_3 := n0_; have HO208 := n1_; have HB := n2_; clear n0_ n1_ n2_; (try clear hb); (try clear hb2); (try clear hk); (try clear hi); (try clear ho0)))
                    go_loopg [7] k2 (fun kq v7 w' => ∃ (x3_3 : List Bool) (x7_3 : Int), v7 = .int .i64 x7_3 ∧ Aside0 (cubbyref09_Reach.l2 kq l0 x3_3 x4_1 x5_2 t206 x7_3 = some r) ∧ Aside0 (kq ≤ k2) ∧ Aside0 (Kd.R Kd.bool 4 w' w.heap.size (fun _ => True) (.slice (some ⟨go8, 0, none⟩) x3_2.length co8) x3_3) ∧ Aside0 (Kd.R (Kd.int .i64) 3 w' w.heap.size (fun _ => True) v207 t206) ∧ Aside0 (Below w.heap.size w w'))
                    case atStart => exact ⟨(x3_2), (0), (by first | rfl | (simp; done) | (simp [*]; done)), H', ⟨Nat.le_refl _⟩, ⟨by (try simp only [hl3_2]); (with_reducible repeat (first | apply Kd.R_alloc | apply Kd.R_drewN | apply Kd.R_drew)); exact HO_3.out⟩, ⟨by (try simp only [hl3_2]); (with_reducible repeat (first | apply Kd.R_alloc | apply Kd.R_drewN | apply Kd.R_drew)); exact HO208.out⟩, ⟨by repeat (first | (with_reducible first | exact HB.out | apply below_alloc | apply pw_below_drewN | apply below_drew1) | exact HB.out)⟩⟩
                    case round =>
                      clear H'
                      try clear c1
                      try clear c2
                      try clear c2b0
                      try clear c2b1
                      try clear p2
                      try clear c3
                      try clear c3b0
                      try clear c3b1
                      try clear c6
                      try clear c6b0
                      try clear c7
                      try clear c7b0
                      try clear c7b1
                      try clear p8
                      try clear q8
                      try clear hx8
                      try clear qi8
                      try clear hf8
                      try clear c11
                      try clear c11b0
                      try clear hx8_0
                      try clear p2
                      try clear p8
                      try clear q8
                      obtain ⟨x3_3, x7_3, rfl, HA, HK3, HO_3, HO_6, HB⟩ := hrel
                      have hl3_3 := (Kd.R_reads' HO_3.out).1
                      rw [hl3_3] at HO_3
                      (try simp only [hl3_3])
                      (try simp only [hl3_3] at HO_6)
                      cases gk with
                      | zero => exact absurd HA.out (by simp [cubbyref09_Reach.l2])
                      | succ k3 =>
                        have H := HA.out
                        clear HA
                        simp only [cubbyref09_Reach.l2] at H
                        by_cases c14 : x7_3 < (t206.length : Int)
                        · rw [if_pos c14] at H
                          have c14b0 : decide (x7_3 < (t206.length : Int)) = true := decide_eq_true c14
                          clear c14
                          by_cases c15 : 0 ≤ x5_2
                          · rw [if_pos c15] at H
                            have c15b0 : decide (0 ≤ x5_2) = true := decide_eq_true c15
                            clear c15
                            by_cases c16 : x5_2 < (x3_3.length : Int)
                            · rw [if_pos c16] at H
                              have c16b0 : decide (x5_2 < (x3_3.length : Int)) = true := decide_eq_true c16
                              clear c16
                              obtain ⟨bq17, hbq17⟩ : ∃ b_ : Bool, b_ = (rdOf false x3_3 x5_2) := ⟨_, rfl⟩
                              replace H : (if bq17 = true then (if 0 ≤ x7_3 then (if 0 ≤ (rd t206 x7_3) then (if (rd t206 x7_3) < (x3_3.length : Int) then (cubbyref09_Reach.l2 k3 l0 (x3_3.set ((rd t206 x7_3) : Int).toNat true) x4_1 x5_2 t206 (wrap64 (x7_3 + 1))) else (none)) else (none)) else (none)) else (cubbyref09_Reach.l1 k3 l0 x3_3 x4_1 (wrap64 (x5_2 + 1)))) = some r := by rw [← hbq17] at H; exact H
                              have Nbq17 := Aside0.mk hbq17
                              clear hbq17
                              by_cases c18 : bq17 = true
                              · subst c18
                                have H1 : (if 0 ≤ x7_3 then (if 0 ≤ (rd t206 x7_3) then (if (rd t206 x7_3) < (x3_3.length : Int) then (cubbyref09_Reach.l2 k3 l0 (x3_3.set ((rd t206 x7_3) : Int).toNat true) x4_1 x5_2 t206 (wrap64 (x7_3 + 1))) else (none)) else (none)) else (none)) = some r := by rw [if_pos rfl] at H; exact H
                                clear H
                                have H := H1
                                clear H1
                                by_cases c19 : 0 ≤ x7_3
                                · rw [if_pos c19] at H
                                  have c19b0 : decide (0 ≤ x7_3) = true := decide_eq_true c19
                                  clear c19
                                  by_cases c20 : 0 ≤ (rd t206 x7_3)
                                  · rw [if_pos c20] at H
                                    have c20b0 : decide (0 ≤ (rd t206 x7_3)) = true := decide_eq_true c20
                                    clear c20
                                    by_cases c21 : (rd t206 x7_3) < (x3_3.length : Int)
                                    · rw [if_pos c21] at H
                                      have c21b0 : decide ((rd t206 x7_3) < (x3_3.length : Int)) = true := decide_eq_true c21
                                      clear c21
                                      obtain ⟨y211, hy211⟩ : ∃ y_ : List Bool, y_ = (x3_3.set ((rd t206 x7_3) : Int).toNat true) := ⟨_, rfl⟩
                                      replace H : (cubbyref09_Reach.l2 k3 l0 y211 x4_1 x5_2 t206 (wrap64 (x7_3 + 1))) = some r := by first | (rw [hy211]; with_reducible exact H) | (have H2_ := (Option.bind_some _ _).symm.trans H; rw [hy211]; with_reducible exact H2_) | (have H2_ := (Option.bind_some _ _).symm.trans H; with_reducible exact H2_) | with_reducible exact H | (rw [hy211]; exact H) | exact H
                                      have Ny211 := Aside0.mk hy211
                                      clear hy211
                                      have H' := Aside0.mk H
                                      clear H
                                      obtain ⟨Ao23, co23, eo23⟩ := Kd.R_slice HO_6.out
                                      subst eo23
                                      have p209 : 0 ≤ (x5_2 : Int) := of_decide_eq_true (by first | (with_reducible assumption) | assumption)
                                      have q209 : x5_2 < (x3_3.length : Int) := of_decide_eq_true (by first | (with_reducible assumption) | assumption)
                                      obtain ⟨ad209, e209, hx209_0⟩ := Kd.at_bool (Kd.R_reads' HO_3.out).2.2 x5_2 p209 q209
                                      (try rw [← Nbq17.out] at hx209_0)
                                      obtain rfl : (⟨go8, 0, none⟩ : Addr) = ad209 := (by injection e209)
                                      (first | simp only [add_plain] at hx209_0 | simp only [add_at] at hx209_0 | simp only [Addr.add, Nat.zero_add] at hx209_0 | skip)
                                      replace p209 := eq_true p209
                                      replace q209 := eq_true q209
                                      have p210 : 0 ≤ (x7_3 : Int) := of_decide_eq_true (by first | (with_reducible assumption) | assumption)
                                      have q210 : x7_3 < (t206.length : Int) := of_decide_eq_true (by first | (with_reducible assumption) | assumption)
                                      obtain ⟨ad210, e210, hx210_0⟩ := Kd.at_int (Kd.R_reads' HO_6.out).2.2 x7_3 p210 q210
                                      cases e210
                                      replace p210 := eq_true p210
                                      replace q210 := eq_true q210
                                      have p22 : 0 ≤ ((rd t206 x7_3) : Int) := of_decide_eq_true (by first | (with_reducible assumption) | assumption)
                                      have q22 : ((rd t206 x7_3) : Int) < ((x3_3.length : Int) : Int) := of_decide_eq_true (by first | (with_reducible assumption) | assumption)
                                      obtain ⟨hx22_0, hf22_0⟩ := Kd.R_celln false HO_3.out ((rd t206 x7_3) : Int) p22 q22
                                      replace p22 := eq_true p22
                                      replace q22 := eq_true q22
                                      have HP24 := Kd.R_putg HO_3.out ((rd t206 x7_3) : Int) true
                                      go_wp2_with (first | ((with_reducible refine gate_store (t := 4) (p := 45) rfl ?_); refine store_event (t := 4) (p := 45) (v := ?vo_w25) (w1 := (wr.setCell ⟨go8, ((rd t206 x7_3) : Int).toNat, none⟩ (.bool true))) ?hg ?ho ?hn ?hr ?_; (case ho => rfl); (case hg => rfl); (case hn => rfl); (case hr => first | (go_simp; done) | (go_simp; rfl)); intro w25 hw; have hg : wr.grownBy w25 (some go8) := (by rw [hw]; exact HP24.2); have hp_ : Kd.R Kd.bool 4 w25 w.heap.size (fun _ => True) (.slice (some ⟨go8, 0, none⟩) x3_3.length co8) y211 := (by rw [hw, Ny211.out]; exact HP24.1); clear HP24; have n0_ := Aside0.mk (hp_); have n1_ := Aside0.mk (Kd.R_over' (v := (.slice (some ⟨go8, 0, none⟩) x3_3.length co8)) (by (with_reducible repeat (first | apply Kd.R_alloc | apply Kd.R_drewN | apply Kd.R_drew)); exact HO_6.out) (Kd.R_typed HO_3.out) (by decide) hg); have n2_ := Aside0.mk ((by rw [hw]; exact below_set (HB.out) GB8.out : Below w.heap.size w w25)); clear HO_3; clear HO_6; clear HB; have HO_3 := n0_; have HO_6 := n1_; have HB := n2_; clear n0_ n1_ n2_; clear hg hw hp_))
                                      (try simp only [← hl3_3])
                                      go_roundg k3
                                      case measure => have := HK1.out; have := HK2.out; have := HK3.out; omega
                                      case rel => exact ⟨(y211), (wrap64 (x7_3 + 1)), (by first | rfl | (simp; done) | (simp [*]; done)), H', ⟨by have := HK1.out; have := HK2.out; have := HK3.out; omega⟩, ⟨by (try simp only [hl3_2]); (try simp only [hl3_3]); (with_reducible repeat (first | apply Kd.R_alloc | apply Kd.R_drewN | apply Kd.R_drew)); exact HO_3.out⟩, ⟨by (try simp only [hl3_2]); (try simp only [hl3_3]); (with_reducible repeat (first | apply Kd.R_alloc | apply Kd.R_drewN | apply Kd.R_drew)); exact HO_6.out⟩, ⟨by repeat (first | (with_reducible first | exact HB.out | apply below_alloc | apply pw_below_drewN | apply below_drew1) | exact HB.out)⟩⟩
                                    · rw [if_neg c21] at H
                                      exact absurd H (by simp)
                                  · rw [if_neg c20] at H
                                    exact absurd H (by simp)
                                · rw [if_neg c19] at H
                                  exact absurd H (by simp)
                              · replace c18 := Bool.eq_false_iff.mpr c18
                                subst c18
                                have H1 : (cubbyref09_Reach.l1 k3 l0 x3_3 x4_1 (wrap64 (x5_2 + 1))) = some r := by rw [if_neg (show ¬ (false = true) by decide)] at H; exact H
                                clear H
                                have H := H1
                                clear H1
                                have H' := Aside0.mk H
                                clear H
                                obtain ⟨Ao26, co26, eo26⟩ := Kd.R_slice HO_6.out
                                subst eo26
                                have p209 : 0 ≤ (x5_2 : Int) := of_decide_eq_true (by first | (with_reducible assumption) | assumption)
                                have q209 : x5_2 < (x3_3.length : Int) := of_decide_eq_true (by first | (with_reducible assumption) | assumption)
                                obtain ⟨ad209, e209, hx209_0⟩ := Kd.at_bool (Kd.R_reads' HO_3.out).2.2 x5_2 p209 q209
                                (try rw [← Nbq17.out] at hx209_0)
                                obtain rfl : (⟨go8, 0, none⟩ : Addr) = ad209 := (by injection e209)
                                (first | simp only [add_plain] at hx209_0 | simp only [add_at] at hx209_0 | simp only [Addr.add, Nat.zero_add] at hx209_0 | skip)
                                replace p209 := eq_true p209
                                replace q209 := eq_true q209
                                go_wp2
                                (try simp only [← hl3_2, ← hl3_3])
                                go_roundg k3
                                case measure => have := HK1.out; have := HK2.out; have := HK3.out; omega
                                case rel => exact ⟨(x3_3), (wrap64 (x5_2 + 1)), (by first | rfl | (simp; done) | (simp [*]; done)), H', ⟨by have := HK1.out; have := HK2.out; have := HK3.out; omega⟩, ⟨by (try simp only [hl3_2]); (try simp only [hl3_3]); (with_reducible repeat (first | apply Kd.R_alloc | apply Kd.R_drewN | apply Kd.R_drew)); exact HO_3.out⟩, ⟨by repeat (first | (with_reducible first | exact HB.out | apply below_alloc | apply pw_below_drewN | apply below_drew1) | exact HB.out)⟩⟩
                            · rw [if_neg c16] at H
                              exact absurd H (by simp)
                          · rw [if_neg c15] at H
                            exact absurd H (by simp)
                        · rw [if_neg c14] at H
                          have c14b0 : decide (x7_3 < (t206.length : Int)) = false := decide_eq_false c14
                          clear c14
                          have H' := Aside0.mk H
                          clear H
                          obtain ⟨Ao27, co27, eo27⟩ := Kd.R_slice HO_6.out
                          subst eo27
                          go_wp2
                          (try simp only [← hl3_2, ← hl3_3])
                          go_roundg k3
                          case measure => have := HK1.out; have := HK2.out; have := HK3.out; omega
                          case rel => exact ⟨(x3_3), (wrap64 (x5_2 + 1)), (by first | rfl | (simp; done) | (simp [*]; done)), H', ⟨by have := HK1.out; have := HK2.out; have := HK3.out; omega⟩, ⟨by (try simp only [hl3_2]); (try simp only [hl3_3]); (with_reducible repeat (first | apply Kd.R_alloc | apply Kd.R_drewN | apply Kd.R_drew)); exact HO_3.out⟩, ⟨by repeat (first | (with_reducible first | exact HB.out | apply below_alloc | apply pw_below_drewN | apply below_drew1) | exact HB.out)⟩⟩
                  · rw [if_neg c11] at H
                    have c11b0 : decide (x5_2 < (l0.length : Int)) = false := decide_eq_false c11
                    clear c11
                    have H' := Aside0.mk H
                    clear H
                    go_wp2
                    (try simp only [← hl3_2])
                    go_roundg k2
                    case measure => have := HK1.out; have := HK2.out; omega
                    case rel => exact ⟨(x3_2), (wrap64 (x4_1 + 1)), (by first | rfl | (simp; done) | (simp [*]; done)), H', ⟨by have := HK1.out; have := HK2.out; omega⟩, ⟨by (try simp only [hl3_2]); (with_reducible repeat (first | apply Kd.R_alloc | apply Kd.R_drewN | apply Kd.R_drew)); exact HO_3.out⟩, ⟨by repeat (first | (with_reducible first | exact HB.out | apply below_alloc | apply pw_below_drewN | apply below_drew1) | exact HB.out)⟩⟩
            · rw [if_neg c7] at H
              exact absurd H (by simp)
          · rw [if_neg c6] at H
            have c6b0 : decide (x4_1 < (l0.length : Int)) = false := decide_eq_false c6
            clear c6
            obtain rfl := Option.some.inj H
            go_wp2
            go_ret
            exact ⟨_, by first | rfl | (simp [errW_none, errW_some] <;> rfl) | (simp [*, errW_none, errW_some] <;> rfl), by (with_reducible repeat (first | apply Kd.R_alloc | apply Kd.R_drewN | apply Kd.R_drew)); exact HO_3.out, by repeat (first | (with_reducible first | exact HB.out | apply below_alloc | apply pw_below_drewN | apply below_drew1) | exact HB.out)⟩
    · rw [if_neg c3] at H
      exact absurd H (by simp)
  · rw [if_neg c2] at H
    exact absurd H (by simp)

end Go.Proofs.Ytgmklfaknomakaa.Q
