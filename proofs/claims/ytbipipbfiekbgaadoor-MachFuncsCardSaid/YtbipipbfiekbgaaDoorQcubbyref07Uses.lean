/- Lean functions that answer as the Go functions named below do, and the proofs of that. Written by a program out of the translation. -/
import Derived.Test.YtbipipbfiekbgaaDoorQ0
import Derived.Test.YtbipipbfiekbgaaDoorSq
namespace Go.Proofs.YtbipipbfiekbgaaDoor.Q
open Go.RowKit Go.Proofs.YtbipipbfiekbgaaDoorW.PrintWords Go.Proofs.YtbipipbfiekbgaaDoorW.PrintLast Go.Proofs.YtbipipbfiekbgaaDoorW.PrintMore
attribute [local go_sem] max2_int min2_int max_two min_two max_three min_three max_four min_four   -- for this text's walks alone
set_option linter.unusedVariables false
set_option linter.unusedSimpArgs false

/-! ### cubbyref07_Uses: function 40 -/
mutual
def cubbyref07_Uses.j0 : Nat → List Int → Int → Bool → Int → Int → Int → Int → ByteArray → List Int → Option (List Int)
 | 0, _, _, _, _, _, _, _, _, _ => none
 | k + 1, x3, x6, x7, x206000, x206001, x206002, x206003, x206004, x206005 => if x7 = true then (if x3.length < 17592186044416 then (some (x3 ++ [x206002])) else (none)) else (if x6 = 3 then (cubbyref07_Uses.j1 k x3 x6 (x6 == 3) x206000 x206001 x206002 x206003 x206004 x206005) else (if x6 = 4 then (cubbyref07_Uses.j1 k x3 x6 (x6 == 4) x206000 x206001 x206002 x206003 x206004 x206005) else (if x6 = 5 then (cubbyref07_Uses.j1 k x3 x6 (x6 == 5) x206000 x206001 x206002 x206003 x206004 x206005) else (if x6 = 6 then (cubbyref07_Uses.j1 k x3 x6 (x6 == 6) x206000 x206001 x206002 x206003 x206004 x206005) else (if x6 = 7 then (cubbyref07_Uses.j1 k x3 x6 (x6 == 7) x206000 x206001 x206002 x206003 x206004 x206005) else (cubbyref07_Uses.j1 k x3 x6 (x6 == 9) x206000 x206001 x206002 x206003 x206004 x206005))))))
def cubbyref07_Uses.j1 : Nat → List Int → Int → Bool → Int → Int → Int → Int → ByteArray → List Int → Option (List Int)
 | 0, _, _, _, _, _, _, _, _, _ => none
 | k + 1, x3, x6, x18, x206000, x206001, x206002, x206003, x206004, x206005 => if x18 = true then ((some (([x206002, x206003] : List Int) : List Int)).bind fun y212 => (if x3.length + y212.length < 17592186044416 then (some (x3 ++ y212)) else (none))) else (if x6 = 11 then (if x3.length + x206005.length < 17592186044416 then (some (x3 ++ x206005)) else (none)) else (some x3))
end
def cubbyref07_Uses.f (k : Nat) (a0_0 : Int) (a0_1 : Int) (a0_2 : Int) (a0_3 : Int) (a0_4 : ByteArray) (l0_5 : List Int) : Option (List Int) := (some (([] : List Int) : List Int)).bind fun y206 => (if a0_0 = 2 then (cubbyref07_Uses.j0 k y206 a0_0 (a0_0 == 2) a0_0 a0_1 a0_2 a0_3 a0_4 l0_5) else (if a0_0 = 8 then (cubbyref07_Uses.j0 k y206 a0_0 (a0_0 == 8) a0_0 a0_1 a0_2 a0_3 a0_4 l0_5) else (if a0_0 = 10 then (cubbyref07_Uses.j0 k y206 a0_0 (a0_0 == 10) a0_0 a0_1 a0_2 a0_3 a0_4 l0_5) else (if a0_0 = 14 then (cubbyref07_Uses.j0 k y206 a0_0 (a0_0 == 14) a0_0 a0_1 a0_2 a0_3 a0_4 l0_5) else (cubbyref07_Uses.j0 k y206 a0_0 (a0_0 == 13) a0_0 a0_1 a0_2 a0_3 a0_4 l0_5)))))
theorem cubbyref07_Uses.mono_l : ∀ k, (∀ y0 y1 y2 y3 y4 y5 y6 y7 y8, LeO (cubbyref07_Uses.j0 k y0 y1 y2 y3 y4 y5 y6 y7 y8) (cubbyref07_Uses.j0 (k + 1) y0 y1 y2 y3 y4 y5 y6 y7 y8)) ∧ (∀ y0 y1 y2 y3 y4 y5 y6 y7 y8, LeO (cubbyref07_Uses.j1 k y0 y1 y2 y3 y4 y5 y6 y7 y8) (cubbyref07_Uses.j1 (k + 1) y0 y1 y2 y3 y4 y5 y6 y7 y8))
 | 0 => ⟨fun _ _ _ _ _ _ _ _ _ r h => by simp [cubbyref07_Uses.j0] at h, fun _ _ _ _ _ _ _ _ _ r h => by simp [cubbyref07_Uses.j1] at h⟩
 | k + 1 => by
  obtain ⟨ih0, ih1⟩ := cubbyref07_Uses.mono_l k
  refine ⟨?_, ?_⟩ <;> intros <;> (first | unfold cubbyref07_Uses.j0 | unfold cubbyref07_Uses.j1) <;> repeat' first | (with_reducible exact ih0 _ _ _ _ _ _ _ _ _) | (with_reducible exact ih1 _ _ _ _ _ _ _ _ _) | (with_reducible exact LeO.refl _) | (with_reducible exact LeO.none _) | (with_reducible refine LeO.ite ?_ ?_) | (with_reducible refine LeO.bind ?_ (fun _ => ?_)) | exact LeO.none _ | refine LeO.ite ?_ ?_ | refine LeO.bind ?_ (fun _ => ?_)
theorem cubbyref07_Uses.mono : ∀ a0 a1 a2 a3 a4 a5 k, LeO (cubbyref07_Uses.f k a0 a1 a2 a3 a4 a5) (cubbyref07_Uses.f (k + 1) a0 a1 a2 a3 a4 a5) := by
 intro a0 a1 a2 a3 a4 a5 k
 obtain ⟨ih0, ih1⟩ := cubbyref07_Uses.mono_l k
 unfold cubbyref07_Uses.f
 repeat' first | (with_reducible exact ih0 _ _ _ _ _ _ _ _ _) | (with_reducible exact ih1 _ _ _ _ _ _ _ _ _) | (with_reducible exact LeO.refl _) | (with_reducible exact LeO.none _) | (with_reducible refine LeO.ite ?_ ?_) | (with_reducible refine LeO.bind ?_ (fun _ => ?_)) | exact LeO.none _ | refine LeO.ite ?_ ?_ | refine LeO.bind ?_ (fun _ => ?_)
set_option maxHeartbeats 8000000 in
set_option maxRecDepth 100000 in
theorem cubbyref07_Uses.calls (k : Nat) (a0_0 : Int) (a0_1 : Int) (a0_2 : Int) (a0_3 : Int) (a0_4 : ByteArray) (A0_5 : Option Addr) (c0_5 : Nat) (l0_5 : List Int) (r : List Int) (w : World) (hr0_5 : Kd.C (Kd.int .i64) w A0_5 l0_5.length l0_5) (hc0_5 : l0_5.length ≤ c0_5) (h : cubbyref07_Uses.f k a0_0 a0_1 a0_2 a0_3 a0_4 l0_5 = some r) :
  Calls Tryd.prog 40 #[.agg #[.int .i64 a0_0, .int .i64 a0_1, .int .i64 a0_2, .int .i64 a0_3, .string a0_4, .slice A0_5 l0_5.length c0_5]] w fun e w' => ∃ v0_ : Value, e = .returned (v0_) ∧ Kd.R (Kd.int .i64) 3 w' w.heap.size (fun _ => True) v0_ r ∧ Below w.heap.size w w' := by
 have hu31 := Tryd.underlying31
 have HR0_5 := Aside0.mk hr0_5
 have HC0_5 := Aside0.mk hc0_5
 clear hr0_5 hc0_5
 have HB := Aside0.mk (Below.refl w.heap.size w)
 have H := h; clear h; unfold cubbyref07_Uses.f at H
 obtain ⟨y206, hy206⟩ : ∃ y_ : List Int, y_ = (([] : List Int)) := ⟨_, rfl⟩
 replace H : (if a0_0 = 2 then (cubbyref07_Uses.j0 k y206 a0_0 (a0_0 == 2) a0_0 a0_1 a0_2 a0_3 a0_4 l0_5) else (if a0_0 = 8 then (cubbyref07_Uses.j0 k y206 a0_0 (a0_0 == 8) a0_0 a0_1 a0_2 a0_3 a0_4 l0_5) else (if a0_0 = 10 then (cubbyref07_Uses.j0 k y206 a0_0 (a0_0 == 10) a0_0 a0_1 a0_2 a0_3 a0_4 l0_5) else (if a0_0 = 14 then (cubbyref07_Uses.j0 k y206 a0_0 (a0_0 == 14) a0_0 a0_1 a0_2 a0_3 a0_4 l0_5) else (cubbyref07_Uses.j0 k y206 a0_0 (a0_0 == 13) a0_0 a0_1 a0_2 a0_3 a0_4 l0_5))))) = some r := by first | (rw [hy206]; with_reducible exact H) | (have H2_ := (Option.bind_some _ _).symm.trans H; rw [hy206]; with_reducible exact H2_) | (have H2_ := (Option.bind_some _ _).symm.trans H; with_reducible exact H2_) | with_reducible exact H | (rw [hy206]; exact H) | exact H
 have Ny206 := Aside0.mk hy206
 clear hy206
 have HC2 := Aside0.mk H
 clear H
 go_enter Tryd.func40, Tryd.ntmps40
 go_upto_if 7 with (first | ((with_reducible refine gate_dst (N := 1) rfl ?_); refine box_event (by rfl) (N := 1) (by rfl) (cs := #[.int .i64 a0_0, .int .i64 a0_1, .int .i64 a0_2, .int .i64 a0_3, .string a0_4, .slice A0_5 l0_5.length c0_5]) (t := 31) ?hr ?_; (case hr => first | (go_simp; done) | (go_simp; rfl)); intro gb205 hg w3 hbox hb; have BK205 := Aside0.mk (hbox); have GW205 := qG hg; have GE205 := GW205; replace HB := qH hb; clear hb hbox hg) | ((with_reducible refine gate_dst (N := 4) rfl ?_); refine Kd.R_lit (Kd.int .i64) _ 3 (by rfl) (N := 4) (by rfl) (xs := ([] : List Int)) (inner := []) (ok := fun _ => True) (okp := fun _ => True) ?hr ?hp (fun _ hk => hk) trivial (Below.refl _ _) (Nat.le_refl _) (by simp) ?_; (case hr => first | (go_simp; done) | (go_simp; rfl)); (case hp => exact (Reps.none _ _)); intro v207 w4 ho5 hb hg_ hnew_; clear hg_ hnew_; (first | rw [← Ny206.out] at ho5 | (simp only [Int.reduceToNat] at ho5; rw [← Ny206.out] at ho5)); have HO208 := Aside0.mk (Kd.R_lower ho5 (below_size qB)); replace BK205 := qW BK205 hb; replace HB := qH hb; clear hb ho5; have z6_0 := bk6 BK205.out))
 (try simp only [Act.put, List.setIfInBounds_toArray, List.set_cons_zero, List.set_cons_succ])
 go_cut [7] (fun v7 wc => ∃ (kq : Nat) (x7_1 : Bool), v7 = .bool x7_1 ∧ Aside0 (cubbyref07_Uses.j0 kq y206 a0_0 x7_1 a0_0 a0_1 a0_2 a0_3 a0_4 l0_5 = some r) ∧ Aside0 (kq ≤ k) ∧ Aside0 (Kd.R (Kd.int .i64) 3 wc w.heap.size (fun _ => True) v207 y206) ∧ Aside0 (wc.heap[gb205]? = some (.cells #[.int .i64 a0_0, .int .i64 a0_1, .int .i64 a0_2, .int .i64 a0_3, .string a0_4, (.slice A0_5 l0_5.length c0_5)] 31 (0, 0))) ∧ Aside0 (Below w.heap.size w wc))
 case first =>
  have H := HC2.out
  clear HC2
  by_cases c7 : a0_0 = 2
  ·rw [if_pos c7] at H
   obtain ⟨c7b0, c7b1⟩ := qe c7; clear c7
   (first | rw [c7b0] | (simp only [i64_w, i32_w]; rw [c7b0]) | skip)
   have H' := Aside0.mk H
   clear H
   go_wp2
   go_meet
   case rel => exact ⟨_, ((a0_0 == 2)), qT, H', ⟨qO⟩, ⟨qR HO208.out⟩, ⟨qK BK205.out⟩, ⟨qB⟩⟩
  ·rw [if_neg c7] at H
   obtain ⟨c7b0, c7b1⟩ := qn c7
   (first | rw [c7b0] | (simp only [i64_w, i32_w]; rw [c7b0]) | skip)
   by_cases c8 : a0_0 = 8
   ·rw [if_pos c8] at H
    obtain ⟨c8b0, c8b1⟩ := qe c8; clear c8
    have H' := Aside0.mk H
    clear H
    go_wp2
    go_meet
    case rel => exact ⟨_, ((a0_0 == 8)), qT, H', ⟨qO⟩, ⟨qR HO208.out⟩, ⟨qK BK205.out⟩, ⟨qB⟩⟩
   ·rw [if_neg c8] at H
    obtain ⟨c8b0, c8b1⟩ := qn c8
    by_cases c9 : a0_0 = 10
    ·rw [if_pos c9] at H
     obtain ⟨c9b0, c9b1⟩ := qe c9; clear c9
     have H' := Aside0.mk H
     clear H
     go_wp2
     go_meet
     case rel => exact ⟨_, ((a0_0 == 10)), qT, H', ⟨qO⟩, ⟨qR HO208.out⟩, ⟨qK BK205.out⟩, ⟨qB⟩⟩
    ·rw [if_neg c9] at H
     obtain ⟨c9b0, c9b1⟩ := qn c9
     by_cases c10 : a0_0 = 14
     ·rw [if_pos c10] at H
      obtain ⟨c10b0, c10b1⟩ := qe c10; clear c10
      have H' := Aside0.mk H
      clear H
      go_wp2
      go_meet
      case rel => exact ⟨_, ((a0_0 == 14)), qT, H', ⟨qO⟩, ⟨qR HO208.out⟩, ⟨qK BK205.out⟩, ⟨qB⟩⟩
     ·rw [if_neg c10] at H
      obtain ⟨c10b0, c10b1⟩ := qn c10
      have H' := Aside0.mk H
      clear H
      go_wp2
      go_meet
      case rel => exact ⟨_, ((a0_0 == 13)), qT, H', ⟨qO⟩, ⟨qR HO208.out⟩, ⟨qK BK205.out⟩, ⟨qB⟩⟩
 case rest =>
  clear HC2
  try clear c1; try clear p2; try clear c4; try clear c7; try clear c7b0 c7b1; try clear c8; try clear c8b0 c8b1; try clear c9; try clear c9b0 c9b1; try clear c10; try clear c10b0 c10b1; try clear z6_0
  obtain ⟨kq, x7_1, rfl, HA, HJ1, HO_3, BK205, HB⟩ := hcut
  cases kq with
  | zero => exact absurd HA.out (by simp [cubbyref07_Uses.j0])
  | succ kj1 =>
   have H := HA.out
   clear HA
   simp only [cubbyref07_Uses.j0] at H
   by_cases c11 : x7_1 = true
   ·subst c11
    have H1 : (if y206.length < 17592186044416 then (some (y206 ++ [a0_2])) else (none)) = some r := by rw [if_pos rfl] at H; exact H
    clear H
    have H := H1
    clear H1
    by_cases c12 : y206.length < 17592186044416
    ·rw [if_pos c12] at H
     have LMc12 := Aside0.mk c12
     clear c12
     obtain ⟨y209, hy209⟩ : ∃ y_ : List Int, y_ = (y206 ++ [a0_2]) := ⟨_, rfl⟩
     replace H : (some y209) = some r := by first | (rw [hy209]; with_reducible exact H) | (have H2_ := (Option.bind_some _ _).symm.trans H; rw [hy209]; with_reducible exact H2_) | (have H2_ := (Option.bind_some _ _).symm.trans H; with_reducible exact H2_) | with_reducible exact H | (rw [hy209]; exact H) | exact H
     have Ny209 := Aside0.mk hy209
     clear hy209
     obtain rfl := Option.some.inj H
     have z13_0 := bk6 BK205.out
     go_wp2_with (first | ((with_reducible refine gate_builtin (b := .append) (xs := #[.tmp 13, .tmp 16]) rfl ?_); at_builtin; refine Kd.R_append (Kd.int .i64) (w0 := w) w.heap.size rfl (.tmp 13) (.tmp 16) 29 3 (.int .i64 0) 8 rfl Tryd.underlying29 info3 rfl (by decide) (by omega) v207 y206 a0_2 [.int .i64 a0_2] (fun _ => True) (fun _ => False) rfl rfl ?aP (fun _ hk => hk.elim) ?aF ?aO ?aB ?aS ?aL ?_; (case aP => exact rfl); (case aB => exact qB); (case aF => exact (fun _ _ => trivial)); (case aO => exact (qR HO_3.out)); (case aS => exact (below_size qB)); (case aL => have := LMc12.out; omega); intro v210 w14 ho hb hg hat; rw [← Ny209.out] at ho; replace BK205 := Aside0.mk (blk_grown (qK BK205.out) hg (Kd.R_ne HO_3.out BK205.out (by decide))); replace HB := Aside0.mk (hb); have HO211 := Aside0.mk (ho); clear HO_3; clear ho hb hg hat))
     go_ret
     exact ⟨_, qE, qR HO211.out, qB⟩
    ·rw [if_neg c12] at H
     exact absurd H (by simp)
   ·replace c11 := Bool.eq_false_iff.mpr c11
    subst c11
    have H1 : (if a0_0 = 3 then (cubbyref07_Uses.j1 kj1 y206 a0_0 (a0_0 == 3) a0_0 a0_1 a0_2 a0_3 a0_4 l0_5) else (if a0_0 = 4 then (cubbyref07_Uses.j1 kj1 y206 a0_0 (a0_0 == 4) a0_0 a0_1 a0_2 a0_3 a0_4 l0_5) else (if a0_0 = 5 then (cubbyref07_Uses.j1 kj1 y206 a0_0 (a0_0 == 5) a0_0 a0_1 a0_2 a0_3 a0_4 l0_5) else (if a0_0 = 6 then (cubbyref07_Uses.j1 kj1 y206 a0_0 (a0_0 == 6) a0_0 a0_1 a0_2 a0_3 a0_4 l0_5) else (if a0_0 = 7 then (cubbyref07_Uses.j1 kj1 y206 a0_0 (a0_0 == 7) a0_0 a0_1 a0_2 a0_3 a0_4 l0_5) else (cubbyref07_Uses.j1 kj1 y206 a0_0 (a0_0 == 9) a0_0 a0_1 a0_2 a0_3 a0_4 l0_5)))))) = some r := by rw [if_neg (show ¬ (false = true) by decide)] at H; exact H
    clear H
    have H := H1
    clear H1
    have HC15 := Aside0.mk H
    clear H
    go_upto_if 18 with (fail)
    go_cut [18] (fun v18 wc => ∃ (kq : Nat) (x18_14 : Bool), v18 = .bool x18_14 ∧ Aside0 (cubbyref07_Uses.j1 kq y206 a0_0 x18_14 a0_0 a0_1 a0_2 a0_3 a0_4 l0_5 = some r) ∧ Aside0 (kq ≤ kj1) ∧ Aside0 (Kd.R (Kd.int .i64) 3 wc w.heap.size (fun _ => True) v207 y206) ∧ Aside0 (wc.heap[gb205]? = some (.cells #[.int .i64 a0_0, .int .i64 a0_1, .int .i64 a0_2, .int .i64 a0_3, .string a0_4, (.slice A0_5 l0_5.length c0_5)] 31 (0, 0))) ∧ Aside0 (Below w.heap.size w wc))
    case first =>
     have H := HC15.out
     clear HC15
     by_cases c16 : a0_0 = 3
     ·rw [if_pos c16] at H
      obtain ⟨c16b0, c16b1⟩ := qe c16; clear c16
      (first | rw [c16b0] | (simp only [i64_w, i32_w]; rw [c16b0]) | skip)
      have H' := Aside0.mk H
      clear H
      go_wp2
      go_meet
      case rel => exact ⟨_, ((a0_0 == 3)), qT, H', ⟨by have := HJ1.out; first | omega | exact Nat.le_refl _⟩, ⟨qR HO_3.out⟩, ⟨qK BK205.out⟩, ⟨qB⟩⟩
     ·rw [if_neg c16] at H
      obtain ⟨c16b0, c16b1⟩ := qn c16
      (first | rw [c16b0] | (simp only [i64_w, i32_w]; rw [c16b0]) | skip)
      by_cases c17 : a0_0 = 4
      ·rw [if_pos c17] at H
       obtain ⟨c17b0, c17b1⟩ := qe c17; clear c17
       have H' := Aside0.mk H
       clear H
       go_wp2
       go_meet
       case rel => exact ⟨_, ((a0_0 == 4)), qT, H', ⟨by have := HJ1.out; first | omega | exact Nat.le_refl _⟩, ⟨qR HO_3.out⟩, ⟨qK BK205.out⟩, ⟨qB⟩⟩
      ·rw [if_neg c17] at H
       obtain ⟨c17b0, c17b1⟩ := qn c17
       by_cases c18 : a0_0 = 5
       ·rw [if_pos c18] at H
        obtain ⟨c18b0, c18b1⟩ := qe c18; clear c18
        have H' := Aside0.mk H
        clear H
        go_wp2
        go_meet
        case rel => exact ⟨_, ((a0_0 == 5)), qT, H', ⟨by have := HJ1.out; first | omega | exact Nat.le_refl _⟩, ⟨qR HO_3.out⟩, ⟨qK BK205.out⟩, ⟨qB⟩⟩
       ·rw [if_neg c18] at H
        obtain ⟨c18b0, c18b1⟩ := qn c18
        by_cases c19 : a0_0 = 6
        ·rw [if_pos c19] at H
         obtain ⟨c19b0, c19b1⟩ := qe c19; clear c19
         have H' := Aside0.mk H
         clear H
         go_wp2
         go_meet
         case rel => exact ⟨_, ((a0_0 == 6)), qT, H', ⟨by have := HJ1.out; first | omega | exact Nat.le_refl _⟩, ⟨qR HO_3.out⟩, ⟨qK BK205.out⟩, ⟨qB⟩⟩
        ·rw [if_neg c19] at H
         obtain ⟨c19b0, c19b1⟩ := qn c19
         by_cases c20 : a0_0 = 7
         ·rw [if_pos c20] at H
          obtain ⟨c20b0, c20b1⟩ := qe c20; clear c20
          have H' := Aside0.mk H
          clear H
          go_wp2
          go_meet
          case rel => exact ⟨_, ((a0_0 == 7)), qT, H', ⟨by have := HJ1.out; first | omega | exact Nat.le_refl _⟩, ⟨qR HO_3.out⟩, ⟨qK BK205.out⟩, ⟨qB⟩⟩
         ·rw [if_neg c20] at H
          obtain ⟨c20b0, c20b1⟩ := qn c20
          have H' := Aside0.mk H
          clear H
          go_wp2
          go_meet
          case rel => exact ⟨_, ((a0_0 == 9)), qT, H', ⟨by have := HJ1.out; first | omega | exact Nat.le_refl _⟩, ⟨qR HO_3.out⟩, ⟨qK BK205.out⟩, ⟨qB⟩⟩
    case rest =>
     clear HC15
     try clear c1; try clear c2; try clear p2; try clear c4; try clear c7; try clear c7b0 c7b1; try clear c8; try clear c8b0 c8b1; try clear c9; try clear c9b0 c9b1; try clear c10; try clear c10b0 c10b1; try clear c11; try clear c12; try clear c16; try clear c16b0 c16b1; try clear c17; try clear c17b0 c17b1; try clear c18; try clear c18b0 c18b1; try clear c19; try clear c19b0 c19b1; try clear c20; try clear c20b0 c20b1; try clear z13_0; try clear z6_0
     obtain ⟨kq, x18_14, rfl, HA, HJ14, HO_3, BK205, HB⟩ := hcut
     cases kq with
     | zero => exact absurd HA.out (by simp [cubbyref07_Uses.j1])
     | succ kj14 =>
      have H := HA.out
      clear HA
      simp only [cubbyref07_Uses.j1] at H
      by_cases c21 : x18_14 = true
      ·subst c21
       have H1 : ((some (([a0_2, a0_3] : List Int) : List Int)).bind fun y212 => (if y206.length + y212.length < 17592186044416 then (some (y206 ++ y212)) else (none))) = some r := by rw [if_pos rfl] at H; exact H
       clear H
       have H := H1
       clear H1
       obtain ⟨y212, hy212⟩ : ∃ y_ : List Int, y_ = (([a0_2, a0_3] : List Int)) := ⟨_, rfl⟩
       replace H : (if y206.length + y212.length < 17592186044416 then (some (y206 ++ y212)) else (none)) = some r := by first | (rw [hy212]; with_reducible exact H) | (have H2_ := (Option.bind_some _ _).symm.trans H; rw [hy212]; with_reducible exact H2_) | (have H2_ := (Option.bind_some _ _).symm.trans H; with_reducible exact H2_) | with_reducible exact H | (rw [hy212]; exact H) | exact H
       have Ny212 := Aside0.mk hy212
       clear hy212
       by_cases c22 : y206.length + y212.length < 17592186044416
       ·rw [if_pos c22] at H
        have LMc22 := Aside0.mk c22
        clear c22
        obtain ⟨y215, hy215⟩ : ∃ y_ : List Int, y_ = (y206 ++ y212) := ⟨_, rfl⟩
        replace H : (some y215) = some r := by first | (rw [hy215]; with_reducible exact H) | (have H2_ := (Option.bind_some _ _).symm.trans H; rw [hy215]; with_reducible exact H2_) | (have H2_ := (Option.bind_some _ _).symm.trans H; with_reducible exact H2_) | with_reducible exact H | (rw [hy215]; exact H) | exact H
        have Ny215 := Aside0.mk hy215
        clear hy215
        obtain rfl := Option.some.inj H
        have z23_0 := bk6 BK205.out
        go_wp2_with (first | ((with_reducible refine gate_dst (N := 30) rfl ?_); refine Kd.R_lit (Kd.int .i64) _ 3 (by rfl) (N := 30) (by rfl) (xs := ([a0_2, a0_3] : List Int)) (inner := [.int .i64 a0_2, .int .i64 a0_3]) (ok := fun _ => True) (okp := fun _ => True) ?hr ?hp (fun _ hk => hk) trivial (Below.refl _ _) (Nat.le_refl _) (by simp) ?_; (case hr => first | (go_simp; done) | (go_simp; rfl)); (case hp => exact (Reps.one (show Kd.M (Kd.int .i64) _ _ _ a0_2 [.int .i64 a0_2] from rfl) (Reps.one (show Kd.M (Kd.int .i64) _ _ _ a0_3 [.int .i64 a0_3] from rfl) (Reps.none _ _)))); intro v213 w24 ho25 hb hg_ hnew_; clear hg_ hnew_; (first | rw [← Ny212.out] at ho25 | (simp only [Int.reduceToNat] at ho25; rw [← Ny212.out] at ho25)); have HO214 := Aside0.mk (Kd.R_lower (Kd.R_new' ho25 (Kd.R_lt (qR HO_3.out))) (below_size qB)); replace HO_3 := Aside0.mk (Kd.R_elder' (qR HO_3.out) (Kd.R_base ho25) hb); replace BK205 := qW BK205 hb; replace HB := qH hb; clear hb ho25; obtain ⟨Ao27, co27, eo27⟩ := Kd.R_slice HO214.out; subst eo27) | ((with_reducible refine gate_builtin (b := .append) (xs := #[.tmp 25, .tmp 30]) rfl ?_); at_builtin; refine Kd.R_append_rows (Kd.int .i64) (w0 := w) w.heap.size rfl (.tmp 25) (.tmp 30) 29 3 (.int .i64 0) 8 rfl Tryd.underlying29 info3 rfl (by decide) (by omega) v207 y206 y212 _ _ _ (fun k_ => some k_ ≠ (.slice Ao27 y212.length co27 : Value).ownBlock) (fun _ => False) rfl rfl ?aO ?aR (fun _ _ h => h) (fun _ h => h.elim) ?aF ?aB ?aS ?aL ?_; (case aR => repeat (first | exact (Kd.R_reads' HO214.out).2.2 | (with_reducible refine Kd.C_alloc ?_ _) | (with_reducible refine Kd.C_drewN ?_ _) | (with_reducible refine Kd.C_drew ?_))); (case aB => exact qB); (case aF => exact (fun k_ hk => Kd.fresh' (Kd.R_lt (qR HO214.out)) k_ hk)); (case aO => exact (by (with_reducible repeat (first | apply Kd.R_alloc | apply Kd.R_drewN | apply Kd.R_drew)); exact Kd.R_mono HO_3.out (fun _ hk => hk.2))); (case aS => exact (below_size qB)); (case aL => have := LMc22.out; omega); intro v216 w26 ho hb hg hat; rw [← Ny215.out] at ho; replace BK205 := Aside0.mk (blk_grown (qK BK205.out) hg (Kd.R_ne HO_3.out BK205.out (by decide))); replace HO214 := Aside0.mk (Kd.R_after (ok := (fun _ => True)) (qR HO214.out) hg hat); replace HB := Aside0.mk (hb); have HO217 := Aside0.mk (ho); clear HO_3; clear ho hb hg hat))
        go_ret
        exact ⟨_, qE, by (with_reducible repeat (first | apply Kd.R_alloc | apply Kd.R_drewN | apply Kd.R_drew)); exact Kd.R_mono HO217.out (fun _ hk => trivial), qB⟩
       ·rw [if_neg c22] at H
        exact absurd H (by simp)
      ·replace c21 := Bool.eq_false_iff.mpr c21
       subst c21
       have H1 : (if a0_0 = 11 then (if y206.length + l0_5.length < 17592186044416 then (some (y206 ++ l0_5)) else (none)) else (some y206)) = some r := by rw [if_neg (show ¬ (false = true) by decide)] at H; exact H
       clear H
       have H := H1
       clear H1
       by_cases c28 : a0_0 = 11
       ·rw [if_pos c28] at H
        obtain ⟨c28b0, c28b1⟩ := qe c28; clear c28
        by_cases c29 : y206.length + l0_5.length < 17592186044416
        ·rw [if_pos c29] at H
         have LMc29 := Aside0.mk c29
         clear c29
         obtain ⟨y218, hy218⟩ : ∃ y_ : List Int, y_ = (y206 ++ l0_5) := ⟨_, rfl⟩
         replace H : (some y218) = some r := by first | (rw [hy218]; with_reducible exact H) | (have H2_ := (Option.bind_some _ _).symm.trans H; rw [hy218]; with_reducible exact H2_) | (have H2_ := (Option.bind_some _ _).symm.trans H; with_reducible exact H2_) | with_reducible exact H | (rw [hy218]; exact H) | exact H
         have Ny218 := Aside0.mk hy218
         clear hy218
         obtain rfl := Option.some.inj H
         have z30_0 := bk6 BK205.out
         go_wp2_with (first | ((with_reducible refine gate_builtin (b := .append) (xs := #[.tmp 34, .tmp 36]) rfl ?_); at_builtin; refine Kd.R_append_rows (Kd.int .i64) (w0 := w) w.heap.size rfl (.tmp 34) (.tmp 36) 29 3 (.int .i64 0) 8 rfl Tryd.underlying29 info3 rfl (by decide) (by omega) v207 y206 l0_5 _ _ _ (fun _ => True) (fun _ => False) rfl rfl ?aO ?aR (fun _ _ h => h) (fun _ h => h.elim) ?aF ?aB ?aS ?aL ?_; (case aR => exact qCB HR0_5.out); (case aB => exact qB); (case aF => exact (fun _ _ => trivial)); (case aO => exact (qR HO_3.out)); (case aS => exact (below_size qB)); (case aL => have := LMc29.out; omega); intro v219 w31 ho hb hg hat; rw [← Ny218.out] at ho; replace BK205 := Aside0.mk (blk_grown (qK BK205.out) hg (Kd.R_ne HO_3.out BK205.out (by decide))); replace HB := Aside0.mk (hb); have HO220 := Aside0.mk (ho); clear HO_3; clear ho hb hg hat))
         go_ret
         exact ⟨_, qE, qR HO220.out, qB⟩
        ·rw [if_neg c29] at H
         exact absurd H (by simp)
       ·rw [if_neg c28] at H
        obtain ⟨c28b0, c28b1⟩ := qn c28
        obtain rfl := Option.some.inj H
        go_wp2
        go_ret
        exact ⟨_, qE, qR HO_3.out, qB⟩

end Go.Proofs.YtbipipbfiekbgaaDoor.Q
