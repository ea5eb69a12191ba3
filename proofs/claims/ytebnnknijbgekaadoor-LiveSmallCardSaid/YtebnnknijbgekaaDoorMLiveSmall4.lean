/- LiveSmall: parts of the proofs, put together. -/
import Derived.Test.YtebnnknijbgekaaDoorMLiveSmall1
import Derived.Test.YtebnnknijbgekaaDoorMLiveSmall2
import Derived.Test.YtebnnknijbgekaaDoorMLiveSmall3
namespace Go.Proofs.YtebnnknijbgekaaDoor.Q
open Go.RowKit Go.Proofs.YtebnnknijbgekaaDoorW.PrintWords Go.Proofs.YtebnnknijbgekaaDoorW.PrintLast Go.Proofs.YtebnnknijbgekaaDoorW.PrintMore
attribute [local go_sem] max2_int min2_int max_two min_two max_three min_three max_four min_four   -- for this text's walks alone
set_option linter.unusedVariables false
set_option linter.unusedSimpArgs false

/-! ### ir_Check: function 49 -/
mutual
def ir_Check.j0 : Nat → Bool → ByteArray → Int → Int → List (List (SIns)) → Option (Int)
 | 0, _, _, _, _, _ => none
 | k + 1, x46, x195000, x195001, x195002, x195003 => if x46 = true then (some 71) else (ir_Check.l0 k 200 x195003 (x195003.length : Int) 0 x195000 x195001 x195002 x195003)
def ir_Check.l0 : Nat → Int → List (List (SIns)) → Int → Int → ByteArray → Int → Int → List (List (SIns)) → Option (Int)
 | 0, _, _, _, _, _, _, _, _ => none
 | k + 1, x3, x48, x49, x50, x195000, x195001, x195002, x195003 => if x50 < x49 then (if 0 ≤ x50 then (if x50 < (x48.length : Int) then (if ((rd_LIns x48 x50).length : Int) = 0 then (some 71) else (if ((rd_LIns x48 x50).length : Int) > x3 then (some 71) else (ir_Check.l0 k (wrap64 (x3 - ((rd_LIns x48 x50).length : Int))) x48 x49 (wrap64 (x50 + 1)) x195000 x195001 x195002 x195003))) else (none)) else (none)) else (ir_Check.l1 k x195003 (x195003.length : Int) 0 x195000 x195001 x195002 x195003)
def ir_Check.l1 : Nat → List (List (SIns)) → Int → Int → ByteArray → Int → Int → List (List (SIns)) → Option (Int)
 | 0, _, _, _, _, _, _, _ => none
 | k + 1, x69, x70, x71, x195000, x195001, x195002, x195003 => if x71 < x70 then (if 0 ≤ x71 then (if x71 < (x69.length : Int) then (ir_Check.l2 k (rd_LIns x69 x71) x69 x70 x71 (rd_LIns x69 x71) ((rd_LIns x69 x71).length : Int) 0 x195000 x195001 x195002 x195003) else (none)) else (none)) else (some 0)
def ir_Check.l2 : Nat → List (SIns) → List (List (SIns)) → Int → Int → List (SIns) → Int → Int → ByteArray → Int → Int → List (List (SIns)) → Option (Int)
 | 0, _, _, _, _, _, _, _, _, _, _, _ => none
 | k + 1, x7, x69, x70, x71, x75, x76, x77, x195000, x195001, x195002, x195003 => if x77 < x76 then (if 0 ≤ x77 then (if x77 < (x75.length : Int) then ((ir_one.f k x195000 x195001 x195002 x195003 ((rd_TIns x75 x77).f0) ((rd_TIns x75 x77).f1) ((rd_TIns x75 x77).f2) ((rd_TIns x75 x77).f3) ((rd_TIns x75 x77).f4) ((rd_TIns x75 x77).f5) (x77 == (wrap64 ((x7.length : Int) - 1)))).bind fun t200 => (if t200 = 0 then (ir_Check.l2 k x7 x69 x70 x71 x75 x76 (wrap64 (x77 + 1)) x195000 x195001 x195002 x195003) else (some t200))) else (none)) else (none)) else (ir_Check.l1 k x69 x70 (wrap64 (x71 + 1)) x195000 x195001 x195002 x195003)
end
def ir_Check.f (k : Nat) (a0_0 : ByteArray) (a0_1 : Int) (a0_2 : Int) (l0_3 : List (List (SIns))) : Option (Int) := (ir_Name.f a0_0).bind fun t195 => (if t195 = true then (if a0_1 < 0 then (ir_Check.j0 k true a0_0 a0_1 a0_2 l0_3) else (if a0_1 > 4 then (ir_Check.j0 k true a0_0 a0_1 a0_2 l0_3) else (if a0_2 < a0_1 then (ir_Check.j0 k true a0_0 a0_1 a0_2 l0_3) else (if a0_2 > 64 then (ir_Check.j0 k true a0_0 a0_1 a0_2 l0_3) else (if (l0_3.length : Int) < 1 then (ir_Check.j0 k true a0_0 a0_1 a0_2 l0_3) else (ir_Check.j0 k (decide ((l0_3.length : Int) > 32)) a0_0 a0_1 a0_2 l0_3)))))) else (some 70))
theorem ir_Check.mono_l : ∀ k, (∀ y0 y1 y2 y3 y4, LeO (ir_Check.j0 k y0 y1 y2 y3 y4) (ir_Check.j0 (k + 1) y0 y1 y2 y3 y4)) ∧ (∀ y0 y1 y2 y3 y4 y5 y6 y7, LeO (ir_Check.l0 k y0 y1 y2 y3 y4 y5 y6 y7) (ir_Check.l0 (k + 1) y0 y1 y2 y3 y4 y5 y6 y7)) ∧ (∀ y0 y1 y2 y3 y4 y5 y6, LeO (ir_Check.l1 k y0 y1 y2 y3 y4 y5 y6) (ir_Check.l1 (k + 1) y0 y1 y2 y3 y4 y5 y6)) ∧ (∀ y0 y1 y2 y3 y4 y5 y6 y7 y8 y9 y10, LeO (ir_Check.l2 k y0 y1 y2 y3 y4 y5 y6 y7 y8 y9 y10) (ir_Check.l2 (k + 1) y0 y1 y2 y3 y4 y5 y6 y7 y8 y9 y10))
 | 0 => ⟨fun _ _ _ _ _ r h => by simp [ir_Check.j0] at h, fun _ _ _ _ _ _ _ _ r h => by simp [ir_Check.l0] at h, fun _ _ _ _ _ _ _ r h => by simp [ir_Check.l1] at h, fun _ _ _ _ _ _ _ _ _ _ _ r h => by simp [ir_Check.l2] at h⟩
 | k + 1 => by
  obtain ⟨ih0, ih1, ih2, ih3⟩ := ir_Check.mono_l k
  refine ⟨?_, ?_, ?_, ?_⟩ <;> intros <;> (first | unfold ir_Check.j0 | unfold ir_Check.l0 | unfold ir_Check.l1 | unfold ir_Check.l2) <;> repeat' first | (with_reducible exact ih0 _ _ _ _ _) | (with_reducible exact ih1 _ _ _ _ _ _ _ _) | (with_reducible exact ih2 _ _ _ _ _ _ _) | (with_reducible exact ih3 _ _ _ _ _ _ _ _ _ _ _) | (with_reducible exact ir_one.mono _ _ _ _ _ _ _ _ _ _ _ _) | (with_reducible exact LeO.refl _) | (with_reducible exact LeO.none _) | (with_reducible refine LeO.ite ?_ ?_) | (with_reducible refine LeO.bind ?_ (fun _ => ?_)) | exact LeO.none _ | refine LeO.ite ?_ ?_ | refine LeO.bind ?_ (fun _ => ?_)
theorem ir_Check.mono : ∀ a0 a1 a2 a3 k, LeO (ir_Check.f k a0 a1 a2 a3) (ir_Check.f (k + 1) a0 a1 a2 a3) := by
 intro a0 a1 a2 a3 k
 obtain ⟨ih0, ih1, ih2, ih3⟩ := ir_Check.mono_l k
 unfold ir_Check.f
 repeat' first | (with_reducible exact ih0 _ _ _ _ _) | (with_reducible exact ih1 _ _ _ _ _ _ _ _) | (with_reducible exact ih2 _ _ _ _ _ _ _) | (with_reducible exact ih3 _ _ _ _ _ _ _ _ _ _ _) | (with_reducible exact ir_one.mono _ _ _ _ _ _ _ _ _ _ _ _) | (with_reducible exact LeO.refl _) | (with_reducible exact LeO.none _) | (with_reducible refine LeO.ite ?_ ?_) | (with_reducible refine LeO.bind ?_ (fun _ => ?_)) | exact LeO.none _ | refine LeO.ite ?_ ?_ | refine LeO.bind ?_ (fun _ => ?_)
set_option maxHeartbeats 8000000 in
set_option maxRecDepth 100000 in
theorem ir_Check.calls (k : Nat) (a0_0 : ByteArray) (a0_1 : Int) (a0_2 : Int) (A0_3 : Option Addr) (c0_3 : Nat) (l0_3 : List (List (SIns))) (r : Int) (w : World) (hL : LaidW w) (hr0_3 : Kd.C (Kd.slice 31 kIns) w A0_3 l0_3.length l0_3) (hc0_3 : l0_3.length ≤ c0_3) (h : ir_Check.f k a0_0 a0_1 a0_2 l0_3 = some r) :
  Calls Tryd.prog 49 #[.agg #[.string a0_0, .int .i64 a0_1, .int .i64 a0_2, .slice A0_3 l0_3.length c0_3]] w fun e w' => e = .returned (.int .i64 r) ∧ Below w.heap.size w w' := by
 have hu34 := Tryd.underlying34
 have hu31 := Tryd.underlying31
 have HR0_3 := Aside0.mk hr0_3
 have HC0_3 := Aside0.mk hc0_3
 clear hr0_3 hc0_3
 have HB := Aside0.mk (Below.refl w.heap.size w)
 have HLd := Aside0.mk hL
 clear hL
 have H := h; clear h; unfold ir_Check.f at H
 replace H := qb H; obtain ⟨t195, A2, H⟩ := H
 by_cases c3 : t195 = true
 ·subst c3
  have H1 : (if a0_1 < 0 then (ir_Check.j0 k true a0_0 a0_1 a0_2 l0_3) else (if a0_1 > 4 then (ir_Check.j0 k true a0_0 a0_1 a0_2 l0_3) else (if a0_2 < a0_1 then (ir_Check.j0 k true a0_0 a0_1 a0_2 l0_3) else (if a0_2 > 64 then (ir_Check.j0 k true a0_0 a0_1 a0_2 l0_3) else (if (l0_3.length : Int) < 1 then (ir_Check.j0 k true a0_0 a0_1 a0_2 l0_3) else (ir_Check.j0 k (decide ((l0_3.length : Int) > 32)) a0_0 a0_1 a0_2 l0_3)))))) = some r := by rw [if_pos rfl] at H; exact H
  clear H
  have H := H1
  clear H1
  have HC4 := Aside0.mk H
  clear H
  go_enter Tryd.func49, Tryd.ntmps49
  go_upto_region 3 with (first | ((with_reducible refine gate_dst (N := 1) rfl ?_); (try (refine gate_guard (by rfl) ?_; dsimp only)); refine box_event (by rfl) (N := 1) (by rfl) (cs := #[.string a0_0, .int .i64 a0_1, .int .i64 a0_2, .slice A0_3 l0_3.length c0_3]) (t := 34) ?hr ?_; (case hr => first | (go_simp; done) | (go_simp; rfl)); intro gb194 hg w5 hbox hb; have BK194 := Aside0.mk (hbox); have GW194 := qG hg; have GE194 := GW194; replace HB := qH hb; clear hb hbox hg; obtain ⟨hcz6_0, hcz6_1, hcz6_2, hcz6_3, hfz6_0, hfz6_1, hfz6_2, hfz6_3⟩ := bk4 BK194.out) | ((with_reducible refine gate_callee (f := 40) rfl ?_); refine goesL_ (some 13) rfl rfl Tryd.func40 (by kernel_rfl) rfl #[.string a0_0] rfl qL ?_; (with_reducible refine (ir_Name.calls a0_0 true _ A2.out).mono ?_); rintro e w7 ⟨rfl, hb⟩; refine ⟨_, rfl, ?_⟩; replace BK194 := qW BK194 hb; replace HB := qH hb; (try clear hb)))
  (try simp only [Act.put, List.setIfInBounds_toArray, List.set_cons_zero, List.set_cons_succ])
  go_cut [46] (fun v46 wc => ∃ (kq : Nat) (x46_3 : Bool), v46 = .bool x46_3 ∧ Aside0 (ir_Check.j0 kq x46_3 a0_0 a0_1 a0_2 l0_3 = some r) ∧ Aside0 (kq ≤ k) ∧ Aside0 (wc.heap[gb194]? = some (.cells #[.string a0_0, .int .i64 a0_1, .int .i64 a0_2, (.slice A0_3 l0_3.length c0_3)] 34 (0, 0))) ∧ Aside0 (Below w.heap.size w wc))
  case first =>
   have H := HC4.out
   clear HC4
   by_cases c8 : a0_1 < 0
   ·rw [if_pos c8] at H
    have c8b0 := decide_eq_true c8
    clear c8
    (first | rw [c8b0] | (simp only [i64_w, i32_w]; rw [c8b0]) | skip)
    have H' := Aside0.mk H
    clear H
    obtain ⟨hcz9_0, hcz9_1, hcz9_2, hcz9_3, hfz9_0, hfz9_1, hfz9_2, hfz9_3⟩ := bk4 BK194.out
    go_wp2
    go_meet
    case rel => exact ⟨_, (true), qT, H', ⟨qO⟩, ⟨qK BK194.out⟩, ⟨qB⟩⟩
   ·rw [if_neg c8] at H
    have c8b0 := decide_eq_false c8
    clear c8
    (first | rw [c8b0] | (simp only [i64_w, i32_w]; rw [c8b0]) | skip)
    by_cases c10 : a0_1 > 4
    ·rw [if_pos c10] at H
     have c10b0 : decide (4 < a0_1) = true := decide_eq_true c10
     clear c10
     have H' := Aside0.mk H
     clear H
     obtain ⟨hcz11_0, hcz11_1, hcz11_2, hcz11_3, hfz11_0, hfz11_1, hfz11_2, hfz11_3⟩ := bk4 BK194.out
     go_wp2
     go_meet
     case rel => exact ⟨_, (true), qT, H', ⟨qO⟩, ⟨qK BK194.out⟩, ⟨qB⟩⟩
    ·rw [if_neg c10] at H
     have c10b0 : decide (4 < a0_1) = false := decide_eq_false c10
     clear c10
     by_cases c12 : a0_2 < a0_1
     ·rw [if_pos c12] at H
      have c12b0 := decide_eq_true c12
      clear c12
      have H' := Aside0.mk H
      clear H
      obtain ⟨hcz13_0, hcz13_1, hcz13_2, hcz13_3, hfz13_0, hfz13_1, hfz13_2, hfz13_3⟩ := bk4 BK194.out
      go_wp2
      go_meet
      case rel => exact ⟨_, (true), qT, H', ⟨qO⟩, ⟨qK BK194.out⟩, ⟨qB⟩⟩
     ·rw [if_neg c12] at H
      have c12b0 := decide_eq_false c12
      clear c12
      by_cases c14 : a0_2 > 64
      ·rw [if_pos c14] at H
       have c14b0 : decide (64 < a0_2) = true := decide_eq_true c14
       clear c14
       have H' := Aside0.mk H
       clear H
       obtain ⟨hcz15_0, hcz15_1, hcz15_2, hcz15_3, hfz15_0, hfz15_1, hfz15_2, hfz15_3⟩ := bk4 BK194.out
       go_wp2
       go_meet
       case rel => exact ⟨_, (true), qT, H', ⟨qO⟩, ⟨qK BK194.out⟩, ⟨qB⟩⟩
      ·rw [if_neg c14] at H
       have c14b0 : decide (64 < a0_2) = false := decide_eq_false c14
       clear c14
       by_cases c16 : (l0_3.length : Int) < 1
       ·rw [if_pos c16] at H
        have c16b0 := decide_eq_true c16
        have c16b1 : decide (l0_3.length < 1) = true := decide_eq_true (by omega)
        clear c16
        have H' := Aside0.mk H
        clear H
        obtain ⟨hcz17_0, hcz17_1, hcz17_2, hcz17_3, hfz17_0, hfz17_1, hfz17_2, hfz17_3⟩ := bk4 BK194.out
        go_wp2
        go_meet
        case rel => exact ⟨_, (true), qT, H', ⟨qO⟩, ⟨qK BK194.out⟩, ⟨qB⟩⟩
       ·rw [if_neg c16] at H
        have c16b0 := decide_eq_false c16
        have c16b1 : decide (l0_3.length < 1) = false := decide_eq_false (by omega)
        clear c16
        have H' := Aside0.mk H
        clear H
        obtain ⟨hcz18_0, hcz18_1, hcz18_2, hcz18_3, hfz18_0, hfz18_1, hfz18_2, hfz18_3⟩ := bk4 BK194.out
        go_wp2
        go_meet
        case rel => exact ⟨_, (decide ((l0_3.length : Int) > 32)), qT, H', ⟨qO⟩, ⟨qK BK194.out⟩, ⟨qB⟩⟩
  case rest =>
   clear HC4
   try clear c1; try clear p2; try clear c3; try clear c4; try clear c8; try clear c8b0; try clear c10; try clear c10b0; try clear c12; try clear c12b0; try clear c14; try clear c14b0; try clear c16; try clear c16b0 c16b1; try clear hcz11_0 hcz11_1 hcz11_2 hcz11_3 hfz11_0 hfz11_1 hfz11_2 hfz11_3; try clear hcz13_0 hcz13_1 hcz13_2 hcz13_3 hfz13_0 hfz13_1 hfz13_2 hfz13_3; try clear hcz15_0 hcz15_1 hcz15_2 hcz15_3 hfz15_0 hfz15_1 hfz15_2 hfz15_3; try clear hcz17_0 hcz17_1 hcz17_2 hcz17_3 hfz17_0 hfz17_1 hfz17_2 hfz17_3; try clear hcz18_0 hcz18_1 hcz18_2 hcz18_3 hfz18_0 hfz18_1 hfz18_2 hfz18_3; try clear hcz6_0 hcz6_1 hcz6_2 hcz6_3 hfz6_0 hfz6_1 hfz6_2 hfz6_3; try clear hcz9_0 hcz9_1 hcz9_2 hcz9_3 hfz9_0 hfz9_1 hfz9_2 hfz9_3
   obtain ⟨kq, x46_3, rfl, HA, HJ3, BK194, HB⟩ := hcut
   cases kq with
   | zero => exact absurd HA.out (by simp [ir_Check.j0])
   | succ kj3 =>
    have H := HA.out
    clear HA
    simp only [ir_Check.j0] at H
    by_cases c19 : x46_3 = true
    ·subst c19
     have H1 : (some 71) = some r := by rw [if_pos rfl] at H; exact H
     clear H
     have H := H1
     clear H1
     obtain rfl := Option.some.inj H
     go_wp2
     go_ret
     exact ⟨qE, qB⟩
    ·replace c19 := Bool.eq_false_iff.mpr c19
     subst c19
     have H1 : (ir_Check.l0 kj3 200 l0_3 (l0_3.length : Int) 0 a0_0 a0_1 a0_2 l0_3) = some r := by rw [if_neg (show ¬ (false = true) by decide)] at H; exact H
     clear H
     have H := H1
     clear H1
     have H' := Aside0.mk H
     clear H
     obtain ⟨hcz20_0, hcz20_1, hcz20_2, hcz20_3, hfz20_0, hfz20_1, hfz20_2, hfz20_3⟩ := bk4 BK194.out
     go_wp2
     go_loopg [3, 50] kj3 (fun kq v3 v50 w' => ∃ (x3_2 : Int) (x50_2 : Int), v3 = .int .i64 x3_2 ∧ v50 = .int .i64 x50_2 ∧ Aside0 (ir_Check.l0 kq x3_2 l0_3 (l0_3.length : Int) x50_2 a0_0 a0_1 a0_2 l0_3 = some r) ∧ Aside0 (kq ≤ kj3) ∧ Aside0 (w'.heap[gb194]? = some (.cells #[.string a0_0, .int .i64 a0_1, .int .i64 a0_2, (.slice A0_3 l0_3.length c0_3)] 34 (0, 0))) ∧ Aside0 (Below w.heap.size w w'))
     case atStart => exact ⟨(200), (0), qT, qT, H', ⟨Nat.le_refl _⟩, ⟨qK BK194.out⟩, ⟨qB⟩⟩
     case round =>
      clear H'
      try clear c1; try clear p2; try clear c3; try clear c4; try clear c8; try clear c8b0; try clear c10; try clear c10b0; try clear c12; try clear c12b0; try clear c14; try clear c14b0; try clear c16; try clear c16b0 c16b1; try clear c19; try clear hcz11_0 hcz11_1 hcz11_2 hcz11_3 hfz11_0 hfz11_1 hfz11_2 hfz11_3; try clear hcz13_0 hcz13_1 hcz13_2 hcz13_3 hfz13_0 hfz13_1 hfz13_2 hfz13_3; try clear hcz15_0 hcz15_1 hcz15_2 hcz15_3 hfz15_0 hfz15_1 hfz15_2 hfz15_3; try clear hcz17_0 hcz17_1 hcz17_2 hcz17_3 hfz17_0 hfz17_1 hfz17_2 hfz17_3; try clear hcz18_0 hcz18_1 hcz18_2 hcz18_3 hfz18_0 hfz18_1 hfz18_2 hfz18_3; try clear hcz20_0 hcz20_1 hcz20_2 hcz20_3 hfz20_0 hfz20_1 hfz20_2 hfz20_3; try clear hcz6_0 hcz6_1 hcz6_2 hcz6_3 hfz6_0 hfz6_1 hfz6_2 hfz6_3; try clear hcz9_0 hcz9_1 hcz9_2 hcz9_3 hfz9_0 hfz9_1 hfz9_2 hfz9_3
      obtain ⟨x3_2, x50_2, rfl, rfl, HA, HK2, BK194, HB⟩ := hrel
      cases gk with
      | zero => exact absurd HA.out (by simp [ir_Check.l0])
      | succ k2 =>
       have H := HA.out
       clear HA
       simp only [ir_Check.l0] at H
       by_cases c21 : x50_2 < (l0_3.length : Int)
       ·rw [if_pos c21] at H
        have c21b0 := decide_eq_true c21
        clear c21
        by_cases c22 : 0 ≤ x50_2
        ·rw [if_pos c22] at H
         have c22b0 := decide_eq_true c22
         clear c22
         by_cases c23 : x50_2 < (l0_3.length : Int)
         ·rw [if_pos c23] at H
          have c23b0 := decide_eq_true c23
          clear c23
          by_cases c24 : ((rd_LIns l0_3 x50_2).length : Int) = 0
          ·rw [if_pos c24] at H
           obtain ⟨c24b0, c24b1⟩ := qe c24; clear c24
           obtain rfl := Option.some.inj H
           have p196 : 0 ≤ (x50_2 : Int) := of_decide_eq_true qA
           have q196 : x50_2 < (l0_3.length : Int) := of_decide_eq_true qA
           obtain ⟨ad196, A196_0, c196_0, e196, hx196_0, hl196_0, hi196_0⟩ := at_LIns HR0_3.out x50_2 p196 q196
           cases e196
           replace hx196_0 := (HB.out.cell (World.block_lt_of_cell? w _ hx196_0)).trans hx196_0
           have HR196_0 := Aside0.mk hi196_0
           have HC196_0 := Aside0.mk hl196_0
           clear hi196_0 hl196_0
           replace p196 := eq_true p196
           replace q196 := eq_true q196
           go_wp2
           go_ret
           exact ⟨qE, qB⟩
          ·rw [if_neg c24] at H
           obtain ⟨c24b0, c24b1⟩ := qn c24
           have c24b2 : ¬ ((rd_LIns l0_3 x50_2) = []) := fun h_ => c24 (by rw [h_]; rfl)
           by_cases c25 : ((rd_LIns l0_3 x50_2).length : Int) > x3_2
           ·rw [if_pos c25] at H
            have c25b0 : decide (x3_2 < ((rd_LIns l0_3 x50_2).length : Int)) = true := decide_eq_true c25
            clear c25
            obtain rfl := Option.some.inj H
            have p196 : 0 ≤ (x50_2 : Int) := of_decide_eq_true qA
            have q196 : x50_2 < (l0_3.length : Int) := of_decide_eq_true qA
            obtain ⟨ad196, A196_0, c196_0, e196, hx196_0, hl196_0, hi196_0⟩ := at_LIns HR0_3.out x50_2 p196 q196
            cases e196
            replace hx196_0 := (HB.out.cell (World.block_lt_of_cell? w _ hx196_0)).trans hx196_0
            have HR196_0 := Aside0.mk hi196_0
            have HC196_0 := Aside0.mk hl196_0
            clear hi196_0 hl196_0
            replace p196 := eq_true p196
            replace q196 := eq_true q196
            go_wp2
            go_ret
            exact ⟨qE, qB⟩
           ·rw [if_neg c25] at H
            have c25b0 : decide (x3_2 < ((rd_LIns l0_3 x50_2).length : Int)) = false := decide_eq_false c25
            clear c25
            have H' := Aside0.mk H
            clear H
            have p196 : 0 ≤ (x50_2 : Int) := of_decide_eq_true qA
            have q196 : x50_2 < (l0_3.length : Int) := of_decide_eq_true qA
            obtain ⟨ad196, A196_0, c196_0, e196, hx196_0, hl196_0, hi196_0⟩ := at_LIns HR0_3.out x50_2 p196 q196
            cases e196
            replace hx196_0 := (HB.out.cell (World.block_lt_of_cell? w _ hx196_0)).trans hx196_0
            have HR196_0 := Aside0.mk hi196_0
            have HC196_0 := Aside0.mk hl196_0
            clear hi196_0 hl196_0
            replace p196 := eq_true p196
            replace q196 := eq_true q196
            go_wp2
            go_roundg k2
            case measure => have := HJ3.out; have := HK2.out; omega
            case rel => exact ⟨(wrap64 (x3_2 - ((rd_LIns l0_3 x50_2).length : Int))), (wrap64 (x50_2 + 1)), qT, qT, H', ⟨by have := HJ3.out; have := HK2.out; omega⟩, ⟨qK BK194.out⟩, ⟨qB⟩⟩
         ·rw [if_neg c23] at H
          exact absurd H (by simp)
        ·rw [if_neg c22] at H
         exact absurd H (by simp)
       ·rw [if_neg c21] at H
        have c21b0 := decide_eq_false c21
        clear c21
        have H' := Aside0.mk H
        clear H
        obtain ⟨hcz26_0, hcz26_1, hcz26_2, hcz26_3, hfz26_0, hfz26_1, hfz26_2, hfz26_3⟩ := bk4 BK194.out
        go_wp2
        go_loopg [71] k2 (fun kq v71 w' => ∃ (x71_3 : Int), v71 = .int .i64 x71_3 ∧ Aside0 (ir_Check.l1 kq l0_3 (l0_3.length : Int) x71_3 a0_0 a0_1 a0_2 l0_3 = some r) ∧ Aside0 (kq ≤ k2) ∧ Aside0 (w'.heap[gb194]? = some (.cells #[.string a0_0, .int .i64 a0_1, .int .i64 a0_2, (.slice A0_3 l0_3.length c0_3)] 34 (0, 0))) ∧ Aside0 (Below w.heap.size w w'))
        case atStart => exact ⟨(0), qT, H', ⟨Nat.le_refl _⟩, ⟨qK BK194.out⟩, ⟨qB⟩⟩
        case round =>
         clear H'
         try clear c1; try clear p1; try clear q1; try clear hx1; try clear c2; try clear p2; try clear c3; try clear c4; try clear p6; try clear c8; try clear c8b0; try clear c10; try clear c10b0; try clear c12; try clear c12b0; try clear c14; try clear c14b0; try clear c16; try clear c16b0 c16b1; try clear c19; try clear p19; try clear q19; try clear hx19; try clear c21; try clear c21b0; try clear c22; try clear c22b0; try clear c23; try clear c23b0; try clear c24; try clear c24b0 c24b1 c24b2; try clear c25; try clear c25b0; try clear hcz11_0 hcz11_1 hcz11_2 hcz11_3 hfz11_0 hfz11_1 hfz11_2 hfz11_3; try clear hcz13_0 hcz13_1 hcz13_2 hcz13_3 hfz13_0 hfz13_1 hfz13_2 hfz13_3; try clear hcz15_0 hcz15_1 hcz15_2 hcz15_3 hfz15_0 hfz15_1 hfz15_2 hfz15_3; try clear hcz17_0 hcz17_1 hcz17_2 hcz17_3 hfz17_0 hfz17_1 hfz17_2 hfz17_3; try clear hcz18_0 hcz18_1 hcz18_2 hcz18_3 hfz18_0 hfz18_1 hfz18_2 hfz18_3; try clear hcz20_0 hcz20_1 hcz20_2 hcz20_3 hfz20_0 hfz20_1 hfz20_2 hfz20_3; try clear hcz26_0 hcz26_1 hcz26_2 hcz26_3 hfz26_0 hfz26_1 hfz26_2 hfz26_3; try clear hcz6_0 hcz6_1 hcz6_2 hcz6_3 hfz6_0 hfz6_1 hfz6_2 hfz6_3; try clear hcz9_0 hcz9_1 hcz9_2 hcz9_3 hfz9_0 hfz9_1 hfz9_2 hfz9_3; try clear hx196_0; try clear p196; try clear q196
         obtain ⟨x71_3, rfl, HA, HK3, BK194, HB⟩ := hrel
         cases gk with
         | zero => exact absurd HA.out (by simp [ir_Check.l1])
         | succ k3 =>
          have H := HA.out
          clear HA
          simp only [ir_Check.l1] at H
          by_cases c27 : x71_3 < (l0_3.length : Int)
          ·rw [if_pos c27] at H
           have c27b0 := decide_eq_true c27
           clear c27
           by_cases c28 : 0 ≤ x71_3
           ·rw [if_pos c28] at H
            have c28b0 := decide_eq_true c28
            clear c28
            by_cases c29 : x71_3 < (l0_3.length : Int)
            ·rw [if_pos c29] at H
             have c29b0 := decide_eq_true c29
             clear c29
             have H' := Aside0.mk H
             clear H
             have p197 : 0 ≤ (x71_3 : Int) := of_decide_eq_true qA
             have q197 : x71_3 < (l0_3.length : Int) := of_decide_eq_true qA
             obtain ⟨ad197, A197_0, c197_0, e197, hx197_0, hl197_0, hi197_0⟩ := at_LIns HR0_3.out x71_3 p197 q197
             cases e197
             replace hx197_0 := (HB.out.cell (World.block_lt_of_cell? w _ hx197_0)).trans hx197_0
             have HR197_0 := Aside0.mk hi197_0
             have HC197_0 := Aside0.mk hl197_0
             clear hi197_0 hl197_0
             replace p197 := eq_true p197
             replace q197 := eq_true q197
             go_wp2
             go_loopg [77] k3 (fun kq v77 w' => ∃ (x77_4 : Int), v77 = .int .i64 x77_4 ∧ Aside0 (ir_Check.l2 kq (rd_LIns l0_3 x71_3) l0_3 (l0_3.length : Int) x71_3 (rd_LIns l0_3 x71_3) ((rd_LIns l0_3 x71_3).length : Int) x77_4 a0_0 a0_1 a0_2 l0_3 = some r) ∧ Aside0 (kq ≤ k3) ∧ Aside0 (w'.heap[gb194]? = some (.cells #[.string a0_0, .int .i64 a0_1, .int .i64 a0_2, (.slice (some ad197) l0_3.length c0_3)] 34 (0, 0))) ∧ Aside0 (Below w.heap.size w w'))
             case atStart => exact ⟨(0), qT, H', ⟨Nat.le_refl _⟩, ⟨qK BK194.out⟩, ⟨qB⟩⟩
             case round =>
              clear H'
              try clear c1; try clear p1; try clear q1; try clear hx1; try clear c2; try clear p2; try clear c3; try clear c4; try clear p6; try clear c8; try clear c8b0; try clear c10; try clear c10b0; try clear c12; try clear c12b0; try clear c14; try clear c14b0; try clear c16; try clear c16b0 c16b1; try clear c19; try clear p19; try clear q19; try clear hx19; try clear c21; try clear c21b0; try clear c22; try clear c22b0; try clear c23; try clear c23b0; try clear c24; try clear c24b0 c24b1 c24b2; try clear c25; try clear c25b0; try clear c27; try clear c27b0; try clear c28; try clear c28b0; try clear c29; try clear c29b0; try clear hcz11_0 hcz11_1 hcz11_2 hcz11_3 hfz11_0 hfz11_1 hfz11_2 hfz11_3; try clear hcz13_0 hcz13_1 hcz13_2 hcz13_3 hfz13_0 hfz13_1 hfz13_2 hfz13_3; try clear hcz15_0 hcz15_1 hcz15_2 hcz15_3 hfz15_0 hfz15_1 hfz15_2 hfz15_3; try clear hcz17_0 hcz17_1 hcz17_2 hcz17_3 hfz17_0 hfz17_1 hfz17_2 hfz17_3; try clear hcz18_0 hcz18_1 hcz18_2 hcz18_3 hfz18_0 hfz18_1 hfz18_2 hfz18_3; try clear hcz20_0 hcz20_1 hcz20_2 hcz20_3 hfz20_0 hfz20_1 hfz20_2 hfz20_3; try clear hcz26_0 hcz26_1 hcz26_2 hcz26_3 hfz26_0 hfz26_1 hfz26_2 hfz26_3; try clear hcz6_0 hcz6_1 hcz6_2 hcz6_3 hfz6_0 hfz6_1 hfz6_2 hfz6_3; try clear hcz9_0 hcz9_1 hcz9_2 hcz9_3 hfz9_0 hfz9_1 hfz9_2 hfz9_3; try clear hx196_0; try clear hx197_0; try clear p196; try clear p197; try clear q196; try clear q197
              obtain ⟨x77_4, rfl, HA, HK4, BK194, HB⟩ := hrel
              cases gk with
              | zero => exact absurd HA.out (by simp [ir_Check.l2])
              | succ k4 =>
               have H := HA.out
               clear HA
               simp only [ir_Check.l2] at H
               by_cases c30 : x77_4 < ((rd_LIns l0_3 x71_3).length : Int)
               ·rw [if_pos c30] at H
                have c30b0 := decide_eq_true c30
                clear c30
                by_cases c31 : 0 ≤ x77_4
                ·rw [if_pos c31] at H
                 have c31b0 := decide_eq_true c31
                 clear c31
                 by_cases c32 : x77_4 < ((rd_LIns l0_3 x71_3).length : Int)
                 ·rw [if_pos c32] at H
                  have c32b0 := decide_eq_true c32
                  clear c32
                  replace H := qb H; obtain ⟨t200, A33, H⟩ := H
                  by_cases c34 : t200 = 0
                  ·rw [if_pos c34] at H
                   obtain ⟨c34b0, c34b1⟩ := qe c34; clear c34
                   have H' := Aside0.mk H
                   clear H
                   have p198 : 0 ≤ (x77_4 : Int) := of_decide_eq_true qA
                   have q198 : x77_4 < ((rd_LIns l0_3 x71_3).length : Int) := of_decide_eq_true qA
                   obtain ⟨ad198, A198_5, c198_5, e198, hx198_0, hx198_1, hx198_2, hx198_3, hx198_4, hx198_5, hl198_5, hi198_5⟩ := at_TIns HR197_0.out x77_4 p198 q198
                   cases e198
                   replace hx198_0 := (HB.out.cell (World.block_lt_of_cell? w _ hx198_0)).trans hx198_0
                   replace hx198_1 := (HB.out.cell (World.block_lt_of_cell? w _ hx198_1)).trans hx198_1
                   replace hx198_2 := (HB.out.cell (World.block_lt_of_cell? w _ hx198_2)).trans hx198_2
                   replace hx198_3 := (HB.out.cell (World.block_lt_of_cell? w _ hx198_3)).trans hx198_3
                   replace hx198_4 := (HB.out.cell (World.block_lt_of_cell? w _ hx198_4)).trans hx198_4
                   replace hx198_5 := (HB.out.cell (World.block_lt_of_cell? w _ hx198_5)).trans hx198_5
                   have HR198_5 := Aside0.mk hi198_5
                   have HC198_5 := Aside0.mk hl198_5
                   clear hi198_5 hl198_5
                   replace p198 := eq_true p198
                   replace q198 := eq_true q198
                   go_wp2_with (first | ((with_reducible refine gate_dst (N := 9) rfl ?_); (try (refine gate_guard (by rfl) ?_; dsimp only)); refine box_event (by rfl) (N := 9) (by rfl) (cs := #[.int .i64 0, .int .i64 0, .int .i64 0, .int .i64 0, .string (⟨#[]⟩ : ByteArray), .slice none 0 0]) (t := 31) ?hr ?_; (case hr => first | (go_simp; done) | (go_simp; rfl)); intro gb199 hg w35 hbox hb; have BK199 := Aside0.mk (hbox); have GW199 := qG hg; have GE199 := GW199; replace HB := qH hb; have NB194_199 := Aside0.mk ((by rw [hg]; exact Nat.ne_of_lt (blk_lt (g := gb194) (o := .cells #[.string a0_0, .int .i64 a0_1, .int .i64 a0_2, .slice (some ad197) l0_3.length c0_3] 34 (0, 0)) (qK BK194.out)) : gb194 ≠ gb199)); have NB199_194 := Aside0.mk ((by rw [hg]; exact Nat.ne_of_gt (blk_lt (g := gb194) (o := .cells #[.string a0_0, .int .i64 a0_1, .int .i64 a0_2, .slice (some ad197) l0_3.length c0_3] 34 (0, 0)) (qK BK194.out)) : gb199 ≠ gb194)); replace BK194 := qW BK194 hb; clear hb hbox hg; have hnb36 := NB199_194.out; have hnc36 := NB194_199.out; obtain ⟨hcz37_0, hcz37_1, hcz37_2, hcz37_3, hcz37_4, hcz37_5, hfz37_0, hfz37_1, hfz37_2, hfz37_3, hfz37_4, hfz37_5⟩ := bk6 BK199.out; obtain ⟨hcz38_0, hcz38_1, hcz38_2, hcz38_3, hfz38_0, hfz38_1, hfz38_2, hfz38_3⟩ := bk4 BK194.out) | ((with_reducible refine gate_callee (f := 72) rfl ?_); refine goesL_ (some 89) rfl rfl Tryd.func72 (by kernel_rfl) rfl #[.agg #[.string a0_0, .int .i64 a0_1, .int .i64 a0_2, .slice (some ad197) l0_3.length c0_3], .agg #[.int .i64 ((rd_TIns (rd_LIns l0_3 x71_3) x77_4).f0), .int .i64 ((rd_TIns (rd_LIns l0_3 x71_3) x77_4).f1), .int .i64 ((rd_TIns (rd_LIns l0_3 x71_3) x77_4).f2), .int .i64 ((rd_TIns (rd_LIns l0_3 x71_3) x77_4).f3), .string ((rd_TIns (rd_LIns l0_3 x71_3) x77_4).f4), .slice A198_5 ((rd_TIns (rd_LIns l0_3 x71_3) x77_4).f5).length c198_5], .bool (x77_4 == (wrap64 (((rd_LIns l0_3 x71_3).length : Int) - 1)))] rfl qL ?_; (with_reducible refine (ir_one.calls k4 a0_0 a0_1 a0_2 _ _ l0_3 ((rd_TIns (rd_LIns l0_3 x71_3) x77_4).f0) ((rd_TIns (rd_LIns l0_3 x71_3) x77_4).f1) ((rd_TIns (rd_LIns l0_3 x71_3) x77_4).f2) ((rd_TIns (rd_LIns l0_3 x71_3) x77_4).f3) ((rd_TIns (rd_LIns l0_3 x71_3) x77_4).f4) _ _ ((rd_TIns (rd_LIns l0_3 x71_3) x77_4).f5) (x77_4 == (wrap64 (((rd_LIns l0_3 x71_3).length : Int) - 1))) t200 _ ?side1 ?side2 ?side3 ?side4 A33.out (hL := ?side99)).mono ?_); (case side1 => exact Kd.C_below HR0_3.out qB); (case side2 => exact HC0_3.out); (case side3 => exact Kd.C_below HR198_5.out qB); (case side4 => exact HC198_5.out); (case side99 => exact LaidW.below HLd.out qB); rintro e w39 ⟨rfl, hb⟩; refine ⟨_, rfl, ?_⟩; replace BK194 := Aside0.mk (blk_below (g := gb194) (o := .cells #[.string a0_0, .int .i64 a0_1, .int .i64 a0_2, .slice (some ad197) l0_3.length c0_3] 34 (0, 0)) (by (with_reducible repeat (first | refine blk_drewN ?_ _ | refine blk_drew ?_ | refine blk_alloc ?_ _)); refine blk_far ?_ NB194_199.out _; (with_reducible repeat (first | refine blk_drewN ?_ _ | refine blk_drew ?_ | refine blk_alloc ?_ _)); refine blk_far ?_ NB194_199.out _; (with_reducible repeat (first | refine blk_drewN ?_ _ | refine blk_drew ?_ | refine blk_alloc ?_ _)); refine blk_far ?_ NB194_199.out _; (with_reducible repeat (first | refine blk_drewN ?_ _ | refine blk_drew ?_ | refine blk_alloc ?_ _)); refine blk_far ?_ NB194_199.out _; (with_reducible repeat (first | refine blk_drewN ?_ _ | refine blk_drew ?_ | refine blk_alloc ?_ _)); refine blk_far ?_ NB194_199.out _; (with_reducible repeat (first | refine blk_drewN ?_ _ | refine blk_drew ?_ | refine blk_alloc ?_ _)); refine blk_far ?_ NB194_199.out _; (with_reducible repeat (first | refine blk_drewN ?_ _ | refine blk_drew ?_ | refine blk_alloc ?_ _)); exact BK194.out) hb); replace BK199 := Aside0.mk (blk_below (g := gb199) (o := .cells #[.int .i64 ((rd_TIns (rd_LIns l0_3 x71_3) x77_4).f0), .int .i64 ((rd_TIns (rd_LIns l0_3 x71_3) x77_4).f1), .int .i64 ((rd_TIns (rd_LIns l0_3 x71_3) x77_4).f2), .int .i64 ((rd_TIns (rd_LIns l0_3 x71_3) x77_4).f3), .string ((rd_TIns (rd_LIns l0_3 x71_3) x77_4).f4), .slice A198_5 ((rd_TIns (rd_LIns l0_3 x71_3) x77_4).f5).length c198_5] 31 (0, 0)) (by (with_reducible repeat (first | refine blk_drewN ?_ _ | refine blk_drew ?_ | refine blk_alloc ?_ _)); refine blk_put (cs := #[.int .i64 ((rd_TIns (rd_LIns l0_3 x71_3) x77_4).f0), .int .i64 ((rd_TIns (rd_LIns l0_3 x71_3) x77_4).f1), .int .i64 ((rd_TIns (rd_LIns l0_3 x71_3) x77_4).f2), .int .i64 ((rd_TIns (rd_LIns l0_3 x71_3) x77_4).f3), .string ((rd_TIns (rd_LIns l0_3 x71_3) x77_4).f4), .slice none 0 0]) ?_ 5 _ rfl; (with_reducible repeat (first | refine blk_drewN ?_ _ | refine blk_drew ?_ | refine blk_alloc ?_ _)); refine blk_put (cs := #[.int .i64 ((rd_TIns (rd_LIns l0_3 x71_3) x77_4).f0), .int .i64 ((rd_TIns (rd_LIns l0_3 x71_3) x77_4).f1), .int .i64 ((rd_TIns (rd_LIns l0_3 x71_3) x77_4).f2), .int .i64 ((rd_TIns (rd_LIns l0_3 x71_3) x77_4).f3), .string (⟨#[]⟩ : ByteArray), .slice none 0 0]) ?_ 4 _ rfl; (with_reducible repeat (first | refine blk_drewN ?_ _ | refine blk_drew ?_ | refine blk_alloc ?_ _)); refine blk_put (cs := #[.int .i64 ((rd_TIns (rd_LIns l0_3 x71_3) x77_4).f0), .int .i64 ((rd_TIns (rd_LIns l0_3 x71_3) x77_4).f1), .int .i64 ((rd_TIns (rd_LIns l0_3 x71_3) x77_4).f2), .int .i64 0, .string (⟨#[]⟩ : ByteArray), .slice none 0 0]) ?_ 3 _ rfl; (with_reducible repeat (first | refine blk_drewN ?_ _ | refine blk_drew ?_ | refine blk_alloc ?_ _)); refine blk_put (cs := #[.int .i64 ((rd_TIns (rd_LIns l0_3 x71_3) x77_4).f0), .int .i64 ((rd_TIns (rd_LIns l0_3 x71_3) x77_4).f1), .int .i64 0, .int .i64 0, .string (⟨#[]⟩ : ByteArray), .slice none 0 0]) ?_ 2 _ rfl; (with_reducible repeat (first | refine blk_drewN ?_ _ | refine blk_drew ?_ | refine blk_alloc ?_ _)); refine blk_put (cs := #[.int .i64 ((rd_TIns (rd_LIns l0_3 x71_3) x77_4).f0), .int .i64 0, .int .i64 0, .int .i64 0, .string (⟨#[]⟩ : ByteArray), .slice none 0 0]) ?_ 1 _ rfl; (with_reducible repeat (first | refine blk_drewN ?_ _ | refine blk_drew ?_ | refine blk_alloc ?_ _)); refine blk_put (cs := #[.int .i64 0, .int .i64 0, .int .i64 0, .int .i64 0, .string (⟨#[]⟩ : ByteArray), .slice none 0 0]) ?_ 0 _ rfl; (with_reducible repeat (first | refine blk_drewN ?_ _ | refine blk_drew ?_ | refine blk_alloc ?_ _)); exact BK199.out) hb); replace HB := qH hb))
                   go_roundg k4
                   case measure => have := HJ3.out; have := HK2.out; have := HK3.out; have := HK4.out; omega
                   case rel => exact ⟨(wrap64 (x77_4 + 1)), qT, H', ⟨by have := HJ3.out; have := HK2.out; have := HK3.out; have := HK4.out; omega⟩, ⟨qK BK194.out⟩, ⟨qB⟩⟩
                  ·rw [if_neg c34] at H
                   obtain ⟨c34b0, c34b1⟩ := qn c34
                   obtain rfl := Option.some.inj H
                   have p198 : 0 ≤ (x77_4 : Int) := of_decide_eq_true qA
                   have q198 : x77_4 < ((rd_LIns l0_3 x71_3).length : Int) := of_decide_eq_true qA
                   obtain ⟨ad198, A198_5, c198_5, e198, hx198_0, hx198_1, hx198_2, hx198_3, hx198_4, hx198_5, hl198_5, hi198_5⟩ := at_TIns HR197_0.out x77_4 p198 q198
                   cases e198
                   replace hx198_0 := (HB.out.cell (World.block_lt_of_cell? w _ hx198_0)).trans hx198_0
                   replace hx198_1 := (HB.out.cell (World.block_lt_of_cell? w _ hx198_1)).trans hx198_1
                   replace hx198_2 := (HB.out.cell (World.block_lt_of_cell? w _ hx198_2)).trans hx198_2
                   replace hx198_3 := (HB.out.cell (World.block_lt_of_cell? w _ hx198_3)).trans hx198_3
                   replace hx198_4 := (HB.out.cell (World.block_lt_of_cell? w _ hx198_4)).trans hx198_4
                   replace hx198_5 := (HB.out.cell (World.block_lt_of_cell? w _ hx198_5)).trans hx198_5
                   have HR198_5 := Aside0.mk hi198_5
                   have HC198_5 := Aside0.mk hl198_5
                   clear hi198_5 hl198_5
                   replace p198 := eq_true p198
                   replace q198 := eq_true q198
                   go_wp2_with (first | ((with_reducible refine gate_dst (N := 9) rfl ?_); (try (refine gate_guard (by rfl) ?_; dsimp only)); refine box_event (by rfl) (N := 9) (by rfl) (cs := #[.int .i64 0, .int .i64 0, .int .i64 0, .int .i64 0, .string (⟨#[]⟩ : ByteArray), .slice none 0 0]) (t := 31) ?hr ?_; (case hr => first | (go_simp; done) | (go_simp; rfl)); intro gb199 hg w40 hbox hb; have BK199 := Aside0.mk (hbox); have GW199 := qG hg; have GE199 := GW199; replace HB := qH hb; have NB194_199 := Aside0.mk ((by rw [hg]; exact Nat.ne_of_lt (blk_lt (g := gb194) (o := .cells #[.string a0_0, .int .i64 a0_1, .int .i64 a0_2, .slice (some ad197) l0_3.length c0_3] 34 (0, 0)) (qK BK194.out)) : gb194 ≠ gb199)); have NB199_194 := Aside0.mk ((by rw [hg]; exact Nat.ne_of_gt (blk_lt (g := gb194) (o := .cells #[.string a0_0, .int .i64 a0_1, .int .i64 a0_2, .slice (some ad197) l0_3.length c0_3] 34 (0, 0)) (qK BK194.out)) : gb199 ≠ gb194)); replace BK194 := qW BK194 hb; clear hb hbox hg; have hnb41 := NB199_194.out; have hnc41 := NB194_199.out; obtain ⟨hcz42_0, hcz42_1, hcz42_2, hcz42_3, hcz42_4, hcz42_5, hfz42_0, hfz42_1, hfz42_2, hfz42_3, hfz42_4, hfz42_5⟩ := bk6 BK199.out; obtain ⟨hcz43_0, hcz43_1, hcz43_2, hcz43_3, hfz43_0, hfz43_1, hfz43_2, hfz43_3⟩ := bk4 BK194.out) | ((with_reducible refine gate_callee (f := 72) rfl ?_); refine goesL_ (some 89) rfl rfl Tryd.func72 (by kernel_rfl) rfl #[.agg #[.string a0_0, .int .i64 a0_1, .int .i64 a0_2, .slice (some ad197) l0_3.length c0_3], .agg #[.int .i64 ((rd_TIns (rd_LIns l0_3 x71_3) x77_4).f0), .int .i64 ((rd_TIns (rd_LIns l0_3 x71_3) x77_4).f1), .int .i64 ((rd_TIns (rd_LIns l0_3 x71_3) x77_4).f2), .int .i64 ((rd_TIns (rd_LIns l0_3 x71_3) x77_4).f3), .string ((rd_TIns (rd_LIns l0_3 x71_3) x77_4).f4), .slice A198_5 ((rd_TIns (rd_LIns l0_3 x71_3) x77_4).f5).length c198_5], .bool (x77_4 == (wrap64 (((rd_LIns l0_3 x71_3).length : Int) - 1)))] rfl qL ?_; (with_reducible refine (ir_one.calls k4 a0_0 a0_1 a0_2 _ _ l0_3 ((rd_TIns (rd_LIns l0_3 x71_3) x77_4).f0) ((rd_TIns (rd_LIns l0_3 x71_3) x77_4).f1) ((rd_TIns (rd_LIns l0_3 x71_3) x77_4).f2) ((rd_TIns (rd_LIns l0_3 x71_3) x77_4).f3) ((rd_TIns (rd_LIns l0_3 x71_3) x77_4).f4) _ _ ((rd_TIns (rd_LIns l0_3 x71_3) x77_4).f5) (x77_4 == (wrap64 (((rd_LIns l0_3 x71_3).length : Int) - 1))) t200 _ ?side1 ?side2 ?side3 ?side4 A33.out (hL := ?side99)).mono ?_); (case side1 => exact Kd.C_below HR0_3.out qB); (case side2 => exact HC0_3.out); (case side3 => exact Kd.C_below HR198_5.out qB); (case side4 => exact HC198_5.out); (case side99 => exact LaidW.below HLd.out qB); rintro e w44 ⟨rfl, hb⟩; refine ⟨_, rfl, ?_⟩; replace BK194 := Aside0.mk (blk_below (g := gb194) (o := .cells #[.string a0_0, .int .i64 a0_1, .int .i64 a0_2, .slice (some ad197) l0_3.length c0_3] 34 (0, 0)) (by (with_reducible repeat (first | refine blk_drewN ?_ _ | refine blk_drew ?_ | refine blk_alloc ?_ _)); refine blk_far ?_ NB194_199.out _; (with_reducible repeat (first | refine blk_drewN ?_ _ | refine blk_drew ?_ | refine blk_alloc ?_ _)); refine blk_far ?_ NB194_199.out _; (with_reducible repeat (first | refine blk_drewN ?_ _ | refine blk_drew ?_ | refine blk_alloc ?_ _)); refine blk_far ?_ NB194_199.out _; (with_reducible repeat (first | refine blk_drewN ?_ _ | refine blk_drew ?_ | refine blk_alloc ?_ _)); refine blk_far ?_ NB194_199.out _; (with_reducible repeat (first | refine blk_drewN ?_ _ | refine blk_drew ?_ | refine blk_alloc ?_ _)); refine blk_far ?_ NB194_199.out _; (with_reducible repeat (first | refine blk_drewN ?_ _ | refine blk_drew ?_ | refine blk_alloc ?_ _)); refine blk_far ?_ NB194_199.out _; (with_reducible repeat (first | refine blk_drewN ?_ _ | refine blk_drew ?_ | refine blk_alloc ?_ _)); exact BK194.out) hb); replace BK199 := Aside0.mk (blk_below (g := gb199) (o := .cells #[.int .i64 ((rd_TIns (rd_LIns l0_3 x71_3) x77_4).f0), .int .i64 ((rd_TIns (rd_LIns l0_3 x71_3) x77_4).f1), .int .i64 ((rd_TIns (rd_LIns l0_3 x71_3) x77_4).f2), .int .i64 ((rd_TIns (rd_LIns l0_3 x71_3) x77_4).f3), .string ((rd_TIns (rd_LIns l0_3 x71_3) x77_4).f4), .slice A198_5 ((rd_TIns (rd_LIns l0_3 x71_3) x77_4).f5).length c198_5] 31 (0, 0)) (by (with_reducible repeat (first | refine blk_drewN ?_ _ | refine blk_drew ?_ | refine blk_alloc ?_ _)); refine blk_put (cs := #[.int .i64 ((rd_TIns (rd_LIns l0_3 x71_3) x77_4).f0), .int .i64 ((rd_TIns (rd_LIns l0_3 x71_3) x77_4).f1), .int .i64 ((rd_TIns (rd_LIns l0_3 x71_3) x77_4).f2), .int .i64 ((rd_TIns (rd_LIns l0_3 x71_3) x77_4).f3), .string ((rd_TIns (rd_LIns l0_3 x71_3) x77_4).f4), .slice none 0 0]) ?_ 5 _ rfl; (with_reducible repeat (first | refine blk_drewN ?_ _ | refine blk_drew ?_ | refine blk_alloc ?_ _)); refine blk_put (cs := #[.int .i64 ((rd_TIns (rd_LIns l0_3 x71_3) x77_4).f0), .int .i64 ((rd_TIns (rd_LIns l0_3 x71_3) x77_4).f1), .int .i64 ((rd_TIns (rd_LIns l0_3 x71_3) x77_4).f2), .int .i64 ((rd_TIns (rd_LIns l0_3 x71_3) x77_4).f3), .string (⟨#[]⟩ : ByteArray), .slice none 0 0]) ?_ 4 _ rfl; (with_reducible repeat (first | refine blk_drewN ?_ _ | refine blk_drew ?_ | refine blk_alloc ?_ _)); refine blk_put (cs := #[.int .i64 ((rd_TIns (rd_LIns l0_3 x71_3) x77_4).f0), .int .i64 ((rd_TIns (rd_LIns l0_3 x71_3) x77_4).f1), .int .i64 ((rd_TIns (rd_LIns l0_3 x71_3) x77_4).f2), .int .i64 0, .string (⟨#[]⟩ : ByteArray), .slice none 0 0]) ?_ 3 _ rfl; (with_reducible repeat (first | refine blk_drewN ?_ _ | refine blk_drew ?_ | refine blk_alloc ?_ _)); refine blk_put (cs := #[.int .i64 ((rd_TIns (rd_LIns l0_3 x71_3) x77_4).f0), .int .i64 ((rd_TIns (rd_LIns l0_3 x71_3) x77_4).f1), .int .i64 0, .int .i64 0, .string (⟨#[]⟩ : ByteArray), .slice none 0 0]) ?_ 2 _ rfl; (with_reducible repeat (first | refine blk_drewN ?_ _ | refine blk_drew ?_ | refine blk_alloc ?_ _)); refine blk_put (cs := #[.int .i64 ((rd_TIns (rd_LIns l0_3 x71_3) x77_4).f0), .int .i64 0, .int .i64 0, .int .i64 0, .string (⟨#[]⟩ : ByteArray), .slice none 0 0]) ?_ 1 _ rfl; (with_reducible repeat (first | refine blk_drewN ?_ _ | refine blk_drew ?_ | refine blk_alloc ?_ _)); refine blk_put (cs := #[.int .i64 0, .int .i64 0, .int .i64 0, .int .i64 0, .string (⟨#[]⟩ : ByteArray), .slice none 0 0]) ?_ 0 _ rfl; (with_reducible repeat (first | refine blk_drewN ?_ _ | refine blk_drew ?_ | refine blk_alloc ?_ _)); exact BK199.out) hb); replace HB := qH hb))
                   go_ret
                   exact ⟨qE, qB⟩
                 ·rw [if_neg c32] at H
                  exact absurd H (by simp)
                ·rw [if_neg c31] at H
                 exact absurd H (by simp)
               ·rw [if_neg c30] at H
                have c30b0 := decide_eq_false c30
                clear c30
                have H' := Aside0.mk H
                clear H
                go_wp2
                go_roundg k4
                case measure => have := HJ3.out; have := HK2.out; have := HK3.out; have := HK4.out; omega
                case rel => exact ⟨(wrap64 (x71_3 + 1)), qT, H', ⟨by have := HJ3.out; have := HK2.out; have := HK3.out; have := HK4.out; omega⟩, ⟨qK BK194.out⟩, ⟨qB⟩⟩
            ·rw [if_neg c29] at H
             exact absurd H (by simp)
           ·rw [if_neg c28] at H
            exact absurd H (by simp)
          ·rw [if_neg c27] at H
           have c27b0 := decide_eq_false c27
           clear c27
           obtain rfl := Option.some.inj H
           go_wp2
           go_ret
           exact ⟨qE, qB⟩
 ·replace c3 := Bool.eq_false_iff.mpr c3
  subst c3
  have H1 : (some 70) = some r := by rw [if_neg (show ¬ (false = true) by decide)] at H; exact H
  clear H
  have H := H1
  clear H1
  obtain rfl := Option.some.inj H
  go_enter Tryd.func49, Tryd.ntmps49
  go_wp2_with (first | ((with_reducible refine gate_dst (N := 1) rfl ?_); (try (refine gate_guard (by rfl) ?_; dsimp only)); refine box_event (by rfl) (N := 1) (by rfl) (cs := #[.string a0_0, .int .i64 a0_1, .int .i64 a0_2, .slice A0_3 l0_3.length c0_3]) (t := 34) ?hr ?_; (case hr => first | (go_simp; done) | (go_simp; rfl)); intro gb194 hg w45 hbox hb; have BK194 := Aside0.mk (hbox); have GW194 := qG hg; have GE194 := GW194; replace HB := qH hb; clear hb hbox hg; obtain ⟨hcz46_0, hcz46_1, hcz46_2, hcz46_3, hfz46_0, hfz46_1, hfz46_2, hfz46_3⟩ := bk4 BK194.out) | ((with_reducible refine gate_callee (f := 40) rfl ?_); refine goesL_ (some 13) rfl rfl Tryd.func40 (by kernel_rfl) rfl #[.string a0_0] rfl qL ?_; (with_reducible refine (ir_Name.calls a0_0 false _ A2.out).mono ?_); rintro e w47 ⟨rfl, hb⟩; refine ⟨_, rfl, ?_⟩; replace BK194 := qW BK194 hb; replace HB := qH hb; (try clear hb)))
  go_ret
  exact ⟨qE, qB⟩

end Go.Proofs.YtebnnknijbgekaaDoor.Q
namespace Go.Proofs.YtebnnknijbgekaaDoor.Q
open Go.RowKit Go.Proofs.YtebnnknijbgekaaDoorW.PrintWords Go.Proofs.YtebnnknijbgekaaDoorW.PrintLast Go.Proofs.YtebnnknijbgekaaDoorW.PrintMore
attribute [local go_sem] max2_int min2_int max_two min_two max_three min_three max_four min_four   -- for this text's walks alone
set_option linter.unusedVariables false
set_option linter.unusedSimpArgs false

/-! ### slices_Index_int_int: function 104 -/
def slices_Index_int_int.l0 : Nat → List Int → Int → Int → Int → Option (Int)
 | 0, _, _, _, _ => none
 | k + 1, x0, x1, x7, x8 => if x8 < x7 then (if 0 ≤ x8 then (if x8 < (x0.length : Int) then (if x1 = (rd x0 x8) then (some x8) else (slices_Index_int_int.l0 k x0 x1 x7 (wrap64 (x8 + 1)))) else (none)) else (none)) else (some (-1))
def slices_Index_int_int.f (k : Nat) (l0 : List Int) (a1 : Int) : Option (Int) := slices_Index_int_int.l0 k l0 a1 (l0.length : Int) 0
theorem slices_Index_int_int.mono_l : ∀ k, (∀ y0 y1 y2 y3, LeO (slices_Index_int_int.l0 k y0 y1 y2 y3) (slices_Index_int_int.l0 (k + 1) y0 y1 y2 y3))
 | 0 => fun _ _ _ _ r h => by simp [slices_Index_int_int.l0] at h
 | k + 1 => by
  have ih0 := slices_Index_int_int.mono_l k
  ·intro y0 y1 y2 y3
   unfold slices_Index_int_int.l0
   repeat' first | (with_reducible exact ih0 _ _ _ _) | (with_reducible exact LeO.refl _) | (with_reducible exact LeO.none _) | (with_reducible refine LeO.ite ?_ ?_) | (with_reducible refine LeO.bind ?_ (fun _ => ?_)) | exact LeO.none _ | refine LeO.ite ?_ ?_ | refine LeO.bind ?_ (fun _ => ?_)
theorem slices_Index_int_int.mono : ∀ a0 a1 k, LeO (slices_Index_int_int.f k a0 a1) (slices_Index_int_int.f (k + 1) a0 a1) := by
 intro a0 a1 k
 have ih0 := slices_Index_int_int.mono_l k
 unfold slices_Index_int_int.f
 repeat' first | (with_reducible exact ih0 _ _ _ _) | (with_reducible exact LeO.refl _) | (with_reducible exact LeO.none _) | (with_reducible refine LeO.ite ?_ ?_) | (with_reducible refine LeO.bind ?_ (fun _ => ?_)) | exact LeO.none _ | refine LeO.ite ?_ ?_ | refine LeO.bind ?_ (fun _ => ?_)
set_option maxHeartbeats 8000000 in
set_option maxRecDepth 100000 in
theorem slices_Index_int_int.calls (k : Nat) (A0 : Option Addr) (c0 : Nat) (l0 : List Int) (a1 : Int) (r : Int) (w : World) (hr0 : Kd.C (Kd.int .i64) w A0 l0.length l0) (hc0 : l0.length ≤ c0) (h : slices_Index_int_int.f k l0 a1 = some r) :
  Calls Tryd.prog 104 #[.slice A0 l0.length c0, .int .i64 a1] w fun e w' => e = .returned (.int .i64 r) ∧ Drawn0 w w' := by
 have HR0 := Aside0.mk hr0
 have HC0 := Aside0.mk hc0
 clear hr0 hc0
 have H := h; clear h; unfold slices_Index_int_int.f at H
 have H' := Aside0.mk H
 clear H
 go_enter Tryd.func104, Tryd.ntmps104
 go_wp2
 go_loopg [8] k (fun kq v8 w' => ∃ (x8_1 : Int), v8 = .int .i64 x8_1 ∧ Aside0 (slices_Index_int_int.l0 kq l0 a1 (l0.length : Int) x8_1 = some r) ∧ Aside0 (kq ≤ k) ∧ Drawn0 w w')
 case atStart => exact ⟨(0), qT, H', ⟨Nat.le_refl _⟩, qD⟩
 case round =>
  clear H'
  try clear c1; try clear p2
  obtain ⟨x8_1, rfl, HA, HK1, ⟨m1, rfl⟩⟩ := hrel
  cases gk with
  | zero => exact absurd HA.out (by simp [slices_Index_int_int.l0])
  | succ k1 =>
   have H := HA.out
   clear HA
   simp only [slices_Index_int_int.l0] at H
   by_cases c3 : x8_1 < (l0.length : Int)
   ·rw [if_pos c3] at H
    have c3b0 := decide_eq_true c3
    clear c3
    by_cases c4 : 0 ≤ x8_1
    ·rw [if_pos c4] at H
     have c4b0 := decide_eq_true c4
     clear c4
     by_cases c5 : x8_1 < (l0.length : Int)
     ·rw [if_pos c5] at H
      have c5b0 := decide_eq_true c5
      clear c5
      by_cases c6 : a1 = (rd l0 x8_1)
      ·rw [if_pos c6] at H
       obtain ⟨c6b0, c6b1⟩ := qe c6; clear c6
       obtain rfl := Option.some.inj H
       have p201 : 0 ≤ (x8_1 : Int) := of_decide_eq_true qA
       have q201 : x8_1 < (l0.length : Int) := of_decide_eq_true qA
       obtain ⟨ad201, e201, hx201_0⟩ := Kd.at_int HR0.out x8_1 p201 q201
       cases e201
       replace p201 := eq_true p201
       replace q201 := eq_true q201
       go_wp2
       go_ret
       exact ⟨by first | rfl | (simp; done) | (simp [*]; done), qD⟩
      ·rw [if_neg c6] at H
       obtain ⟨c6b0, c6b1⟩ := qn c6
       have H' := Aside0.mk H
       clear H
       have p201 : 0 ≤ (x8_1 : Int) := of_decide_eq_true qA
       have q201 : x8_1 < (l0.length : Int) := of_decide_eq_true qA
       obtain ⟨ad201, e201, hx201_0⟩ := Kd.at_int HR0.out x8_1 p201 q201
       cases e201
       replace p201 := eq_true p201
       replace q201 := eq_true q201
       go_wp2
       go_roundg k1
       case measure => have := HK1.out; omega
       case rel => exact ⟨(wrap64 (x8_1 + 1)), qT, H', ⟨by have := HK1.out; omega⟩, qD⟩
     ·rw [if_neg c5] at H
      exact absurd H (by simp)
    ·rw [if_neg c4] at H
     exact absurd H (by simp)
   ·rw [if_neg c3] at H
    have c3b0 := decide_eq_false c3
    clear c3
    obtain rfl := Option.some.inj H
    go_wp2
    go_ret
    exact ⟨by first | rfl | (simp; done) | (simp [*]; done), qD⟩

end Go.Proofs.YtebnnknijbgekaaDoor.Q
namespace Go.Proofs.YtebnnknijbgekaaDoor.Q
open Go.RowKit Go.Proofs.YtebnnknijbgekaaDoorW.PrintWords Go.Proofs.YtebnnknijbgekaaDoorW.PrintLast Go.Proofs.YtebnnknijbgekaaDoorW.PrintMore
attribute [local go_sem] max2_int min2_int max_two min_two max_three min_three max_four min_four   -- for this text's walks alone
set_option linter.unusedVariables false
set_option linter.unusedSimpArgs false

/-! ### slices_Contains_int_int: function 92 -/
def slices_Contains_int_int.f (k : Nat) (l0 : List Int) (a1 : Int) : Option (Bool) := (slices_Index_int_int.f k l0 a1).bind fun t202 => (some (decide (t202 ≥ 0)))
theorem slices_Contains_int_int.mono : ∀ a0 a1 k, LeO (slices_Contains_int_int.f k a0 a1) (slices_Contains_int_int.f (k + 1) a0 a1) := by
 intro a0 a1 k
 unfold slices_Contains_int_int.f
 repeat' first | (with_reducible exact slices_Index_int_int.mono _ _ _) | (with_reducible exact LeO.refl _) | (with_reducible exact LeO.none _) | (with_reducible refine LeO.ite ?_ ?_) | (with_reducible refine LeO.bind ?_ (fun _ => ?_)) | exact LeO.none _ | refine LeO.ite ?_ ?_ | refine LeO.bind ?_ (fun _ => ?_)
set_option maxHeartbeats 8000000 in
set_option maxRecDepth 100000 in
theorem slices_Contains_int_int.calls (k : Nat) (A0 : Option Addr) (c0 : Nat) (l0 : List Int) (a1 : Int) (r : Bool) (w : World) (hr0 : Kd.C (Kd.int .i64) w A0 l0.length l0) (hc0 : l0.length ≤ c0) (h : slices_Contains_int_int.f k l0 a1 = some r) :
  Calls Tryd.prog 92 #[.slice A0 l0.length c0, .int .i64 a1] w fun e w' => e = .returned (.bool r) ∧ Drawn0 w w' := by
 have HR0 := Aside0.mk hr0
 have HC0 := Aside0.mk hc0
 clear hr0 hc0
 have H := h; clear h; unfold slices_Contains_int_int.f at H
 replace H := qb H; obtain ⟨t202, A3, H⟩ := H
 obtain rfl := Option.some.inj H
 go_enter Tryd.func92, Tryd.ntmps92
 go_wp2_with (first | ((with_reducible refine gate_callee (f := 104) rfl ?_); refine goesL_ (some 7) rfl rfl Tryd.func104 (by kernel_rfl) rfl #[.slice A0 l0.length c0, .int .i64 a1] rfl qL ?_; (with_reducible refine (slices_Index_int_int.calls k _ _ l0 a1 t202 _ ?side1 ?side2 A3.out).mono ?_); (case side1 => repeat (first | exact HR0.out | (with_reducible refine Kd.C_alloc ?_ _) | (with_reducible refine Kd.C_drewN ?_ _) | (with_reducible refine Kd.C_drew ?_))); (case side2 => exact HC0.out); rintro e w' ⟨rfl, ⟨nd, rfl⟩⟩; refine ⟨_, rfl, ?_⟩))
 go_ret
 exact ⟨by first | rfl | (simp; done) | (simp [*]; done), qD⟩

end Go.Proofs.YtebnnknijbgekaaDoor.Q
namespace Go.Proofs.YtebnnknijbgekaaDoor.Q
open Go.RowKit Go.Proofs.YtebnnknijbgekaaDoorW.PrintWords Go.Proofs.YtebnnknijbgekaaDoorW.PrintLast Go.Proofs.YtebnnknijbgekaaDoorW.PrintMore
attribute [local go_sem] max2_int min2_int max_two min_two max_three min_three max_four min_four   -- for this text's walks alone
set_option linter.unusedVariables false
set_option linter.unusedSimpArgs false

/-! ### flow_Succs: function 73 -/
mutual
def flow_Succs.j0 : Nat → List (List (SIns)) → Int → Bool → Option (List Int)
 | 0, _, _, _ => none
 | k + 1, x0, x1, x24 => if x24 = true then (some ([] : List Int)) else (if 0 ≤ x1 then (if x1 < (x0.length : Int) then (if 0 ≤ (wrap64 (((rd_LIns x0 x1).length : Int) - 1)) then (if (wrap64 (((rd_LIns x0 x1).length : Int) - 1)) < ((rd_LIns x0 x1).length : Int) then ((ir_Targets.f ((rd_TIns (rd_LIns x0 x1) (wrap64 (((rd_LIns x0 x1).length : Int) - 1))).f0) ((rd_TIns (rd_LIns x0 x1) (wrap64 (((rd_LIns x0 x1).length : Int) - 1))).f1) ((rd_TIns (rd_LIns x0 x1) (wrap64 (((rd_LIns x0 x1).length : Int) - 1))).f2) ((rd_TIns (rd_LIns x0 x1) (wrap64 (((rd_LIns x0 x1).length : Int) - 1))).f3) ((rd_TIns (rd_LIns x0 x1) (wrap64 (((rd_LIns x0 x1).length : Int) - 1))).f4) ((rd_TIns (rd_LIns x0 x1) (wrap64 (((rd_LIns x0 x1).length : Int) - 1))).f5)).bind fun t206 => (flow_Succs.l0 k x0 ([] : List Int) t206 (t206.length : Int) 0)) else (none)) else (none)) else (none)) else (none))
def flow_Succs.l0 : Nat → List (List (SIns)) → List Int → List Int → Int → Int → Option (List Int)
 | 0, _, _, _, _, _ => none
 | k + 1, x0, x6, x35, x36, x37 => if x37 < x36 then (if 0 ≤ x37 then (if x37 < (x35.length : Int) then (if (rd x35 x37) ≥ 0 then (if (rd x35 x37) < (x0.length : Int) then ((slices_Contains_int_int.f k x6 (rd x35 x37)).bind fun t210 => (if t210 = true then (flow_Succs.l0 k x0 x6 x35 x36 (wrap64 (x37 + 1))) else (if x6.length < 17592186044416 then (flow_Succs.l0 k x0 (x6 ++ [rd x35 x37]) x35 x36 (wrap64 (x37 + 1))) else (none)))) else (flow_Succs.l0 k x0 x6 x35 x36 (wrap64 (x37 + 1)))) else (flow_Succs.l0 k x0 x6 x35 x36 (wrap64 (x37 + 1)))) else (none)) else (none)) else (some x6)
end
def flow_Succs.f (k : Nat) (l0 : List (List (SIns))) (a1 : Int) : Option (List Int) := if a1 < 0 then (flow_Succs.j0 k l0 a1 true) else (if a1 ≥ (l0.length : Int) then (flow_Succs.j0 k l0 a1 true) else (if 0 ≤ a1 then (if a1 < (l0.length : Int) then (flow_Succs.j0 k l0 a1 (((rd_LIns l0 a1).length : Int) == 0)) else (none)) else (none)))
theorem flow_Succs.mono_l : ∀ k, (∀ y0 y1 y2, LeO (flow_Succs.j0 k y0 y1 y2) (flow_Succs.j0 (k + 1) y0 y1 y2)) ∧ (∀ y0 y1 y2 y3 y4, LeO (flow_Succs.l0 k y0 y1 y2 y3 y4) (flow_Succs.l0 (k + 1) y0 y1 y2 y3 y4))
 | 0 => ⟨fun _ _ _ r h => by simp [flow_Succs.j0] at h, fun _ _ _ _ _ r h => by simp [flow_Succs.l0] at h⟩
 | k + 1 => by
  obtain ⟨ih0, ih1⟩ := flow_Succs.mono_l k
  refine ⟨?_, ?_⟩ <;> intros <;> (first | unfold flow_Succs.j0 | unfold flow_Succs.l0) <;> repeat' first | (with_reducible exact ih0 _ _ _) | (with_reducible exact ih1 _ _ _ _ _) | (with_reducible exact slices_Contains_int_int.mono _ _ _) | (with_reducible exact LeO.refl _) | (with_reducible exact LeO.none _) | (with_reducible refine LeO.ite ?_ ?_) | (with_reducible refine LeO.bind ?_ (fun _ => ?_)) | exact LeO.none _ | refine LeO.ite ?_ ?_ | refine LeO.bind ?_ (fun _ => ?_)
theorem flow_Succs.mono : ∀ a0 a1 k, LeO (flow_Succs.f k a0 a1) (flow_Succs.f (k + 1) a0 a1) := by
 intro a0 a1 k
 obtain ⟨ih0, ih1⟩ := flow_Succs.mono_l k
 unfold flow_Succs.f
 repeat' first | (with_reducible exact ih0 _ _ _) | (with_reducible exact ih1 _ _ _ _ _) | (with_reducible exact slices_Contains_int_int.mono _ _ _) | (with_reducible exact LeO.refl _) | (with_reducible exact LeO.none _) | (with_reducible refine LeO.ite ?_ ?_) | (with_reducible refine LeO.bind ?_ (fun _ => ?_)) | exact LeO.none _ | refine LeO.ite ?_ ?_ | refine LeO.bind ?_ (fun _ => ?_)
set_option maxHeartbeats 8000000 in
set_option maxRecDepth 100000 in
theorem flow_Succs.calls (k : Nat) (A0 : Option Addr) (c0 : Nat) (l0 : List (List (SIns))) (a1 : Int) (r : List Int) (w : World) (hr0 : Kd.C (Kd.slice 31 kIns) w A0 l0.length l0) (hc0 : l0.length ≤ c0) (h : flow_Succs.f k l0 a1 = some r) :
  Calls Tryd.prog 73 #[.slice A0 l0.length c0, .int .i64 a1] w fun e w' => ∃ v0_ : Value, e = .returned (v0_) ∧ Kd.R (Kd.int .i64) 3 w' w.heap.size (fun _ => True) v0_ r ∧ Below w.heap.size w w' := by
 have hu31 := Tryd.underlying31
 have HR0 := Aside0.mk hr0
 have HC0 := Aside0.mk hc0
 clear hr0 hc0
 have HB := Aside0.mk (Below.refl w.heap.size w)
 have H := h; clear h; unfold flow_Succs.f at H
 have HC3 := Aside0.mk H
 clear H
 go_enter Tryd.func73, Tryd.ntmps73
 go_upto_region 1 with (fail)
 go_cut [24] (fun v24 wc => ∃ (kq : Nat) (x24_2 : Bool), v24 = .bool x24_2 ∧ Aside0 (flow_Succs.j0 kq l0 a1 x24_2 = some r) ∧ Aside0 (kq ≤ k) ∧ Aside0 (Below w.heap.size w wc))
 case first =>
  have H := HC3.out
  clear HC3
  by_cases c4 : a1 < 0
  ·rw [if_pos c4] at H
   have c4b0 := decide_eq_true c4
   clear c4
   (first | rw [c4b0] | (simp only [i64_w, i32_w]; rw [c4b0]) | skip)
   have H' := Aside0.mk H
   clear H
   go_wp2
   go_meet
   case rel => exact ⟨_, (true), qT, H', ⟨qO⟩, ⟨qB⟩⟩
  ·rw [if_neg c4] at H
   have c4b0 := decide_eq_false c4
   clear c4
   (first | rw [c4b0] | (simp only [i64_w, i32_w]; rw [c4b0]) | skip)
   by_cases c5 : a1 ≥ (l0.length : Int)
   ·rw [if_pos c5] at H
    have c5b0 : decide ((l0.length : Int) ≤ a1) = true := decide_eq_true c5
    clear c5
    have H' := Aside0.mk H
    clear H
    go_wp2
    go_meet
    case rel => exact ⟨_, (true), qT, H', ⟨qO⟩, ⟨qB⟩⟩
   ·rw [if_neg c5] at H
    have c5b0 : decide ((l0.length : Int) ≤ a1) = false := decide_eq_false c5
    clear c5
    by_cases c6 : 0 ≤ a1
    ·rw [if_pos c6] at H
     have c6b0 := decide_eq_true c6
     clear c6
     by_cases c7 : a1 < (l0.length : Int)
     ·rw [if_pos c7] at H
      have c7b0 := decide_eq_true c7
      clear c7
      have H' := Aside0.mk H
      clear H
      have p203 : 0 ≤ (a1 : Int) := of_decide_eq_true qA
      have q203 : a1 < (l0.length : Int) := of_decide_eq_true qA
      obtain ⟨ad203, A203_0, c203_0, e203, hx203_0, hl203_0, hi203_0⟩ := at_LIns HR0.out a1 p203 q203
      cases e203
      replace hx203_0 := (HB.out.cell (World.block_lt_of_cell? w _ hx203_0)).trans hx203_0
      have HR203_0 := Aside0.mk hi203_0
      have HC203_0 := Aside0.mk hl203_0
      clear hi203_0 hl203_0
      replace p203 := eq_true p203
      replace q203 := eq_true q203
      go_wp2
      go_meet
      case rel => exact ⟨_, ((((rd_LIns l0 a1).length : Int) == 0)), qT, H', ⟨qO⟩, ⟨qB⟩⟩
     ·rw [if_neg c7] at H
      exact absurd H (by simp)
    ·rw [if_neg c6] at H
     exact absurd H (by simp)
 case rest =>
  clear HC3
  try clear c2; try clear p2; try clear q2; try clear hx2; try clear c4; try clear c4b0; try clear c5; try clear c5b0; try clear c6; try clear c6b0; try clear c7; try clear c7b0; try clear hx203_0; try clear p203; try clear q203
  obtain ⟨kq, x24_2, rfl, HA, HJ2, HB⟩ := hcut
  cases kq with
  | zero => exact absurd HA.out (by simp [flow_Succs.j0])
  | succ kj2 =>
   have H := HA.out
   clear HA
   simp only [flow_Succs.j0] at H
   by_cases c8 : x24_2 = true
   ·subst c8
    have H1 : (some ([] : List Int)) = some r := by rw [if_pos rfl] at H; exact H
    clear H
    have H := H1
    clear H1
    obtain rfl := Option.some.inj H
    go_wp2
    go_ret
    exact ⟨_, qE, by first | exact Kd.R_nil _ _ _ _ _ | exact Kd.N_nil _ _ _ _ _ | exact Kd.V_nil _ _ _ _ _ | exact Kd.Q_nil _ _ _ _ _ | exact Kd.S_nil _ _ _ _ _, qB⟩
   ·replace c8 := Bool.eq_false_iff.mpr c8
    subst c8
    have H1 : (if 0 ≤ a1 then (if a1 < (l0.length : Int) then (if 0 ≤ (wrap64 (((rd_LIns l0 a1).length : Int) - 1)) then (if (wrap64 (((rd_LIns l0 a1).length : Int) - 1)) < ((rd_LIns l0 a1).length : Int) then ((ir_Targets.f ((rd_TIns (rd_LIns l0 a1) (wrap64 (((rd_LIns l0 a1).length : Int) - 1))).f0) ((rd_TIns (rd_LIns l0 a1) (wrap64 (((rd_LIns l0 a1).length : Int) - 1))).f1) ((rd_TIns (rd_LIns l0 a1) (wrap64 (((rd_LIns l0 a1).length : Int) - 1))).f2) ((rd_TIns (rd_LIns l0 a1) (wrap64 (((rd_LIns l0 a1).length : Int) - 1))).f3) ((rd_TIns (rd_LIns l0 a1) (wrap64 (((rd_LIns l0 a1).length : Int) - 1))).f4) ((rd_TIns (rd_LIns l0 a1) (wrap64 (((rd_LIns l0 a1).length : Int) - 1))).f5)).bind fun t206 => (flow_Succs.l0 kj2 l0 ([] : List Int) t206 (t206.length : Int) 0)) else (none)) else (none)) else (none)) else (none)) = some r := by rw [if_neg (show ¬ (false = true) by decide)] at H; exact H
    clear H
    have H := H1
    clear H1
    by_cases c9 : 0 ≤ a1
    ·rw [if_pos c9] at H
     have c9b0 := decide_eq_true c9
     clear c9
     by_cases c10 : a1 < (l0.length : Int)
     ·rw [if_pos c10] at H
      have c10b0 := decide_eq_true c10
      clear c10
      obtain ⟨ji11, hji11⟩ : ∃ j_ : Int, (wrap64 (((rd_LIns l0 a1).length : Int) - 1)) = j_ := ⟨_, rfl⟩
      replace H : (if 0 ≤ (ji11) then (if (ji11) < ((rd_LIns l0 a1).length : Int) then ((ir_Targets.f ((rd_TIns (rd_LIns l0 a1) (ji11)).f0) ((rd_TIns (rd_LIns l0 a1) (ji11)).f1) ((rd_TIns (rd_LIns l0 a1) (ji11)).f2) ((rd_TIns (rd_LIns l0 a1) (ji11)).f3) ((rd_TIns (rd_LIns l0 a1) (ji11)).f4) ((rd_TIns (rd_LIns l0 a1) (ji11)).f5)).bind fun t206 => (flow_Succs.l0 kj2 l0 ([] : List Int) t206 (t206.length : Int) 0)) else (none)) else (none)) = some r := by first | (rw [hji11] at H; exact H) | (simp only [hji11] at H ⊢; exact H)
      have hji11w : (IntKind.i64.wrap (((rd_LIns l0 a1).length : Int) - 1)) = ji11 := (i64_w _).trans hji11
      by_cases c12 : 0 ≤ (ji11)
      ·rw [if_pos c12] at H
       have c12b0 := decide_eq_true c12
       clear c12
       by_cases c13 : (ji11) < ((rd_LIns l0 a1).length : Int)
       ·rw [if_pos c13] at H
        have c13b0 := decide_eq_true c13
        clear c13
        replace H := qb H; obtain ⟨t206, A14, H⟩ := H
        have H' := Aside0.mk H
        clear H
        have p204 : 0 ≤ (a1 : Int) := of_decide_eq_true qA
        have q204 : a1 < (l0.length : Int) := of_decide_eq_true qA
        obtain ⟨ad204, A204_0, c204_0, e204, hx204_0, hl204_0, hi204_0⟩ := at_LIns HR0.out a1 p204 q204
        cases e204
        replace hx204_0 := (HB.out.cell (World.block_lt_of_cell? w _ hx204_0)).trans hx204_0
        have HR204_0 := Aside0.mk hi204_0
        have HC204_0 := Aside0.mk hl204_0
        clear hi204_0 hl204_0
        replace p204 := eq_true p204
        replace q204 := eq_true q204
        have p205 : 0 ≤ ((ji11) : Int) := of_decide_eq_true qA
        have q205 : (ji11) < ((rd_LIns l0 a1).length : Int) := of_decide_eq_true qA
        obtain ⟨ad205, A205_5, c205_5, e205, hx205_0, hx205_1, hx205_2, hx205_3, hx205_4, hx205_5, hl205_5, hi205_5⟩ := at_TIns HR204_0.out (ji11) p205 q205
        cases e205
        replace hx205_0 := (HB.out.cell (World.block_lt_of_cell? w _ hx205_0)).trans hx205_0
        replace hx205_1 := (HB.out.cell (World.block_lt_of_cell? w _ hx205_1)).trans hx205_1
        replace hx205_2 := (HB.out.cell (World.block_lt_of_cell? w _ hx205_2)).trans hx205_2
        replace hx205_3 := (HB.out.cell (World.block_lt_of_cell? w _ hx205_3)).trans hx205_3
        replace hx205_4 := (HB.out.cell (World.block_lt_of_cell? w _ hx205_4)).trans hx205_4
        replace hx205_5 := (HB.out.cell (World.block_lt_of_cell? w _ hx205_5)).trans hx205_5
        have HR205_5 := Aside0.mk hi205_5
        have HC205_5 := Aside0.mk hl205_5
        clear hi205_5 hl205_5
        replace p205 := eq_true p205
        replace q205 := eq_true q205
        go_wp2_with (first | ((with_reducible refine gate_callee (f := 91) rfl ?_); refine goesL_ (some 35) rfl rfl Tryd.func91 (by kernel_rfl) rfl #[.agg #[.int .i64 ((rd_TIns (rd_LIns l0 a1) (ji11)).f0), .int .i64 ((rd_TIns (rd_LIns l0 a1) (ji11)).f1), .int .i64 ((rd_TIns (rd_LIns l0 a1) (ji11)).f2), .int .i64 ((rd_TIns (rd_LIns l0 a1) (ji11)).f3), .string ((rd_TIns (rd_LIns l0 a1) (ji11)).f4), .slice A205_5 ((rd_TIns (rd_LIns l0 a1) (ji11)).f5).length c205_5]] rfl (by (try simp only [List.map_toArray, List.map_cons, List.map_nil]); first | done | (simp only [hji11]; rfl) | rfl | (simp only [List.length_drop, List.length_take]; rfl)) ?_; (with_reducible refine (ir_Targets.calls ((rd_TIns (rd_LIns l0 a1) (ji11)).f0) ((rd_TIns (rd_LIns l0 a1) (ji11)).f1) ((rd_TIns (rd_LIns l0 a1) (ji11)).f2) ((rd_TIns (rd_LIns l0 a1) (ji11)).f3) ((rd_TIns (rd_LIns l0 a1) (ji11)).f4) _ _ ((rd_TIns (rd_LIns l0 a1) (ji11)).f5) t206 _ ?side1 ?side2 A14.out).mono ?_); (case side1 => exact qCB HR205_5.out); (case side2 => exact HC205_5.out); rintro e w15 ⟨v207, rfl, ho0, hb⟩; refine ⟨_, rfl, ?_⟩; have HO208 := Aside0.mk (Kd.R_lower ho0 (below_size qB)); replace HB := qH hb; (try clear hb); (try clear ho0); obtain ⟨Ao16, co16, eo16⟩ := Kd.R_slice HO208.out; subst eo16))
        go_loopg [6, 37] kj2 (fun kq v6 v37 w' => ∃ (x6_2 : List Int) (x37_2 : Int), v37 = .int .i64 x37_2 ∧ Aside0 (flow_Succs.l0 kq l0 x6_2 t206 (t206.length : Int) x37_2 = some r) ∧ Aside0 (kq ≤ kj2) ∧ Aside0 (Kd.R (Kd.int .i64) 3 w' w.heap.size (fun k_ => some k_ ≠ ((.slice Ao16 t206.length co16) : Value).ownBlock) v6 x6_2) ∧ Aside0 (Kd.R (Kd.int .i64) 3 w' w.heap.size (fun k_ => some k_ ≠ (v6 : Value).ownBlock) (.slice Ao16 t206.length co16) t206) ∧ Aside0 (Below w.heap.size w w'))
        case atStart => exact ⟨(([] : List Int)), (0), qT, H', ⟨Nat.le_refl _⟩, ⟨by first | exact Kd.R_nil _ _ _ _ _ | exact Kd.N_nil _ _ _ _ _ | exact Kd.V_nil _ _ _ _ _ | exact Kd.Q_nil _ _ _ _ _ | exact Kd.S_nil _ _ _ _ _⟩, ⟨by (with_reducible repeat (first | apply Kd.R_alloc | apply Kd.R_drewN | apply Kd.R_drew)); exact Kd.R_mono HO208.out (fun _ hk => (by simp [Value.ownBlock]))⟩, ⟨qB⟩⟩
        case round =>
         clear H'
         try clear c1; try clear c2; try clear p2; try clear q2; try clear hx2; try clear c4; try clear c4b0; try clear c5; try clear c5b0; try clear c6; try clear c6b0; try clear p6; try clear c7; try clear c7b0; try clear c8; try clear c9; try clear c9b0; try clear c10; try clear c10b0; try clear c12; try clear c12b0; try clear c13; try clear c13b0; try clear hx203_0; try clear hx204_0; try clear hx205_0; try clear hx205_1; try clear hx205_2; try clear hx205_3; try clear hx205_4; try clear hx205_5; try clear p203; try clear p204; try clear p205; try clear q203; try clear q204; try clear q205
         obtain ⟨x6_2, x37_2, rfl, HA, HK2, HO_6, HO_35, HB⟩ := hrel
         cases gk with
         | zero => exact absurd HA.out (by simp [flow_Succs.l0])
         | succ k2 =>
          have H := HA.out
          clear HA
          simp only [flow_Succs.l0] at H
          by_cases c17 : x37_2 < (t206.length : Int)
          ·rw [if_pos c17] at H
           have c17b0 := decide_eq_true c17
           clear c17
           by_cases c18 : 0 ≤ x37_2
           ·rw [if_pos c18] at H
            have c18b0 := decide_eq_true c18
            clear c18
            by_cases c19 : x37_2 < (t206.length : Int)
            ·rw [if_pos c19] at H
             have c19b0 := decide_eq_true c19
             clear c19
             by_cases c20 : (rd t206 x37_2) ≥ 0
             ·rw [if_pos c20] at H
              have c20b0 : decide (0 ≤ (rd t206 x37_2)) = true := decide_eq_true c20
              clear c20
              by_cases c21 : (rd t206 x37_2) < (l0.length : Int)
              ·rw [if_pos c21] at H
               have c21b0 := decide_eq_true c21
               clear c21
               replace H := qb H; obtain ⟨t210, A22, H⟩ := H
               by_cases c23 : t210 = true
               ·subst c23
                have H1 : (flow_Succs.l0 k2 l0 x6_2 t206 (t206.length : Int) (wrap64 (x37_2 + 1))) = some r := by rw [if_pos rfl] at H; exact H
                clear H
                have H := H1
                clear H1
                have H' := Aside0.mk H
                clear H
                have p209 : 0 ≤ (x37_2 : Int) := of_decide_eq_true qA
                have q209 : x37_2 < (t206.length : Int) := of_decide_eq_true qA
                obtain ⟨ad209, e209, hx209_0⟩ := Kd.at_int (Kd.R_reads' HO_35.out).2.2 x37_2 p209 q209
                cases e209
                replace p209 := eq_true p209
                replace q209 := eq_true q209
                obtain ⟨Ao24, co24, eo24⟩ := Kd.R_slice HO_6.out
                subst eo24
                go_wp2_with (first | (go_at_call 92; (with_reducible refine (slices_Contains_int_int.calls k2 _ _ x6_2 (rd t206 x37_2) true _ ?side1 ?side2 A22.out).mono ?_); (case side1 => repeat (first | exact (Kd.R_reads' HO_6.out).2.2 | (with_reducible refine Kd.C_alloc ?_ _) | (with_reducible refine Kd.C_drewN ?_ _) | (with_reducible refine Kd.C_drew ?_))); (case side2 => exact (Kd.R_reads' HO_6.out).2.1); (try clear A22); rintro e w' ⟨rfl, ⟨nd, rfl⟩⟩))
                go_roundg k2
                case measure => have := HJ2.out; have := HK2.out; omega
                case rel => exact ⟨(x6_2), (wrap64 (x37_2 + 1)), qT, H', ⟨by have := HJ2.out; have := HK2.out; omega⟩, ⟨qR HO_6.out⟩, ⟨qR HO_35.out⟩, ⟨qB⟩⟩
               ·replace c23 := Bool.eq_false_iff.mpr c23
                subst c23
                have H1 : (if x6_2.length < 17592186044416 then (flow_Succs.l0 k2 l0 (x6_2 ++ [rd t206 x37_2]) t206 (t206.length : Int) (wrap64 (x37_2 + 1))) else (none)) = some r := by rw [if_neg (show ¬ (false = true) by decide)] at H; exact H
                clear H
                have H := H1
                clear H1
                by_cases c25 : x6_2.length < 17592186044416
                ·rw [if_pos c25] at H
                 have LMc25 := Aside0.mk c25
                 clear c25
                 obtain ⟨y211, hy211⟩ : ∃ y_ : List Int, y_ = (x6_2 ++ [rd t206 x37_2]) := ⟨_, rfl⟩
                 replace H : (flow_Succs.l0 k2 l0 y211 t206 (t206.length : Int) (wrap64 (x37_2 + 1))) = some r := by first | (rw [hy211]; with_reducible exact H) | (have H2_ := (Option.bind_some _ _).symm.trans H; rw [hy211]; with_reducible exact H2_) | (have H2_ := (Option.bind_some _ _).symm.trans H; with_reducible exact H2_) | with_reducible exact H | (rw [hy211]; exact H) | exact H
                 have Ny211 := Aside0.mk hy211
                 clear hy211
                 have H' := Aside0.mk H
                 clear H
                 have p209 : 0 ≤ (x37_2 : Int) := of_decide_eq_true qA
                 have q209 : x37_2 < (t206.length : Int) := of_decide_eq_true qA
                 obtain ⟨ad209, e209, hx209_0⟩ := Kd.at_int (Kd.R_reads' HO_35.out).2.2 x37_2 p209 q209
                 cases e209
                 replace p209 := eq_true p209
                 replace q209 := eq_true q209
                 obtain ⟨Ao26, co26, eo26⟩ := Kd.R_slice HO_6.out
                 subst eo26
                 go_wp2_with (first | (go_at_call 92; (with_reducible refine (slices_Contains_int_int.calls k2 _ _ x6_2 (rd t206 x37_2) false _ ?side1 ?side2 A22.out).mono ?_); (case side1 => repeat (first | exact (Kd.R_reads' HO_6.out).2.2 | (with_reducible refine Kd.C_alloc ?_ _) | (with_reducible refine Kd.C_drewN ?_ _) | (with_reducible refine Kd.C_drew ?_))); (case side2 => exact (Kd.R_reads' HO_6.out).2.1); (try clear A22); rintro e w' ⟨rfl, ⟨nd, rfl⟩⟩) | ((with_reducible refine gate_builtin (b := .append) (xs := #[.tmp 55, .tmp 57]) rfl ?_); (try (refine gate_guard (by rfl) ?_; dsimp only)); at_builtin; refine Kd.R_append (Kd.int .i64) (w0 := w) w.heap.size rfl (.tmp 55) (.tmp 57) 29 3 (.int .i64 0) 8 rfl Tryd.underlying29 info3 rfl (by decide) (by omega) (.slice Ao26 x6_2.length co26) x6_2 (rd t206 x37_2) [.int .i64 (rd t206 x37_2)] (fun k_ => some k_ ≠ (.slice (some ad209) t206.length co16 : Value).ownBlock) (fun _ => False) rfl rfl ?aP (fun _ hk => hk.elim) ?aF ?aO ?aB ?aS ?aL ?_; (case aP => exact rfl); (case aB => exact qB); (case aF => exact (fun k_ hk => Kd.fresh' (Kd.R_lt (qR HO_35.out)) k_ hk)); (case aO => exact (qR HO_6.out)); (case aS => exact (below_size qB)); (case aL => have := LMc25.out; omega); intro v212 w27 ho hb hg hat; rw [← Ny211.out] at ho; replace HO_35 := Aside0.mk (Kd.R_after (ok := (fun _ => True)) (by (with_reducible repeat (first | apply Kd.R_alloc | apply Kd.R_drewN | apply Kd.R_drew)); exact Kd.R_mono HO_35.out (fun _ hk => ⟨trivial, hk⟩)) hg hat); replace HB := Aside0.mk (hb); have HO213 := Aside0.mk (ho); clear HO_6; clear ho hb hg hat))
                 go_roundg k2
                 case measure => have := HJ2.out; have := HK2.out; omega
                 case rel => exact ⟨(y211), (wrap64 (x37_2 + 1)), qT, H', ⟨by have := HJ2.out; have := HK2.out; omega⟩, ⟨qR HO213.out⟩, ⟨by (with_reducible repeat (first | apply Kd.R_alloc | apply Kd.R_drewN | apply Kd.R_drew)); exact Kd.R_mono HO_35.out (fun _ hk => hk.2)⟩, ⟨qB⟩⟩
                ·rw [if_neg c25] at H
                 exact absurd H (by simp)
              ·rw [if_neg c21] at H
               have c21b0 := decide_eq_false c21
               clear c21
               have H' := Aside0.mk H
               clear H
               have p209 : 0 ≤ (x37_2 : Int) := of_decide_eq_true qA
               have q209 : x37_2 < (t206.length : Int) := of_decide_eq_true qA
               obtain ⟨ad209, e209, hx209_0⟩ := Kd.at_int (Kd.R_reads' HO_35.out).2.2 x37_2 p209 q209
               cases e209
               replace p209 := eq_true p209
               replace q209 := eq_true q209
               go_wp2
               go_roundg k2
               case measure => have := HJ2.out; have := HK2.out; omega
               case rel => exact ⟨(x6_2), (wrap64 (x37_2 + 1)), qT, H', ⟨by have := HJ2.out; have := HK2.out; omega⟩, ⟨qR HO_6.out⟩, ⟨qR HO_35.out⟩, ⟨qB⟩⟩
             ·rw [if_neg c20] at H
              have c20b0 : decide (0 ≤ (rd t206 x37_2)) = false := decide_eq_false c20
              clear c20
              have H' := Aside0.mk H
              clear H
              have p209 : 0 ≤ (x37_2 : Int) := of_decide_eq_true qA
              have q209 : x37_2 < (t206.length : Int) := of_decide_eq_true qA
              obtain ⟨ad209, e209, hx209_0⟩ := Kd.at_int (Kd.R_reads' HO_35.out).2.2 x37_2 p209 q209
              cases e209
              replace p209 := eq_true p209
              replace q209 := eq_true q209
              go_wp2
              go_roundg k2
              case measure => have := HJ2.out; have := HK2.out; omega
              case rel => exact ⟨(x6_2), (wrap64 (x37_2 + 1)), qT, H', ⟨by have := HJ2.out; have := HK2.out; omega⟩, ⟨qR HO_6.out⟩, ⟨qR HO_35.out⟩, ⟨qB⟩⟩
            ·rw [if_neg c19] at H
             exact absurd H (by simp)
           ·rw [if_neg c18] at H
            exact absurd H (by simp)
          ·rw [if_neg c17] at H
           have c17b0 := decide_eq_false c17
           clear c17
           obtain rfl := Option.some.inj H
           go_wp2
           go_ret
           exact ⟨_, by first | rfl | (simp [errW_none, errW_some] <;> rfl) | (simp only [← hji11]; first | rfl | (simp [errW_none, errW_some] <;> rfl)) | (simp [*, errW_none, errW_some] <;> rfl), by (with_reducible repeat (first | apply Kd.R_alloc | apply Kd.R_drewN | apply Kd.R_drew)); exact Kd.R_mono HO_6.out (fun _ hk => trivial), qB⟩
       ·rw [if_neg c13] at H
        exact absurd H (by simp)
      ·rw [if_neg c12] at H
       exact absurd H (by simp)
     ·rw [if_neg c10] at H
      exact absurd H (by simp)
    ·rw [if_neg c9] at H
     exact absurd H (by simp)

end Go.Proofs.YtebnnknijbgekaaDoor.Q
namespace Go.Proofs.YtebnnknijbgekaaDoor.Q
open Go.RowKit Go.Proofs.YtebnnknijbgekaaDoorW.PrintWords Go.Proofs.YtebnnknijbgekaaDoorW.PrintLast Go.Proofs.YtebnnknijbgekaaDoorW.PrintMore
attribute [local go_sem] max2_int min2_int max_two min_two max_three min_three max_four min_four   -- for this text's walks alone
set_option linter.unusedVariables false
set_option linter.unusedSimpArgs false

/-! ### ir_Def: function 48 -/
def ir_Def.f (a0_0 : Int) (a0_1 : Int) (a0_2 : Int) (a0_3 : Int) (a0_4 : ByteArray) (l0_5 : List Int) : Option (Int) := (ir_shape.f a0_0).bind fun t215 => (if t215.toList = ([] : List UInt8) then (some (-1)) else (if 0 < (t215.size : Int) then (if (bt t215 0) = 114 then (some a0_1) else (some (-1))) else (none)))
set_option maxHeartbeats 8000000 in
set_option maxRecDepth 100000 in
theorem ir_Def.calls (a0_0 : Int) (a0_1 : Int) (a0_2 : Int) (a0_3 : Int) (a0_4 : ByteArray) (A0_5 : Option Addr) (c0_5 : Nat) (l0_5 : List Int) (r : Int) (w : World) (hL : LaidW w) (hr0_5 : Kd.C (Kd.int .i64) w A0_5 l0_5.length l0_5) (hc0_5 : l0_5.length ≤ c0_5) (h : ir_Def.f a0_0 a0_1 a0_2 a0_3 a0_4 l0_5 = some r) :
  Calls Tryd.prog 48 #[.agg #[.int .i64 a0_0, .int .i64 a0_1, .int .i64 a0_2, .int .i64 a0_3, .string a0_4, .slice A0_5 l0_5.length c0_5]] w fun e w' => e = .returned (.int .i64 r) ∧ Below w.heap.size w w' := by
 have hu31 := Tryd.underlying31
 have HR0_5 := Aside0.mk hr0_5
 have HC0_5 := Aside0.mk hc0_5
 clear hr0_5 hc0_5
 have HB := Aside0.mk (Below.refl w.heap.size w)
 have HLd := Aside0.mk hL
 clear hL
 have H := h; clear h; unfold ir_Def.f at H
 replace H := qb H; obtain ⟨t215, A2, H⟩ := H
 by_cases c3 : t215.toList = ([] : List UInt8)
 ·rw [if_pos c3] at H
  obtain ⟨c3b0, c3b1⟩ := qe c3; clear c3
  obtain rfl := Option.some.inj H
  go_enter Tryd.func48, Tryd.ntmps48
  go_wp2_with (first | ((with_reducible refine gate_dst (N := 1) rfl ?_); refine box_event (by rfl) (N := 1) (by rfl) (cs := #[.int .i64 a0_0, .int .i64 a0_1, .int .i64 a0_2, .int .i64 a0_3, .string a0_4, .slice A0_5 l0_5.length c0_5]) (t := 31) ?hr ?_; (case hr => first | (go_simp; done) | (go_simp; rfl)); intro gb214 hg w4 hbox hb; have BK214 := Aside0.mk (hbox); have GW214 := qG hg; have GE214 := GW214; replace HB := qH hb; clear hb hbox hg; obtain ⟨hcz5_0, hcz5_1, hcz5_2, hcz5_3, hcz5_4, hcz5_5, hfz5_0, hfz5_1, hfz5_2, hfz5_3, hfz5_4, hfz5_5⟩ := bk6 BK214.out) | ((with_reducible refine gate_callee (f := 71) rfl ?_); refine goesL_ (some 6) rfl rfl Tryd.func71 (by kernel_rfl) rfl #[.int .i64 a0_0] rfl qL ?_; (with_reducible refine (ir_shape.calls a0_0 t215 _ A2.out (hL := ?side99)).mono ?_); (case side99 => exact LaidW.below HLd.out qB); rintro e w' ⟨rfl, ⟨nd, rfl⟩⟩; refine ⟨_, rfl, ?_⟩))
  go_ret
  exact ⟨qE, qB⟩
 ·rw [if_neg c3] at H
  obtain ⟨c3b0, c3b1⟩ := qn c3
  by_cases c6 : 0 < (t215.size : Int)
  ·rw [if_pos c6] at H
   have c6b0 := decide_eq_true c6
   have c6b1 : decide (0 < t215.size) = true := decide_eq_true (by omega)
   clear c6
   by_cases c8 : (bt t215 0) = 114
   ·rw [if_pos c8] at H
    obtain ⟨c8b0, c8b1⟩ := qe c8; clear c8
    obtain rfl := Option.some.inj H
    go_enter Tryd.func48, Tryd.ntmps48
    go_wp2_with (first | ((with_reducible refine gate_dst (N := 1) rfl ?_); refine box_event (by rfl) (N := 1) (by rfl) (cs := #[.int .i64 a0_0, .int .i64 a0_1, .int .i64 a0_2, .int .i64 a0_3, .string a0_4, .slice A0_5 l0_5.length c0_5]) (t := 31) ?hr ?_; (case hr => first | (go_simp; done) | (go_simp; rfl)); intro gb214 hg w9 hbox hb; have BK214 := Aside0.mk (hbox); have GW214 := qG hg; have GE214 := GW214; replace HB := qH hb; clear hb hbox hg; obtain ⟨hcz10_0, hcz10_1, hcz10_2, hcz10_3, hcz10_4, hcz10_5, hfz10_0, hfz10_1, hfz10_2, hfz10_3, hfz10_4, hfz10_5⟩ := bk6 BK214.out) | ((with_reducible refine gate_callee (f := 71) rfl ?_); refine goesL_ (some 6) rfl rfl Tryd.func71 (by kernel_rfl) rfl #[.int .i64 a0_0] rfl qL ?_; (with_reducible refine (ir_shape.calls a0_0 t215 _ A2.out (hL := ?side99)).mono ?_); (case side99 => exact LaidW.below HLd.out qB); rintro e w' ⟨rfl, ⟨nd, rfl⟩⟩; refine ⟨_, rfl, ?_⟩; have p7 : 0 ≤ (0 : Int) := (by omega); have q7 : 0 < t215.size := (by have : (0 : Int) < (t215.size : Int) := of_decide_eq_true qA; omega); have hx7 : ∀ h : 0 < t215.size, ((t215[0]'h).toNat : Int) = bt t215 0 := bt_at t215 0; clear p7; have qi7 : (0 < (t215.size : Int)) = True := eq_true (of_decide_eq_true qA); replace q7 := eq_true q7))
    go_ret
    exact ⟨qE, qB⟩
   ·rw [if_neg c8] at H
    obtain ⟨c8b0, c8b1⟩ := qn c8
    obtain rfl := Option.some.inj H
    go_enter Tryd.func48, Tryd.ntmps48
    go_wp2_with (first | ((with_reducible refine gate_dst (N := 1) rfl ?_); refine box_event (by rfl) (N := 1) (by rfl) (cs := #[.int .i64 a0_0, .int .i64 a0_1, .int .i64 a0_2, .int .i64 a0_3, .string a0_4, .slice A0_5 l0_5.length c0_5]) (t := 31) ?hr ?_; (case hr => first | (go_simp; done) | (go_simp; rfl)); intro gb214 hg w11 hbox hb; have BK214 := Aside0.mk (hbox); have GW214 := qG hg; have GE214 := GW214; replace HB := qH hb; clear hb hbox hg; obtain ⟨hcz12_0, hcz12_1, hcz12_2, hcz12_3, hcz12_4, hcz12_5, hfz12_0, hfz12_1, hfz12_2, hfz12_3, hfz12_4, hfz12_5⟩ := bk6 BK214.out) | ((with_reducible refine gate_callee (f := 71) rfl ?_); refine goesL_ (some 6) rfl rfl Tryd.func71 (by kernel_rfl) rfl #[.int .i64 a0_0] rfl qL ?_; (with_reducible refine (ir_shape.calls a0_0 t215 _ A2.out (hL := ?side99)).mono ?_); (case side99 => exact LaidW.below HLd.out qB); rintro e w' ⟨rfl, ⟨nd, rfl⟩⟩; refine ⟨_, rfl, ?_⟩; have p7 : 0 ≤ (0 : Int) := (by omega); have q7 : 0 < t215.size := (by have : (0 : Int) < (t215.size : Int) := of_decide_eq_true qA; omega); have hx7 : ∀ h : 0 < t215.size, ((t215[0]'h).toNat : Int) = bt t215 0 := bt_at t215 0; clear p7; have qi7 : (0 < (t215.size : Int)) = True := eq_true (of_decide_eq_true qA); replace q7 := eq_true q7))
    go_ret
    exact ⟨qE, qB⟩
  ·rw [if_neg c6] at H
   exact absurd H (by simp)

end Go.Proofs.YtebnnknijbgekaaDoor.Q
namespace Go.Proofs.YtebnnknijbgekaaDoor.Q
open Go.RowKit Go.Proofs.YtebnnknijbgekaaDoorW.PrintWords Go.Proofs.YtebnnknijbgekaaDoorW.PrintLast Go.Proofs.YtebnnknijbgekaaDoorW.PrintMore
attribute [local go_sem] max2_int min2_int max_two min_two max_three min_three max_four min_four   -- for this text's walks alone
set_option linter.unusedVariables false
set_option linter.unusedSimpArgs false

/-! ### ir_Uses: function 59 -/
def ir_Uses.j0 : Nat → List Int → ByteArray → Int → Int → Int → Int → ByteArray → List Int → Option (List Int)
 | 0, _, _, _, _, _, _, _, _ => none
 | k + 1, x3, x4, x217000, x217001, x217002, x217003, x217004, x217005 => if 2 < (x4.size : Int) then (if (bt x4 2) = 114 then (if x3.length < 17592186044416 then ((some (x3 ++ [x217003] : List Int)).bind fun y221 => (if x217000 = 11 then (if y221.length + x217005.length < 17592186044416 then (some (y221 ++ x217005)) else (none)) else (some y221))) else (none)) else (if x217000 = 11 then (if x3.length + x217005.length < 17592186044416 then (some (x3 ++ x217005)) else (none)) else (some x3))) else (none)
def ir_Uses.f (k : Nat) (a0_0 : Int) (a0_1 : Int) (a0_2 : Int) (a0_3 : Int) (a0_4 : ByteArray) (l0_5 : List Int) : Option (List Int) := (ir_shape.f a0_0).bind fun t217 => (if t217.toList = ([] : List UInt8) then (some ([] : List Int)) else (if 1 < (t217.size : Int) then (if (bt t217 1) = 114 then (if ([] : List Int).length < 17592186044416 then (ir_Uses.j0 k (([] : List Int) ++ [a0_2]) t217 a0_0 a0_1 a0_2 a0_3 a0_4 l0_5) else (none)) else (ir_Uses.j0 k ([] : List Int) t217 a0_0 a0_1 a0_2 a0_3 a0_4 l0_5)) else (none)))
theorem ir_Uses.mono_l : ∀ k, (∀ y0 y1 y2 y3 y4 y5 y6 y7, LeO (ir_Uses.j0 k y0 y1 y2 y3 y4 y5 y6 y7) (ir_Uses.j0 (k + 1) y0 y1 y2 y3 y4 y5 y6 y7))
 | 0 => fun _ _ _ _ _ _ _ _ r h => by simp [ir_Uses.j0] at h
 | k + 1 => by
  have ih0 := ir_Uses.mono_l k
  ·intro y0 y1 y2 y3 y4 y5 y6 y7
   unfold ir_Uses.j0
   repeat' first | (with_reducible exact ih0 _ _ _ _ _ _ _ _) | (with_reducible exact LeO.refl _) | (with_reducible exact LeO.none _) | (with_reducible refine LeO.ite ?_ ?_) | (with_reducible refine LeO.bind ?_ (fun _ => ?_)) | exact LeO.none _ | refine LeO.ite ?_ ?_ | refine LeO.bind ?_ (fun _ => ?_)
theorem ir_Uses.mono : ∀ a0 a1 a2 a3 a4 a5 k, LeO (ir_Uses.f k a0 a1 a2 a3 a4 a5) (ir_Uses.f (k + 1) a0 a1 a2 a3 a4 a5) := by
 intro a0 a1 a2 a3 a4 a5 k
 have ih0 := ir_Uses.mono_l k
 unfold ir_Uses.f
 repeat' first | (with_reducible exact ih0 _ _ _ _ _ _ _ _) | (with_reducible exact LeO.refl _) | (with_reducible exact LeO.none _) | (with_reducible refine LeO.ite ?_ ?_) | (with_reducible refine LeO.bind ?_ (fun _ => ?_)) | exact LeO.none _ | refine LeO.ite ?_ ?_ | refine LeO.bind ?_ (fun _ => ?_)
set_option maxHeartbeats 8000000 in
set_option maxRecDepth 100000 in
theorem ir_Uses.calls (k : Nat) (a0_0 : Int) (a0_1 : Int) (a0_2 : Int) (a0_3 : Int) (a0_4 : ByteArray) (A0_5 : Option Addr) (c0_5 : Nat) (l0_5 : List Int) (r : List Int) (w : World) (hL : LaidW w) (hr0_5 : Kd.C (Kd.int .i64) w A0_5 l0_5.length l0_5) (hc0_5 : l0_5.length ≤ c0_5) (h : ir_Uses.f k a0_0 a0_1 a0_2 a0_3 a0_4 l0_5 = some r) :
  Calls Tryd.prog 59 #[.agg #[.int .i64 a0_0, .int .i64 a0_1, .int .i64 a0_2, .int .i64 a0_3, .string a0_4, .slice A0_5 l0_5.length c0_5]] w fun e w' => ∃ v0_ : Value, e = .returned (v0_) ∧ Kd.R (Kd.int .i64) 3 w' w.heap.size (fun _ => True) v0_ r ∧ Below w.heap.size w w' := by
 have hu31 := Tryd.underlying31
 have HR0_5 := Aside0.mk hr0_5
 have HC0_5 := Aside0.mk hc0_5
 clear hr0_5 hc0_5
 have HB := Aside0.mk (Below.refl w.heap.size w)
 have HLd := Aside0.mk hL
 clear hL
 have H := h; clear h; unfold ir_Uses.f at H
 replace H := qb H; obtain ⟨t217, A2, H⟩ := H
 by_cases c3 : t217.toList = ([] : List UInt8)
 ·rw [if_pos c3] at H
  obtain ⟨c3b0, c3b1⟩ := qe c3; clear c3
  obtain rfl := Option.some.inj H
  go_enter Tryd.func59, Tryd.ntmps59
  go_wp2_with (first | ((with_reducible refine gate_dst (N := 1) rfl ?_); refine box_event (by rfl) (N := 1) (by rfl) (cs := #[.int .i64 a0_0, .int .i64 a0_1, .int .i64 a0_2, .int .i64 a0_3, .string a0_4, .slice A0_5 l0_5.length c0_5]) (t := 31) ?hr ?_; (case hr => first | (go_simp; done) | (go_simp; rfl)); intro gb216 hg w4 hbox hb; have BK216 := Aside0.mk (hbox); have GW216 := qG hg; have GE216 := GW216; replace HB := qH hb; clear hb hbox hg; obtain ⟨hcz5_0, hcz5_1, hcz5_2, hcz5_3, hcz5_4, hcz5_5, hfz5_0, hfz5_1, hfz5_2, hfz5_3, hfz5_4, hfz5_5⟩ := bk6 BK216.out) | ((with_reducible refine gate_callee (f := 71) rfl ?_); refine goesL_ (some 7) rfl rfl Tryd.func71 (by kernel_rfl) rfl #[.int .i64 a0_0] rfl qL ?_; (with_reducible refine (ir_shape.calls a0_0 t217 _ A2.out (hL := ?side99)).mono ?_); (case side99 => exact LaidW.below HLd.out qB); rintro e w' ⟨rfl, ⟨nd, rfl⟩⟩; refine ⟨_, rfl, ?_⟩))
  go_ret
  exact ⟨_, qE, by first | exact Kd.R_nil _ _ _ _ _ | exact Kd.N_nil _ _ _ _ _ | exact Kd.V_nil _ _ _ _ _ | exact Kd.Q_nil _ _ _ _ _ | exact Kd.S_nil _ _ _ _ _, qB⟩
 ·rw [if_neg c3] at H
  obtain ⟨c3b0, c3b1⟩ := qn c3
  by_cases c6 : 1 < (t217.size : Int)
  ·rw [if_pos c6] at H
   have c6b0 := decide_eq_true c6
   have c6b1 : decide (1 < t217.size) = true := decide_eq_true (by omega)
   clear c6
   have HC8 := Aside0.mk H
   clear H
   go_enter Tryd.func59, Tryd.ntmps59
   go_upto_if 12 with (first | ((with_reducible refine gate_dst (N := 1) rfl ?_); refine box_event (by rfl) (N := 1) (by rfl) (cs := #[.int .i64 a0_0, .int .i64 a0_1, .int .i64 a0_2, .int .i64 a0_3, .string a0_4, .slice A0_5 l0_5.length c0_5]) (t := 31) ?hr ?_; (case hr => first | (go_simp; done) | (go_simp; rfl)); intro gb216 hg w9 hbox hb; have BK216 := Aside0.mk (hbox); have GW216 := qG hg; have GE216 := GW216; replace HB := qH hb; clear hb hbox hg; obtain ⟨hcz10_0, hcz10_1, hcz10_2, hcz10_3, hcz10_4, hcz10_5, hfz10_0, hfz10_1, hfz10_2, hfz10_3, hfz10_4, hfz10_5⟩ := bk6 BK216.out) | ((with_reducible refine gate_callee (f := 71) rfl ?_); refine goesL_ (some 7) rfl rfl Tryd.func71 (by kernel_rfl) rfl #[.int .i64 a0_0] rfl qL ?_; (with_reducible refine (ir_shape.calls a0_0 t217 _ A2.out (hL := ?side99)).mono ?_); (case side99 => exact LaidW.below HLd.out qB); rintro e w' ⟨rfl, ⟨nd, rfl⟩⟩; refine ⟨_, rfl, ?_⟩; have p7 : 0 ≤ (1 : Int) := (by omega); have q7 : 1 < t217.size := (by have : (1 : Int) < (t217.size : Int) := of_decide_eq_true qA; omega); have hx7 : ∀ h : 1 < t217.size, ((t217[1]'h).toNat : Int) = bt t217 1 := bt_at t217 1; clear p7; have qi7 : (1 < (t217.size : Int)) = True := eq_true (of_decide_eq_true qA); replace q7 := eq_true q7))
   (try simp only [Act.put, List.setIfInBounds_toArray, List.set_cons_zero, List.set_cons_succ])
   go_cut [3] (fun v3 wc => ∃ (kq : Nat) (x3_7 : List Int), Aside0 (ir_Uses.j0 kq x3_7 t217 a0_0 a0_1 a0_2 a0_3 a0_4 l0_5 = some r) ∧ Aside0 (kq ≤ k) ∧ Aside0 (Kd.R (Kd.int .i64) 3 wc w.heap.size (fun _ => True) v3 x3_7) ∧ Aside0 (wc.heap[gb216]? = some (.cells #[.int .i64 a0_0, .int .i64 a0_1, .int .i64 a0_2, .int .i64 a0_3, .string a0_4, (.slice A0_5 l0_5.length c0_5)] 31 (0, 0))) ∧ Aside0 (Below w.heap.size w wc))
   case first =>
    have H := HC8.out
    clear HC8
    by_cases c11 : (bt t217 1) = 114
    ·rw [if_pos c11] at H
     obtain ⟨c11b0, c11b1⟩ := qe c11; clear c11
     (first | rw [c11b0] | (simp only [i64_w, i32_w]; rw [c11b0]) | skip)
     by_cases c12 : ([] : List Int).length < 17592186044416
     ·rw [if_pos c12] at H
      have LMc12 := Aside0.mk c12
      clear c12
      obtain ⟨y218, hy218⟩ : ∃ y_ : List Int, y_ = (([] : List Int) ++ [a0_2]) := ⟨_, rfl⟩
      replace H : (ir_Uses.j0 k y218 t217 a0_0 a0_1 a0_2 a0_3 a0_4 l0_5) = some r := by first | (rw [hy218]; with_reducible exact H) | (have H2_ := (Option.bind_some _ _).symm.trans H; rw [hy218]; with_reducible exact H2_) | (have H2_ := (Option.bind_some _ _).symm.trans H; with_reducible exact H2_) | with_reducible exact H | (rw [hy218]; exact H) | exact H
      have Ny218 := Aside0.mk hy218
      clear hy218
      have H' := Aside0.mk H
      clear H
      obtain ⟨hcz13_0, hcz13_1, hcz13_2, hcz13_3, hcz13_4, hcz13_5, hfz13_0, hfz13_1, hfz13_2, hfz13_3, hfz13_4, hfz13_5⟩ := bk6 BK216.out
      go_wp2_with (first | ((with_reducible refine gate_builtin (b := .append) (xs := #[.tmp 13, .tmp 16]) rfl ?_); at_builtin; refine Kd.R_append (Kd.int .i64) (w0 := w) w.heap.size rfl (.tmp 13) (.tmp 16) 29 3 (.int .i64 0) 8 rfl Tryd.underlying29 info3 rfl (by decide) (by omega) (.slice none 0 0) ([] : List Int) a0_2 [.int .i64 a0_2] (fun _ => True) (fun _ => False) rfl rfl ?aP (fun _ hk => hk.elim) ?aF ?aO ?aB ?aS ?aL ?_; (case aP => exact rfl); (case aB => exact qB); (case aF => exact (fun _ _ => trivial)); (case aO => exact ((Kd.R_nil _ _ _ _ (fun _ => True)))); (case aS => exact (below_size qB)); (case aL => have := LMc12.out; omega); intro v219 w14 ho hb hg hat; rw [← Ny218.out] at ho; replace BK216 := Aside0.mk (blk_grown (qK BK216.out) hg (by simp [Value.ownBlock])); replace HB := Aside0.mk (hb); have HO220 := Aside0.mk (ho); clear ho hb hg hat))
      go_meet
      case rel => exact ⟨_, (y218), H', ⟨qO⟩, ⟨qR HO220.out⟩, ⟨qK BK216.out⟩, ⟨qB⟩⟩
     ·rw [if_neg c12] at H
      exact absurd H (by simp)
    ·rw [if_neg c11] at H
     obtain ⟨c11b0, c11b1⟩ := qn c11
     (first | rw [c11b0] | (simp only [i64_w, i32_w]; rw [c11b0]) | skip)
     have H' := Aside0.mk H
     clear H
     go_wp2
     go_meet
     case rel => exact ⟨_, (([] : List Int)), H', ⟨qO⟩, ⟨by first | exact Kd.R_nil _ _ _ _ _ | exact Kd.N_nil _ _ _ _ _ | exact Kd.V_nil _ _ _ _ _ | exact Kd.Q_nil _ _ _ _ _ | exact Kd.S_nil _ _ _ _ _⟩, ⟨qK BK216.out⟩, ⟨qB⟩⟩
   case rest =>
    clear HC8
    try clear c1; try clear p2; try clear c3; try clear c3b0 c3b1; try clear c5; try clear c6; try clear c6b0 c6b1; try clear c7; try clear p7; try clear q7; try clear hx7; try clear qi7; try clear c11; try clear c11b0 c11b1; try clear c12; try clear hcz10_0 hcz10_1 hcz10_2 hcz10_3 hcz10_4 hcz10_5 hfz10_0 hfz10_1 hfz10_2 hfz10_3 hfz10_4 hfz10_5; try clear hcz13_0 hcz13_1 hcz13_2 hcz13_3 hcz13_4 hcz13_5 hfz13_0 hfz13_1 hfz13_2 hfz13_3 hfz13_4 hfz13_5; try clear hcz5_0 hcz5_1 hcz5_2 hcz5_3 hcz5_4 hcz5_5 hfz5_0 hfz5_1 hfz5_2 hfz5_3 hfz5_4 hfz5_5
    obtain ⟨kq, x3_7, HA, HJ7, HO_3, BK216, HB⟩ := hcut
    cases kq with
    | zero => exact absurd HA.out (by simp [ir_Uses.j0])
    | succ kj7 =>
     have H := HA.out
     clear HA
     simp only [ir_Uses.j0] at H
     by_cases c15 : 2 < (t217.size : Int)
     ·rw [if_pos c15] at H
      have c15b0 := decide_eq_true c15
      have c15b1 : decide (2 < t217.size) = true := decide_eq_true (by omega)
      clear c15
      by_cases c17 : (bt t217 2) = 114
      ·rw [if_pos c17] at H
       obtain ⟨c17b0, c17b1⟩ := qe c17; clear c17
       by_cases c18 : x3_7.length < 17592186044416
       ·rw [if_pos c18] at H
        have LMc18 := Aside0.mk c18
        clear c18
        obtain ⟨y221, hy221⟩ : ∃ y_ : List Int, y_ = (x3_7 ++ [a0_3]) := ⟨_, rfl⟩
        replace H : (if a0_0 = 11 then (if y221.length + l0_5.length < 17592186044416 then (some (y221 ++ l0_5)) else (none)) else (some y221)) = some r := by first | (rw [hy221]; with_reducible exact H) | (have H2_ := (Option.bind_some _ _).symm.trans H; rw [hy221]; with_reducible exact H2_) | (have H2_ := (Option.bind_some _ _).symm.trans H; with_reducible exact H2_) | with_reducible exact H | (rw [hy221]; exact H) | exact H
        have Ny221 := Aside0.mk hy221
        clear hy221
        by_cases c19 : a0_0 = 11
        ·rw [if_pos c19] at H
         obtain ⟨c19b0, c19b1⟩ := qe c19; clear c19
         by_cases c20 : y221.length + l0_5.length < 17592186044416
         ·rw [if_pos c20] at H
          have LMc20 := Aside0.mk c20
          clear c20
          obtain ⟨y224, hy224⟩ : ∃ y_ : List Int, y_ = (y221 ++ l0_5) := ⟨_, rfl⟩
          replace H : (some y224) = some r := by first | (rw [hy224]; with_reducible exact H) | (have H2_ := (Option.bind_some _ _).symm.trans H; rw [hy224]; with_reducible exact H2_) | (have H2_ := (Option.bind_some _ _).symm.trans H; with_reducible exact H2_) | with_reducible exact H | (rw [hy224]; exact H) | exact H
          have Ny224 := Aside0.mk hy224
          clear hy224
          obtain rfl := Option.some.inj H
          have p16 : 0 ≤ (2 : Int) := (by omega)
          have q16 : 2 < t217.size := (by have : (2 : Int) < (t217.size : Int) := of_decide_eq_true qA; omega)
          have hx16 : ∀ h : 2 < t217.size, ((t217[2]'h).toNat : Int) = bt t217 2 := bt_at t217 2
          clear p16
          have qi16 : (2 < (t217.size : Int)) = True := eq_true (of_decide_eq_true qA)
          replace q16 := eq_true q16
          obtain ⟨hcz21_0, hcz21_1, hcz21_2, hcz21_3, hcz21_4, hcz21_5, hfz21_0, hfz21_1, hfz21_2, hfz21_3, hfz21_4, hfz21_5⟩ := bk6 BK216.out
          go_wp2_with (first | ((with_reducible refine gate_builtin (b := .append) (xs := #[.tmp 21, .tmp 24]) rfl ?_); at_builtin; refine Kd.R_append (Kd.int .i64) (w0 := w) w.heap.size rfl (.tmp 21) (.tmp 24) 29 3 (.int .i64 0) 8 rfl Tryd.underlying29 info3 rfl (by decide) (by omega) u3 x3_7 a0_3 [.int .i64 a0_3] (fun _ => True) (fun _ => False) rfl rfl ?aP (fun _ hk => hk.elim) ?aF ?aO ?aB ?aS ?aL ?_; (case aP => exact rfl); (case aB => exact qB); (case aF => exact (fun _ _ => trivial)); (case aO => exact (qR HO_3.out)); (case aS => exact (below_size qB)); (case aL => have := LMc18.out; omega); intro v222 w22 ho hb hg hat; rw [← Ny221.out] at ho; replace BK216 := Aside0.mk (blk_grown (qK BK216.out) hg (Kd.R_ne HO_3.out BK216.out (by decide))); replace HB := Aside0.mk (hb); have HO223 := Aside0.mk (ho); clear HO_3; clear ho hb hg hat; obtain ⟨hcz23_0, hcz23_1, hcz23_2, hcz23_3, hcz23_4, hcz23_5, hfz23_0, hfz23_1, hfz23_2, hfz23_3, hfz23_4, hfz23_5⟩ := bk6 BK216.out) | ((with_reducible refine gate_builtin (b := .append) (xs := #[.tmp 29, .tmp 31]) rfl ?_); at_builtin; refine Kd.R_append_rows (Kd.int .i64) (w0 := w) w.heap.size rfl (.tmp 29) (.tmp 31) 29 3 (.int .i64 0) 8 rfl Tryd.underlying29 info3 rfl (by decide) (by omega) v222 y221 l0_5 _ _ _ (fun _ => True) (fun _ => False) rfl rfl ?aO ?aR (fun _ _ h => h) (fun _ h => h.elim) ?aF ?aB ?aS ?aL ?_; (case aR => exact qCB HR0_5.out); (case aB => exact qB); (case aF => exact (fun _ _ => trivial)); (case aO => exact (qR HO223.out)); (case aS => exact (below_size qB)); (case aL => have := LMc20.out; omega); intro v225 w24 ho hb hg hat; rw [← Ny224.out] at ho; replace BK216 := Aside0.mk (blk_grown (qK BK216.out) hg (Kd.R_ne HO223.out BK216.out (by decide))); replace HB := Aside0.mk (hb); have HO226 := Aside0.mk (ho); clear HO223; clear ho hb hg hat))
          go_ret
          exact ⟨_, qE, qR HO226.out, qB⟩
         ·rw [if_neg c20] at H
          exact absurd H (by simp)
        ·rw [if_neg c19] at H
         obtain ⟨c19b0, c19b1⟩ := qn c19
         obtain rfl := Option.some.inj H
         have p16 : 0 ≤ (2 : Int) := (by omega)
         have q16 : 2 < t217.size := (by have : (2 : Int) < (t217.size : Int) := of_decide_eq_true qA; omega)
         have hx16 : ∀ h : 2 < t217.size, ((t217[2]'h).toNat : Int) = bt t217 2 := bt_at t217 2
         clear p16
         have qi16 : (2 < (t217.size : Int)) = True := eq_true (of_decide_eq_true qA)
         replace q16 := eq_true q16
         obtain ⟨hcz25_0, hcz25_1, hcz25_2, hcz25_3, hcz25_4, hcz25_5, hfz25_0, hfz25_1, hfz25_2, hfz25_3, hfz25_4, hfz25_5⟩ := bk6 BK216.out
         go_wp2_with (first | ((with_reducible refine gate_builtin (b := .append) (xs := #[.tmp 21, .tmp 24]) rfl ?_); at_builtin; refine Kd.R_append (Kd.int .i64) (w0 := w) w.heap.size rfl (.tmp 21) (.tmp 24) 29 3 (.int .i64 0) 8 rfl Tryd.underlying29 info3 rfl (by decide) (by omega) u3 x3_7 a0_3 [.int .i64 a0_3] (fun _ => True) (fun _ => False) rfl rfl ?aP (fun _ hk => hk.elim) ?aF ?aO ?aB ?aS ?aL ?_; (case aP => exact rfl); (case aB => exact qB); (case aF => exact (fun _ _ => trivial)); (case aO => exact (qR HO_3.out)); (case aS => exact (below_size qB)); (case aL => have := LMc18.out; omega); intro v222 w26 ho hb hg hat; rw [← Ny221.out] at ho; replace BK216 := Aside0.mk (blk_grown (qK BK216.out) hg (Kd.R_ne HO_3.out BK216.out (by decide))); replace HB := Aside0.mk (hb); have HO223 := Aside0.mk (ho); clear HO_3; clear ho hb hg hat; obtain ⟨hcz27_0, hcz27_1, hcz27_2, hcz27_3, hcz27_4, hcz27_5, hfz27_0, hfz27_1, hfz27_2, hfz27_3, hfz27_4, hfz27_5⟩ := bk6 BK216.out))
         go_ret
         exact ⟨_, qE, qR HO223.out, qB⟩
       ·rw [if_neg c18] at H
        exact absurd H (by simp)
      ·rw [if_neg c17] at H
       obtain ⟨c17b0, c17b1⟩ := qn c17
       by_cases c28 : a0_0 = 11
       ·rw [if_pos c28] at H
        obtain ⟨c28b0, c28b1⟩ := qe c28; clear c28
        by_cases c29 : x3_7.length + l0_5.length < 17592186044416
        ·rw [if_pos c29] at H
         have LMc29 := Aside0.mk c29
         clear c29
         obtain ⟨y227, hy227⟩ : ∃ y_ : List Int, y_ = (x3_7 ++ l0_5) := ⟨_, rfl⟩
         replace H : (some y227) = some r := by first | (rw [hy227]; with_reducible exact H) | (have H2_ := (Option.bind_some _ _).symm.trans H; rw [hy227]; with_reducible exact H2_) | (have H2_ := (Option.bind_some _ _).symm.trans H; with_reducible exact H2_) | with_reducible exact H | (rw [hy227]; exact H) | exact H
         have Ny227 := Aside0.mk hy227
         clear hy227
         obtain rfl := Option.some.inj H
         have p16 : 0 ≤ (2 : Int) := (by omega)
         have q16 : 2 < t217.size := (by have : (2 : Int) < (t217.size : Int) := of_decide_eq_true qA; omega)
         have hx16 : ∀ h : 2 < t217.size, ((t217[2]'h).toNat : Int) = bt t217 2 := bt_at t217 2
         clear p16
         have qi16 : (2 < (t217.size : Int)) = True := eq_true (of_decide_eq_true qA)
         replace q16 := eq_true q16
         obtain ⟨hcz30_0, hcz30_1, hcz30_2, hcz30_3, hcz30_4, hcz30_5, hfz30_0, hfz30_1, hfz30_2, hfz30_3, hfz30_4, hfz30_5⟩ := bk6 BK216.out
         go_wp2_with (first | ((with_reducible refine gate_builtin (b := .append) (xs := #[.tmp 29, .tmp 31]) rfl ?_); at_builtin; refine Kd.R_append_rows (Kd.int .i64) (w0 := w) w.heap.size rfl (.tmp 29) (.tmp 31) 29 3 (.int .i64 0) 8 rfl Tryd.underlying29 info3 rfl (by decide) (by omega) u3 x3_7 l0_5 _ _ _ (fun _ => True) (fun _ => False) rfl rfl ?aO ?aR (fun _ _ h => h) (fun _ h => h.elim) ?aF ?aB ?aS ?aL ?_; (case aR => exact qCB HR0_5.out); (case aB => exact qB); (case aF => exact (fun _ _ => trivial)); (case aO => exact (qR HO_3.out)); (case aS => exact (below_size qB)); (case aL => have := LMc29.out; omega); intro v228 w31 ho hb hg hat; rw [← Ny227.out] at ho; replace BK216 := Aside0.mk (blk_grown (qK BK216.out) hg (Kd.R_ne HO_3.out BK216.out (by decide))); replace HB := Aside0.mk (hb); have HO229 := Aside0.mk (ho); clear HO_3; clear ho hb hg hat))
         go_ret
         exact ⟨_, qE, qR HO229.out, qB⟩
        ·rw [if_neg c29] at H
         exact absurd H (by simp)
       ·rw [if_neg c28] at H
        obtain ⟨c28b0, c28b1⟩ := qn c28
        obtain rfl := Option.some.inj H
        have p16 : 0 ≤ (2 : Int) := (by omega)
        have q16 : 2 < t217.size := (by have : (2 : Int) < (t217.size : Int) := of_decide_eq_true qA; omega)
        have hx16 : ∀ h : 2 < t217.size, ((t217[2]'h).toNat : Int) = bt t217 2 := bt_at t217 2
        clear p16
        have qi16 : (2 < (t217.size : Int)) = True := eq_true (of_decide_eq_true qA)
        replace q16 := eq_true q16
        obtain ⟨hcz32_0, hcz32_1, hcz32_2, hcz32_3, hcz32_4, hcz32_5, hfz32_0, hfz32_1, hfz32_2, hfz32_3, hfz32_4, hfz32_5⟩ := bk6 BK216.out
        go_wp2
        go_ret
        exact ⟨_, qE, qR HO_3.out, qB⟩
     ·rw [if_neg c15] at H
      exact absurd H (by simp)
  ·rw [if_neg c6] at H
   exact absurd H (by simp)

end Go.Proofs.YtebnnknijbgekaaDoor.Q
namespace Go.Proofs.YtebnnknijbgekaaDoor.Q
open Go.RowKit Go.Proofs.YtebnnknijbgekaaDoorW.PrintWords Go.Proofs.YtebnnknijbgekaaDoorW.PrintLast Go.Proofs.YtebnnknijbgekaaDoorW.PrintMore
attribute [local go_sem] max2_int min2_int max_two min_two max_three min_three max_four min_four   -- for this text's walks alone
set_option linter.unusedVariables false
set_option linter.unusedSimpArgs false

/-! ### live_set_with: function 95 -/
def live_set_with.f (a0 : Int) (a1 : Int) : Option (Int) := if 0 ≤ (IntKind.u64.wrap (a1)) then (some (Go.bits .or .u64 a0 (shl .u64 1 (IntKind.u64.wrap (a1))))) else (none)
set_option maxHeartbeats 8000000 in
set_option maxRecDepth 100000 in
theorem live_set_with.calls (a0 : Int) (a1 : Int) (r : Int) (w : World) (h : live_set_with.f a0 a1 = some r) :
  Calls Tryd.prog 95 #[.int .u64 a0, .int .i64 a1] w fun e w' => e = .returned (.int .u64 r) ∧ Drawn0 w w' := by
 have H := h; clear h; unfold live_set_with.f at H
 obtain ⟨ji3, hji3⟩ : ∃ j_ : Int, (IntKind.u64.wrap (a1)) = j_ := ⟨_, rfl⟩
 replace H : (if 0 ≤ (ji3) then (some (Go.bits .or .u64 a0 (shl .u64 1 (ji3)))) else (none)) = some r := by first | (rw [hji3] at H; exact H) | (simp only [hji3] at H ⊢; exact H)
 by_cases c4 : 0 ≤ (ji3)
 ·rw [if_pos c4] at H
  have c4b0 := eq_true c4
  have c4b1 := decide_eq_true c4
  clear c4
  obtain ⟨ji5, hji5⟩ : ∃ j_ : Int, (shl .u64 1 (ji3)) = j_ := ⟨_, rfl⟩
  replace H : (some (Go.bits .or .u64 a0 (ji5))) = some r := by first | (rw [hji5] at H; exact H) | (simp only [hji5] at H ⊢; exact H)
  have hji5_ : (IntKind.u64.wrap (1 * 2 ^ min (ji3).toNat 64)) = ji5 := hji5
  have hji5z : (ji3) ≤ 64 → (IntKind.u64.wrap (1 * 2 ^ (ji3).toNat)) = ji5 := shl_small hji5
  have hji5u : (IntKind.u64.wrap (2 ^ min (ji3).toNat 64)) = ji5 := by have h_ := hji5_; rw [Int.one_mul] at h_; exact h_
  have hji5v : (ji3) ≤ 64 → (IntKind.u64.wrap (2 ^ (ji3).toNat)) = ji5 := fun hle_ => by have h_ := hji5z hle_; rw [Int.one_mul] at h_; exact h_
  obtain rfl := Option.some.inj H
  go_enter Tryd.func95, Tryd.ntmps95
  go_wp2
  go_ret
  exact ⟨by first | rfl | (simp; done) | (simp only [← hji3, ← hji5] <;> (first | rfl | simp)) | (simp [*]; done), qD⟩
 ·rw [if_neg c4] at H
  exact absurd H (by simp)

end Go.Proofs.YtebnnknijbgekaaDoor.Q
namespace Go.Proofs.YtebnnknijbgekaaDoor.Q
open Go.RowKit Go.Proofs.YtebnnknijbgekaaDoorW.PrintWords Go.Proofs.YtebnnknijbgekaaDoorW.PrintLast Go.Proofs.YtebnnknijbgekaaDoorW.PrintMore
attribute [local go_sem] max2_int min2_int max_two min_two max_three min_three max_four min_four   -- for this text's walks alone
set_option linter.unusedVariables false
set_option linter.unusedSimpArgs false

/-! ### live_set_each: function 94 -/
def live_set_each.l0 : Nat → Int → List Int → Int → Int → Option (Int)
 | 0, _, _, _, _ => none
 | k + 1, x0, x9, x10, x11 => if x11 < x10 then (if 0 ≤ x11 then (if x11 < (x9.length : Int) then ((live_set_with.f x0 (rd x9 x11)).bind fun t231 => (live_set_each.l0 k t231 x9 x10 (wrap64 (x11 + 1)))) else (none)) else (none)) else (some x0)
def live_set_each.f (k : Nat) (a0 : Int) (l1 : List Int) (a2 : Bool) : Option (Int) := live_set_each.l0 k a0 l1 (l1.length : Int) 0
theorem live_set_each.mono_l : ∀ k, (∀ y0 y1 y2 y3, LeO (live_set_each.l0 k y0 y1 y2 y3) (live_set_each.l0 (k + 1) y0 y1 y2 y3))
 | 0 => fun _ _ _ _ r h => by simp [live_set_each.l0] at h
 | k + 1 => by
  have ih0 := live_set_each.mono_l k
  ·intro y0 y1 y2 y3
   unfold live_set_each.l0
   repeat' first | (with_reducible exact ih0 _ _ _ _) | (with_reducible exact LeO.refl _) | (with_reducible exact LeO.none _) | (with_reducible refine LeO.ite ?_ ?_) | (with_reducible refine LeO.bind ?_ (fun _ => ?_)) | exact LeO.none _ | refine LeO.ite ?_ ?_ | refine LeO.bind ?_ (fun _ => ?_)
theorem live_set_each.mono : ∀ a0 a1 a2 k, LeO (live_set_each.f k a0 a1 a2) (live_set_each.f (k + 1) a0 a1 a2) := by
 intro a0 a1 a2 k
 have ih0 := live_set_each.mono_l k
 unfold live_set_each.f
 repeat' first | (with_reducible exact ih0 _ _ _ _) | (with_reducible exact LeO.refl _) | (with_reducible exact LeO.none _) | (with_reducible refine LeO.ite ?_ ?_) | (with_reducible refine LeO.bind ?_ (fun _ => ?_)) | exact LeO.none _ | refine LeO.ite ?_ ?_ | refine LeO.bind ?_ (fun _ => ?_)
set_option maxHeartbeats 8000000 in
set_option maxRecDepth 100000 in
theorem live_set_each.calls (k : Nat) (a0 : Int) (A1 : Option Addr) (c1 : Nat) (l1 : List Int) (a2 : Bool) (r : Int) (w : World) (hr1 : Kd.C (Kd.int .i64) w A1 l1.length l1) (hc1 : l1.length ≤ c1) (h : live_set_each.f k a0 l1 a2 = some r) :
  Calls Tryd.prog 94 #[.int .u64 a0, .slice A1 l1.length c1, .func (.func 95) #[] #[]] w fun e w' => e = .returned (.int .u64 r) ∧ Drawn0 w w' := by
 have HR1 := Aside0.mk hr1
 have HC1 := Aside0.mk hc1
 clear hr1 hc1
 have H := h; clear h; unfold live_set_each.f at H
 have H' := Aside0.mk H
 clear H
 go_enter Tryd.func94, Tryd.ntmps94
 go_wp2
 go_loopg [0, 11] k (fun kq v0 v11 w' => ∃ (x0_1 : Int) (x11_1 : Int), v0 = .int .u64 x0_1 ∧ v11 = .int .i64 x11_1 ∧ Aside0 (live_set_each.l0 kq x0_1 l1 (l1.length : Int) x11_1 = some r) ∧ Aside0 (kq ≤ k) ∧ Drawn0 w w')
 case atStart => exact ⟨(a0), (0), qT, qT, H', ⟨Nat.le_refl _⟩, qD⟩
 case round =>
  clear H'
  try clear c1; try clear p2
  obtain ⟨x0_1, x11_1, rfl, rfl, HA, HK1, ⟨m1, rfl⟩⟩ := hrel
  cases gk with
  | zero => exact absurd HA.out (by simp [live_set_each.l0])
  | succ k1 =>
   have H := HA.out
   clear HA
   simp only [live_set_each.l0] at H
   by_cases c4 : x11_1 < (l1.length : Int)
   ·rw [if_pos c4] at H
    have c4b0 := decide_eq_true c4
    clear c4
    by_cases c5 : 0 ≤ x11_1
    ·rw [if_pos c5] at H
     have c5b0 := decide_eq_true c5
     clear c5
     by_cases c6 : x11_1 < (l1.length : Int)
     ·rw [if_pos c6] at H
      have c6b0 := decide_eq_true c6
      clear c6
      replace H := qb H; obtain ⟨t231, A7, H⟩ := H
      have H' := Aside0.mk H
      clear H
      have p230 : 0 ≤ (x11_1 : Int) := of_decide_eq_true qA
      have q230 : x11_1 < (l1.length : Int) := of_decide_eq_true qA
      obtain ⟨ad230, e230, hx230_0⟩ := Kd.at_int HR1.out x11_1 p230 q230
      cases e230
      replace p230 := eq_true p230
      replace q230 := eq_true q230
      go_wp2_with (first | (go_at_call 95; (with_reducible refine (live_set_with.calls x0_1 (rd l1 x11_1) t231 _ A7.out).mono ?_); rintro e w' ⟨rfl, ⟨nd, rfl⟩⟩))
      go_roundg k1
      case measure => have := HK1.out; omega
      case rel => exact ⟨(t231), (wrap64 (x11_1 + 1)), qT, qT, H', ⟨by have := HK1.out; omega⟩, qD⟩
     ·rw [if_neg c6] at H
      exact absurd H (by simp)
    ·rw [if_neg c5] at H
     exact absurd H (by simp)
   ·rw [if_neg c4] at H
    have c4b0 := decide_eq_false c4
    clear c4
    obtain rfl := Option.some.inj H
    go_wp2
    go_ret
    exact ⟨by first | rfl | (simp; done) | (simp [*]; done), qD⟩

end Go.Proofs.YtebnnknijbgekaaDoor.Q
namespace Go.Proofs.YtebnnknijbgekaaDoor.Q
open Go.RowKit Go.Proofs.YtebnnknijbgekaaDoorW.PrintWords Go.Proofs.YtebnnknijbgekaaDoorW.PrintLast Go.Proofs.YtebnnknijbgekaaDoorW.PrintMore
attribute [local go_sem] max2_int min2_int max_two min_two max_three min_three max_four min_four   -- for this text's walks alone
set_option linter.unusedVariables false
set_option linter.unusedSimpArgs false

/-! ### live_set_without: function 93 -/
def live_set_without.f (a0 : Int) (a1 : Int) : Option (Int) := if 0 ≤ (IntKind.u64.wrap (a1)) then (some (Go.bits .andNot .u64 a0 (shl .u64 1 (IntKind.u64.wrap (a1))))) else (none)
set_option maxHeartbeats 8000000 in
set_option maxRecDepth 100000 in
theorem live_set_without.calls (a0 : Int) (a1 : Int) (r : Int) (w : World) (h : live_set_without.f a0 a1 = some r) :
  Calls Tryd.prog 93 #[.int .u64 a0, .int .i64 a1] w fun e w' => e = .returned (.int .u64 r) ∧ Drawn0 w w' := by
 have H := h; clear h; unfold live_set_without.f at H
 obtain ⟨ji3, hji3⟩ : ∃ j_ : Int, (IntKind.u64.wrap (a1)) = j_ := ⟨_, rfl⟩
 replace H : (if 0 ≤ (ji3) then (some (Go.bits .andNot .u64 a0 (shl .u64 1 (ji3)))) else (none)) = some r := by first | (rw [hji3] at H; exact H) | (simp only [hji3] at H ⊢; exact H)
 by_cases c4 : 0 ≤ (ji3)
 ·rw [if_pos c4] at H
  have c4b0 := eq_true c4
  have c4b1 := decide_eq_true c4
  clear c4
  obtain ⟨ji5, hji5⟩ : ∃ j_ : Int, (shl .u64 1 (ji3)) = j_ := ⟨_, rfl⟩
  replace H : (some (Go.bits .andNot .u64 a0 (ji5))) = some r := by first | (rw [hji5] at H; exact H) | (simp only [hji5] at H ⊢; exact H)
  have hji5_ : (IntKind.u64.wrap (1 * 2 ^ min (ji3).toNat 64)) = ji5 := hji5
  have hji5z : (ji3) ≤ 64 → (IntKind.u64.wrap (1 * 2 ^ (ji3).toNat)) = ji5 := shl_small hji5
  have hji5u : (IntKind.u64.wrap (2 ^ min (ji3).toNat 64)) = ji5 := by have h_ := hji5_; rw [Int.one_mul] at h_; exact h_
  have hji5v : (ji3) ≤ 64 → (IntKind.u64.wrap (2 ^ (ji3).toNat)) = ji5 := fun hle_ => by have h_ := hji5z hle_; rw [Int.one_mul] at h_; exact h_
  obtain rfl := Option.some.inj H
  go_enter Tryd.func93, Tryd.ntmps93
  go_wp2
  go_ret
  exact ⟨by first | rfl | (simp; done) | (simp only [← hji3, ← hji5] <;> (first | rfl | simp)) | (simp [*]; done), qD⟩
 ·rw [if_neg c4] at H
  exact absurd H (by simp)

end Go.Proofs.YtebnnknijbgekaaDoor.Q
namespace Go.Proofs.YtebnnknijbgekaaDoor.Q
open Go.RowKit Go.Proofs.YtebnnknijbgekaaDoorW.PrintWords Go.Proofs.YtebnnknijbgekaaDoorW.PrintLast Go.Proofs.YtebnnknijbgekaaDoorW.PrintMore
attribute [local go_sem] max2_int min2_int max_two min_two max_three min_three max_four min_four   -- for this text's walks alone
set_option linter.unusedVariables false
set_option linter.unusedSimpArgs false

/-! ### live_through: function 74 -/
def live_through.f (k : Nat) (a0_0 : Int) (a0_1 : Int) (a0_2 : Int) (a0_3 : Int) (a0_4 : ByteArray) (l0_5 : List Int) (a1 : Int) : Option (Int) := (ir_Def.f a0_0 a0_1 a0_2 a0_3 a0_4 l0_5).bind fun t233 => (if t233 ≥ 0 then ((live_set_without.f a1 t233).bind fun t234 => ((ir_Uses.f k a0_0 a0_1 a0_2 a0_3 a0_4 l0_5).bind fun t235 => ((live_set_each.f k t234 t235 false).bind fun t238 => (some t238)))) else ((ir_Uses.f k a0_0 a0_1 a0_2 a0_3 a0_4 l0_5).bind fun t239 => ((live_set_each.f k a1 t239 false).bind fun t242 => (some t242))))
theorem live_through.mono : ∀ a0 a1 a2 a3 a4 a5 a6 k, LeO (live_through.f k a0 a1 a2 a3 a4 a5 a6) (live_through.f (k + 1) a0 a1 a2 a3 a4 a5 a6) := by
 intro a0 a1 a2 a3 a4 a5 a6 k
 unfold live_through.f
 repeat' first | (with_reducible exact ir_Uses.mono _ _ _ _ _ _ _) | (with_reducible exact live_set_each.mono _ _ _ _) | (with_reducible exact LeO.refl _) | (with_reducible exact LeO.none _) | (with_reducible refine LeO.ite ?_ ?_) | (with_reducible refine LeO.bind ?_ (fun _ => ?_)) | exact LeO.none _ | refine LeO.ite ?_ ?_ | refine LeO.bind ?_ (fun _ => ?_)
set_option maxHeartbeats 8000000 in
set_option maxRecDepth 100000 in
theorem live_through.calls (k : Nat) (a0_0 : Int) (a0_1 : Int) (a0_2 : Int) (a0_3 : Int) (a0_4 : ByteArray) (A0_5 : Option Addr) (c0_5 : Nat) (l0_5 : List Int) (a1 : Int) (r : Int) (w : World) (hL : LaidW w) (hr0_5 : Kd.C (Kd.int .i64) w A0_5 l0_5.length l0_5) (hc0_5 : l0_5.length ≤ c0_5) (h : live_through.f k a0_0 a0_1 a0_2 a0_3 a0_4 l0_5 a1 = some r) :
  Calls Tryd.prog 74 #[.agg #[.int .i64 a0_0, .int .i64 a0_1, .int .i64 a0_2, .int .i64 a0_3, .string a0_4, .slice A0_5 l0_5.length c0_5], .int .u64 a1] w fun e w' => e = .returned (.int .u64 r) ∧ Below w.heap.size w w' := by
 have hu31 := Tryd.underlying31
 have HR0_5 := Aside0.mk hr0_5
 have HC0_5 := Aside0.mk hc0_5
 clear hr0_5 hc0_5
 have HB := Aside0.mk (Below.refl w.heap.size w)
 have HLd := Aside0.mk hL
 clear hL
 have H := h; clear h; unfold live_through.f at H
 replace H := qb H; obtain ⟨t233, A3, H⟩ := H
 by_cases c4 : t233 ≥ 0
 ·rw [if_pos c4] at H
  have c4b0 : decide (0 ≤ t233) = true := decide_eq_true c4
  clear c4
  replace H := qb H; obtain ⟨t234, A5, H⟩ := H
  replace H := qb H; obtain ⟨t235, A6, H⟩ := H
  replace H := qb H; obtain ⟨t238, A7, H⟩ := H
  obtain rfl := Option.some.inj H
  go_enter Tryd.func74, Tryd.ntmps74
  go_wp2_with (first | ((with_reducible refine gate_dst (N := 2) rfl ?_); refine box_event (by rfl) (N := 2) (by rfl) (cs := #[.int .i64 a0_0, .int .i64 a0_1, .int .i64 a0_2, .int .i64 a0_3, .string a0_4, .slice A0_5 l0_5.length c0_5]) (t := 31) ?hr ?_; (case hr => first | (go_simp; done) | (go_simp; rfl)); intro gb232 hg w8 hbox hb; have BK232 := Aside0.mk (hbox); have GW232 := qG hg; have GE232 := GW232; replace HB := qH hb; clear hb hbox hg; obtain ⟨hcz9_0, hcz9_1, hcz9_2, hcz9_3, hcz9_4, hcz9_5, hfz9_0, hfz9_1, hfz9_2, hfz9_3, hfz9_4, hfz9_5⟩ := bk6 BK232.out) | ((with_reducible refine gate_callee (f := 48) rfl ?_); refine goesL_ (some 7) rfl rfl Tryd.func48 (by kernel_rfl) rfl #[.agg #[.int .i64 a0_0, .int .i64 a0_1, .int .i64 a0_2, .int .i64 a0_3, .string a0_4, .slice A0_5 l0_5.length c0_5]] rfl qL ?_; (with_reducible refine (ir_Def.calls a0_0 a0_1 a0_2 a0_3 a0_4 _ _ l0_5 t233 _ ?side1 ?side2 A3.out (hL := ?side99)).mono ?_); (case side1 => exact qCB HR0_5.out); (case side2 => exact HC0_5.out); (case side99 => exact LaidW.below HLd.out qB); rintro e w10 ⟨rfl, hb⟩; refine ⟨_, rfl, ?_⟩; replace BK232 := qW BK232 hb; replace HB := qH hb; (try clear hb)) | ((with_reducible refine gate_callee (f := 93) rfl ?_); refine goesL_ (some 12) rfl rfl Tryd.func93 (by kernel_rfl) rfl #[.int .u64 a1, .int .i64 t233] rfl qL ?_; (with_reducible refine (live_set_without.calls a1 t233 t234 _ A5.out).mono ?_); rintro e w' ⟨rfl, ⟨nd, rfl⟩⟩; refine ⟨_, rfl, ?_⟩; obtain ⟨hcz11_0, hcz11_1, hcz11_2, hcz11_3, hcz11_4, hcz11_5, hfz11_0, hfz11_1, hfz11_2, hfz11_3, hfz11_4, hfz11_5⟩ := bk6 BK232.out) | ((with_reducible refine gate_callee (f := 59) rfl ?_); refine goesL_ (some 15) rfl rfl Tryd.func59 (by kernel_rfl) rfl #[.agg #[.int .i64 a0_0, .int .i64 a0_1, .int .i64 a0_2, .int .i64 a0_3, .string a0_4, .slice A0_5 l0_5.length c0_5]] rfl qL ?_; (with_reducible refine (ir_Uses.calls k a0_0 a0_1 a0_2 a0_3 a0_4 _ _ l0_5 t235 _ ?side1 ?side2 A6.out (hL := ?side99)).mono ?_); (case side1 => repeat (first | exact (Kd.C_below HR0_5.out qB) | (with_reducible refine Kd.C_alloc ?_ _) | (with_reducible refine Kd.C_drewN ?_ _) | (with_reducible refine Kd.C_drew ?_))); (case side2 => exact HC0_5.out); (case side99 => exact LaidW.below HLd.out qB); rintro e w12 ⟨v236, rfl, ho0, hb⟩; refine ⟨_, rfl, ?_⟩; have HO237 := Aside0.mk (Kd.R_lower ho0 (below_size qB)); replace BK232 := qW BK232 hb; replace HB := qH hb; (try clear hb); (try clear ho0); obtain ⟨Ao13, co13, eo13⟩ := Kd.R_slice HO237.out; subst eo13) | ((with_reducible refine gate_callee (f := 94) rfl ?_); refine goesL_ (some 16) rfl rfl Tryd.func94 (by kernel_rfl) rfl #[.int .u64 t234, .slice Ao13 t235.length co13, .func (.func 95) #[] #[]] rfl qL ?_; (with_reducible refine (live_set_each.calls k t234 _ _ t235 false t238 _ ?side1 ?side2 A7.out).mono ?_); (case side1 => repeat (first | exact (Kd.R_reads' HO237.out).2.2 | (with_reducible refine Kd.C_alloc ?_ _) | (with_reducible refine Kd.C_drewN ?_ _) | (with_reducible refine Kd.C_drew ?_))); (case side2 => exact (Kd.R_reads' HO237.out).2.1); rintro e w' ⟨rfl, ⟨nd, rfl⟩⟩; refine ⟨_, rfl, ?_⟩))
  go_ret
  exact ⟨qE, qB⟩
 ·rw [if_neg c4] at H
  have c4b0 : decide (0 ≤ t233) = false := decide_eq_false c4
  clear c4
  replace H := qb H; obtain ⟨t239, A14, H⟩ := H
  replace H := qb H; obtain ⟨t242, A15, H⟩ := H
  obtain rfl := Option.some.inj H
  go_enter Tryd.func74, Tryd.ntmps74
  go_wp2_with (first | ((with_reducible refine gate_dst (N := 2) rfl ?_); refine box_event (by rfl) (N := 2) (by rfl) (cs := #[.int .i64 a0_0, .int .i64 a0_1, .int .i64 a0_2, .int .i64 a0_3, .string a0_4, .slice A0_5 l0_5.length c0_5]) (t := 31) ?hr ?_; (case hr => first | (go_simp; done) | (go_simp; rfl)); intro gb232 hg w16 hbox hb; have BK232 := Aside0.mk (hbox); have GW232 := qG hg; have GE232 := GW232; replace HB := qH hb; clear hb hbox hg; obtain ⟨hcz17_0, hcz17_1, hcz17_2, hcz17_3, hcz17_4, hcz17_5, hfz17_0, hfz17_1, hfz17_2, hfz17_3, hfz17_4, hfz17_5⟩ := bk6 BK232.out) | ((with_reducible refine gate_callee (f := 48) rfl ?_); refine goesL_ (some 7) rfl rfl Tryd.func48 (by kernel_rfl) rfl #[.agg #[.int .i64 a0_0, .int .i64 a0_1, .int .i64 a0_2, .int .i64 a0_3, .string a0_4, .slice A0_5 l0_5.length c0_5]] rfl qL ?_; (with_reducible refine (ir_Def.calls a0_0 a0_1 a0_2 a0_3 a0_4 _ _ l0_5 t233 _ ?side1 ?side2 A3.out (hL := ?side99)).mono ?_); (case side1 => exact qCB HR0_5.out); (case side2 => exact HC0_5.out); (case side99 => exact LaidW.below HLd.out qB); rintro e w18 ⟨rfl, hb⟩; refine ⟨_, rfl, ?_⟩; replace BK232 := qW BK232 hb; replace HB := qH hb; (try clear hb); obtain ⟨hcz19_0, hcz19_1, hcz19_2, hcz19_3, hcz19_4, hcz19_5, hfz19_0, hfz19_1, hfz19_2, hfz19_3, hfz19_4, hfz19_5⟩ := bk6 BK232.out) | ((with_reducible refine gate_callee (f := 59) rfl ?_); refine goesL_ (some 15) rfl rfl Tryd.func59 (by kernel_rfl) rfl #[.agg #[.int .i64 a0_0, .int .i64 a0_1, .int .i64 a0_2, .int .i64 a0_3, .string a0_4, .slice A0_5 l0_5.length c0_5]] rfl qL ?_; (with_reducible refine (ir_Uses.calls k a0_0 a0_1 a0_2 a0_3 a0_4 _ _ l0_5 t239 _ ?side1 ?side2 A14.out (hL := ?side99)).mono ?_); (case side1 => exact qCB HR0_5.out); (case side2 => exact HC0_5.out); (case side99 => exact LaidW.below HLd.out qB); rintro e w20 ⟨v240, rfl, ho0, hb⟩; refine ⟨_, rfl, ?_⟩; have HO241 := Aside0.mk (Kd.R_lower ho0 (below_size qB)); replace BK232 := qW BK232 hb; replace HB := qH hb; (try clear hb); (try clear ho0); obtain ⟨Ao21, co21, eo21⟩ := Kd.R_slice HO241.out; subst eo21) | ((with_reducible refine gate_callee (f := 94) rfl ?_); refine goesL_ (some 16) rfl rfl Tryd.func94 (by kernel_rfl) rfl #[.int .u64 a1, .slice Ao21 t239.length co21, .func (.func 95) #[] #[]] rfl qL ?_; (with_reducible refine (live_set_each.calls k a1 _ _ t239 false t242 _ ?side1 ?side2 A15.out).mono ?_); (case side1 => repeat (first | exact (Kd.R_reads' HO241.out).2.2 | (with_reducible refine Kd.C_alloc ?_ _) | (with_reducible refine Kd.C_drewN ?_ _) | (with_reducible refine Kd.C_drew ?_))); (case side2 => exact (Kd.R_reads' HO241.out).2.1); rintro e w' ⟨rfl, ⟨nd, rfl⟩⟩; refine ⟨_, rfl, ?_⟩))
  go_ret
  exact ⟨qE, qB⟩

end Go.Proofs.YtebnnknijbgekaaDoor.Q
namespace Go.Proofs.YtebnnknijbgekaaDoor.Q
open Go.RowKit Go.Proofs.YtebnnknijbgekaaDoorW.PrintWords Go.Proofs.YtebnnknijbgekaaDoorW.PrintLast Go.Proofs.YtebnnknijbgekaaDoorW.PrintMore
attribute [local go_sem] max2_int min2_int max_two min_two max_three min_three max_four min_four   -- for this text's walks alone
set_option linter.unusedVariables false
set_option linter.unusedSimpArgs false

/-! ### live_ahead: function 51 -/
mutual
def live_ahead.l0 : Nat → List Int → Int → Int → Int → List Int → Int → Int → ByteArray → Int → Int → List (List (SIns)) → Option (Int)
 | 0, _, _, _, _, _, _, _, _, _, _, _ => none
 | k + 1, x1, x2, x3, x9, x16, x17, x18, x244000, x244001, x244002, x244003 => if x18 < x17 then (if 0 ≤ x18 then (if x18 < (x16.length : Int) then (if 0 ≤ (rd x16 x18) then (if (rd x16 x18) < (x1.length : Int) then (live_ahead.l0 k x1 x2 x3 (Go.bits .or .u64 x9 (rd x1 (rd x16 x18))) x16 x17 (wrap64 (x18 + 1)) x244000 x244001 x244002 x244003) else (none)) else (none)) else (none)) else (none)) else (if 0 ≤ x2 then (if x2 < (x244003.length : Int) then (live_ahead.l1 k x2 x3 x9 (wrap64 (((rd_LIns x244003 x2).length : Int) - 1)) x244000 x244001 x244002 x244003) else (none)) else (none))
def live_ahead.l1 : Nat → Int → Int → Int → Int → ByteArray → Int → Int → List (List (SIns)) → Option (Int)
 | 0, _, _, _, _, _, _, _, _ => none
 | k + 1, x2, x3, x9, x12, x244000, x244001, x244002, x244003 => if x12 ≥ x3 then (if 0 ≤ x2 then (if x2 < (x244003.length : Int) then (if 0 ≤ x12 then (if x12 < ((rd_LIns x244003 x2).length : Int) then ((live_through.f k ((rd_TIns (rd_LIns x244003 x2) x12).f0) ((rd_TIns (rd_LIns x244003 x2) x12).f1) ((rd_TIns (rd_LIns x244003 x2) x12).f2) ((rd_TIns (rd_LIns x244003 x2) x12).f3) ((rd_TIns (rd_LIns x244003 x2) x12).f4) ((rd_TIns (rd_LIns x244003 x2) x12).f5) x9).bind fun t252 => (live_ahead.l1 k x2 x3 t252 (wrap64 (x12 - 1)) x244000 x244001 x244002 x244003)) else (none)) else (none)) else (none)) else (none)) else (some x9)
end
def live_ahead.f (k : Nat) (a0_0 : ByteArray) (a0_1 : Int) (a0_2 : Int) (l0_3 : List (List (SIns))) (l1 : List Int) (a2 : Int) (a3 : Int) : Option (Int) := (flow_Succs.f k l0_3 a2).bind fun t244 => (live_ahead.l0 k l1 a2 a3 0 t244 (t244.length : Int) 0 a0_0 a0_1 a0_2 l0_3)
theorem live_ahead.mono_l : ∀ k, (∀ y0 y1 y2 y3 y4 y5 y6 y7 y8 y9 y10, LeO (live_ahead.l0 k y0 y1 y2 y3 y4 y5 y6 y7 y8 y9 y10) (live_ahead.l0 (k + 1) y0 y1 y2 y3 y4 y5 y6 y7 y8 y9 y10)) ∧ (∀ y0 y1 y2 y3 y4 y5 y6 y7, LeO (live_ahead.l1 k y0 y1 y2 y3 y4 y5 y6 y7) (live_ahead.l1 (k + 1) y0 y1 y2 y3 y4 y5 y6 y7))
 | 0 => ⟨fun _ _ _ _ _ _ _ _ _ _ _ r h => by simp [live_ahead.l0] at h, fun _ _ _ _ _ _ _ _ r h => by simp [live_ahead.l1] at h⟩
 | k + 1 => by
  obtain ⟨ih0, ih1⟩ := live_ahead.mono_l k
  refine ⟨?_, ?_⟩ <;> intros <;> (first | unfold live_ahead.l0 | unfold live_ahead.l1) <;> repeat' first | (with_reducible exact ih0 _ _ _ _ _ _ _ _ _ _ _) | (with_reducible exact ih1 _ _ _ _ _ _ _ _) | (with_reducible exact flow_Succs.mono _ _ _) | (with_reducible exact live_through.mono _ _ _ _ _ _ _ _) | (with_reducible exact LeO.refl _) | (with_reducible exact LeO.none _) | (with_reducible refine LeO.ite ?_ ?_) | (with_reducible refine LeO.bind ?_ (fun _ => ?_)) | exact LeO.none _ | refine LeO.ite ?_ ?_ | refine LeO.bind ?_ (fun _ => ?_)
theorem live_ahead.mono : ∀ a0 a1 a2 a3 a4 a5 a6 k, LeO (live_ahead.f k a0 a1 a2 a3 a4 a5 a6) (live_ahead.f (k + 1) a0 a1 a2 a3 a4 a5 a6) := by
 intro a0 a1 a2 a3 a4 a5 a6 k
 obtain ⟨ih0, ih1⟩ := live_ahead.mono_l k
 unfold live_ahead.f
 repeat' first | (with_reducible exact ih0 _ _ _ _ _ _ _ _ _ _ _) | (with_reducible exact ih1 _ _ _ _ _ _ _ _) | (with_reducible exact flow_Succs.mono _ _ _) | (with_reducible exact live_through.mono _ _ _ _ _ _ _ _) | (with_reducible exact LeO.refl _) | (with_reducible exact LeO.none _) | (with_reducible refine LeO.ite ?_ ?_) | (with_reducible refine LeO.bind ?_ (fun _ => ?_)) | exact LeO.none _ | refine LeO.ite ?_ ?_ | refine LeO.bind ?_ (fun _ => ?_)
set_option maxHeartbeats 8000000 in
set_option maxRecDepth 100000 in
theorem live_ahead.calls (k : Nat) (a0_0 : ByteArray) (a0_1 : Int) (a0_2 : Int) (A0_3 : Option Addr) (c0_3 : Nat) (l0_3 : List (List (SIns))) (A1 : Option Addr) (c1 : Nat) (l1 : List Int) (a2 : Int) (a3 : Int) (r : Int) (w : World) (hL : LaidW w) (hr0_3 : Kd.C (Kd.slice 31 kIns) w A0_3 l0_3.length l0_3) (hc0_3 : l0_3.length ≤ c0_3) (hr1 : Kd.C (Kd.int .u64) w A1 l1.length l1) (hc1 : l1.length ≤ c1) (h : live_ahead.f k a0_0 a0_1 a0_2 l0_3 l1 a2 a3 = some r) :
  Calls Tryd.prog 51 #[.agg #[.string a0_0, .int .i64 a0_1, .int .i64 a0_2, .slice A0_3 l0_3.length c0_3], .slice A1 l1.length c1, .int .i64 a2, .int .i64 a3] w fun e w' => e = .returned (.int .u64 r) ∧ Below w.heap.size w w' := by
 have hu34 := Tryd.underlying34
 have hu31 := Tryd.underlying31
 have HR0_3 := Aside0.mk hr0_3
 have HC0_3 := Aside0.mk hc0_3
 clear hr0_3 hc0_3
 have HR1 := Aside0.mk hr1
 have HC1 := Aside0.mk hc1
 clear hr1 hc1
 have HB := Aside0.mk (Below.refl w.heap.size w)
 have HLd := Aside0.mk hL
 clear hL
 have H := h; clear h; unfold live_ahead.f at H
 replace H := qb H; obtain ⟨t244, A5, H⟩ := H
 have H' := Aside0.mk H
 clear H
 go_enter Tryd.func51, Tryd.ntmps51
 go_wp2_with (first | ((with_reducible refine gate_dst (N := 4) rfl ?_); refine box_event (by rfl) (N := 4) (by rfl) (cs := #[.string a0_0, .int .i64 a0_1, .int .i64 a0_2, .slice A0_3 l0_3.length c0_3]) (t := 34) ?hr ?_; (case hr => first | (go_simp; done) | (go_simp; rfl)); intro gb243 hg w6 hbox hb; have BK243 := Aside0.mk (hbox); have GW243 := qG hg; have GE243 := GW243; replace HB := qH hb; clear hb hbox hg; obtain ⟨hcz7_0, hcz7_1, hcz7_2, hcz7_3, hfz7_0, hfz7_1, hfz7_2, hfz7_3⟩ := bk4 BK243.out) | ((with_reducible refine gate_callee (f := 73) rfl ?_); refine goesL_ (some 16) rfl rfl Tryd.func73 (by kernel_rfl) rfl #[.slice A0_3 l0_3.length c0_3, .int .i64 a2] rfl qL ?_; (with_reducible refine (flow_Succs.calls k _ _ l0_3 a2 t244 _ ?side1 ?side2 A5.out).mono ?_); (case side1 => exact qCB HR0_3.out); (case side2 => exact HC0_3.out); rintro e w8 ⟨v245, rfl, ho0, hb⟩; refine ⟨_, rfl, ?_⟩; have HO246 := Aside0.mk (Kd.R_lower ho0 (below_size qB)); replace BK243 := qW BK243 hb; replace HB := qH hb; (try clear hb); (try clear ho0); obtain ⟨Ao9, co9, eo9⟩ := Kd.R_slice HO246.out; subst eo9))
 go_loopg [9, 18] k (fun kq v9 v18 w' => ∃ (x9_1 : Int) (x18_1 : Int), v9 = .int .u64 x9_1 ∧ v18 = .int .i64 x18_1 ∧ Aside0 (live_ahead.l0 kq l1 a2 a3 x9_1 t244 (t244.length : Int) x18_1 a0_0 a0_1 a0_2 l0_3 = some r) ∧ Aside0 (kq ≤ k) ∧ Aside0 (Kd.R (Kd.int .i64) 3 w' w.heap.size (fun _ => True) (.slice Ao9 t244.length co9) t244) ∧ Aside0 (w'.heap[gb243]? = some (.cells #[.string a0_0, .int .i64 a0_1, .int .i64 a0_2, (.slice A0_3 l0_3.length c0_3)] 34 (0, 0))) ∧ Aside0 (Below w.heap.size w w'))
 case atStart => exact ⟨(0), (0), qT, qT, H', ⟨Nat.le_refl _⟩, ⟨qR HO246.out⟩, ⟨qK BK243.out⟩, ⟨qB⟩⟩
 case round =>
  clear H'
  try clear c1; try clear p2; try clear c5; try clear c7; try clear hcz7_0 hcz7_1 hcz7_2 hcz7_3 hfz7_0 hfz7_1 hfz7_2 hfz7_3
  obtain ⟨x9_1, x18_1, rfl, rfl, HA, HK1, HO_16, BK243, HB⟩ := hrel
  cases gk with
  | zero => exact absurd HA.out (by simp [live_ahead.l0])
  | succ k1 =>
   have H := HA.out
   clear HA
   simp only [live_ahead.l0] at H
   by_cases c10 : x18_1 < (t244.length : Int)
   ·rw [if_pos c10] at H
    have c10b0 := decide_eq_true c10
    clear c10
    by_cases c11 : 0 ≤ x18_1
    ·rw [if_pos c11] at H
     have c11b0 := decide_eq_true c11
     clear c11
     by_cases c12 : x18_1 < (t244.length : Int)
     ·rw [if_pos c12] at H
      have c12b0 := decide_eq_true c12
      clear c12
      by_cases c13 : 0 ≤ (rd t244 x18_1)
      ·rw [if_pos c13] at H
       have c13b0 := decide_eq_true c13
       clear c13
       by_cases c14 : (rd t244 x18_1) < (l1.length : Int)
       ·rw [if_pos c14] at H
        have c14b0 := decide_eq_true c14
        clear c14
        have H' := Aside0.mk H
        clear H
        have p247 : 0 ≤ (x18_1 : Int) := of_decide_eq_true qA
        have q247 : x18_1 < (t244.length : Int) := of_decide_eq_true qA
        obtain ⟨ad247, e247, hx247_0⟩ := Kd.at_int (Kd.R_reads' HO_16.out).2.2 x18_1 p247 q247
        cases e247
        replace p247 := eq_true p247
        replace q247 := eq_true q247
        have p248 : 0 ≤ ((rd t244 x18_1) : Int) := of_decide_eq_true qA
        have q248 : (rd t244 x18_1) < (l1.length : Int) := of_decide_eq_true qA
        obtain ⟨ad248, e248, hx248_0⟩ := Kd.at_int HR1.out (rd t244 x18_1) p248 q248
        cases e248
        replace hx248_0 := (HB.out.cell (World.block_lt_of_cell? w _ hx248_0)).trans hx248_0
        replace p248 := eq_true p248
        replace q248 := eq_true q248
        go_wp2
        go_roundg k1
        case measure => have := HK1.out; omega
        case rel => exact ⟨(Go.bits .or .u64 x9_1 (rd l1 (rd t244 x18_1))), (wrap64 (x18_1 + 1)), qT, qT, H', ⟨by have := HK1.out; omega⟩, ⟨qR HO_16.out⟩, ⟨qK BK243.out⟩, ⟨qB⟩⟩
       ·rw [if_neg c14] at H
        exact absurd H (by simp)
      ·rw [if_neg c13] at H
       exact absurd H (by simp)
     ·rw [if_neg c12] at H
      exact absurd H (by simp)
    ·rw [if_neg c11] at H
     exact absurd H (by simp)
   ·rw [if_neg c10] at H
    have c10b0 := decide_eq_false c10
    clear c10
    by_cases c15 : 0 ≤ a2
    ·rw [if_pos c15] at H
     have c15b0 := decide_eq_true c15
     clear c15
     by_cases c16 : a2 < (l0_3.length : Int)
     ·rw [if_pos c16] at H
      have c16b0 := decide_eq_true c16
      clear c16
      have H' := Aside0.mk H
      clear H
      obtain ⟨hcz17_0, hcz17_1, hcz17_2, hcz17_3, hfz17_0, hfz17_1, hfz17_2, hfz17_3⟩ := bk4 BK243.out
      have p249 : 0 ≤ (a2 : Int) := of_decide_eq_true qA
      have q249 : a2 < (l0_3.length : Int) := of_decide_eq_true qA
      obtain ⟨ad249, A249_0, c249_0, e249, hx249_0, hl249_0, hi249_0⟩ := at_LIns HR0_3.out a2 p249 q249
      cases e249
      replace hx249_0 := (HB.out.cell (World.block_lt_of_cell? w _ hx249_0)).trans hx249_0
      have HR249_0 := Aside0.mk hi249_0
      have HC249_0 := Aside0.mk hl249_0
      clear hi249_0 hl249_0
      replace p249 := eq_true p249
      replace q249 := eq_true q249
      go_wp2
      go_loopg [9, 12] k1 (fun kq v9 v12 w' => ∃ (x9_2 : Int) (x12_2 : Int), v9 = .int .u64 x9_2 ∧ v12 = .int .i64 x12_2 ∧ Aside0 (live_ahead.l1 kq a2 a3 x9_2 x12_2 a0_0 a0_1 a0_2 l0_3 = some r) ∧ Aside0 (kq ≤ k1) ∧ Aside0 (w'.heap[gb243]? = some (.cells #[.string a0_0, .int .i64 a0_1, .int .i64 a0_2, (.slice (some ad249) l0_3.length c0_3)] 34 (0, 0))) ∧ Aside0 (Below w.heap.size w w'))
      case atStart => exact ⟨(x9_1), (wrap64 (((rd_LIns l0_3 a2).length : Int) - 1)), qT, qT, H', ⟨Nat.le_refl _⟩, ⟨qK BK243.out⟩, ⟨qB⟩⟩
      case round =>
       clear H'
       try clear c1; try clear c2; try clear p2; try clear q2; try clear hx2; try clear c5; try clear p6; try clear c7; try clear c10; try clear c10b0; try clear c11; try clear c11b0; try clear c12; try clear c12b0; try clear c13; try clear c13b0; try clear c14; try clear c14b0; try clear c15; try clear c15b0; try clear c16; try clear c16b0; try clear hcz17_0 hcz17_1 hcz17_2 hcz17_3 hfz17_0 hfz17_1 hfz17_2 hfz17_3; try clear hcz7_0 hcz7_1 hcz7_2 hcz7_3 hfz7_0 hfz7_1 hfz7_2 hfz7_3; try clear hx247_0; try clear hx248_0; try clear hx249_0; try clear p247; try clear p248; try clear p249; try clear q247; try clear q248; try clear q249
       obtain ⟨x9_2, x12_2, rfl, rfl, HA, HK2, BK243, HB⟩ := hrel
       cases gk with
       | zero => exact absurd HA.out (by simp [live_ahead.l1])
       | succ k2 =>
        have H := HA.out
        clear HA
        simp only [live_ahead.l1] at H
        by_cases c18 : x12_2 ≥ a3
        ·rw [if_pos c18] at H
         have c18b0 : decide (a3 ≤ x12_2) = true := decide_eq_true c18
         clear c18
         by_cases c19 : 0 ≤ a2
         ·rw [if_pos c19] at H
          have c19b0 := decide_eq_true c19
          clear c19
          by_cases c20 : a2 < (l0_3.length : Int)
          ·rw [if_pos c20] at H
           have c20b0 := decide_eq_true c20
           clear c20
           by_cases c21 : 0 ≤ x12_2
           ·rw [if_pos c21] at H
            have c21b0 := decide_eq_true c21
            clear c21
            by_cases c22 : x12_2 < ((rd_LIns l0_3 a2).length : Int)
            ·rw [if_pos c22] at H
             have c22b0 := decide_eq_true c22
             clear c22
             replace H := qb H; obtain ⟨t252, A23, H⟩ := H
             have H' := Aside0.mk H
             clear H
             obtain ⟨hcz24_0, hcz24_1, hcz24_2, hcz24_3, hfz24_0, hfz24_1, hfz24_2, hfz24_3⟩ := bk4 BK243.out
             have p250 : 0 ≤ (a2 : Int) := of_decide_eq_true qA
             have q250 : a2 < (l0_3.length : Int) := of_decide_eq_true qA
             obtain ⟨ad250, A250_0, c250_0, e250, hx250_0, hl250_0, hi250_0⟩ := at_LIns HR0_3.out a2 p250 q250
             obtain rfl : ad249 = ad250 := (by injection e250)
             replace hx250_0 := (HB.out.cell (World.block_lt_of_cell? w _ hx250_0)).trans hx250_0
             have HR250_0 := Aside0.mk hi250_0
             have HC250_0 := Aside0.mk hl250_0
             clear hi250_0 hl250_0
             replace p250 := eq_true p250
             replace q250 := eq_true q250
             have p251 : 0 ≤ (x12_2 : Int) := of_decide_eq_true qA
             have q251 : x12_2 < ((rd_LIns l0_3 a2).length : Int) := of_decide_eq_true qA
             obtain ⟨ad251, A251_5, c251_5, e251, hx251_0, hx251_1, hx251_2, hx251_3, hx251_4, hx251_5, hl251_5, hi251_5⟩ := at_TIns HR250_0.out x12_2 p251 q251
             cases e251
             replace hx251_0 := (HB.out.cell (World.block_lt_of_cell? w _ hx251_0)).trans hx251_0
             replace hx251_1 := (HB.out.cell (World.block_lt_of_cell? w _ hx251_1)).trans hx251_1
             replace hx251_2 := (HB.out.cell (World.block_lt_of_cell? w _ hx251_2)).trans hx251_2
             replace hx251_3 := (HB.out.cell (World.block_lt_of_cell? w _ hx251_3)).trans hx251_3
             replace hx251_4 := (HB.out.cell (World.block_lt_of_cell? w _ hx251_4)).trans hx251_4
             replace hx251_5 := (HB.out.cell (World.block_lt_of_cell? w _ hx251_5)).trans hx251_5
             have HR251_5 := Aside0.mk hi251_5
             have HC251_5 := Aside0.mk hl251_5
             clear hi251_5 hl251_5
             replace p251 := eq_true p251
             replace q251 := eq_true q251
             go_wp2_with (first | ((with_reducible refine gate_callee (f := 74) rfl ?_); refine goesL_ (some 50) rfl rfl Tryd.func74 (by kernel_rfl) rfl #[.agg #[.int .i64 ((rd_TIns (rd_LIns l0_3 a2) x12_2).f0), .int .i64 ((rd_TIns (rd_LIns l0_3 a2) x12_2).f1), .int .i64 ((rd_TIns (rd_LIns l0_3 a2) x12_2).f2), .int .i64 ((rd_TIns (rd_LIns l0_3 a2) x12_2).f3), .string ((rd_TIns (rd_LIns l0_3 a2) x12_2).f4), .slice A251_5 ((rd_TIns (rd_LIns l0_3 a2) x12_2).f5).length c251_5], .int .u64 x9_2] rfl qL ?_; (with_reducible refine (live_through.calls k2 ((rd_TIns (rd_LIns l0_3 a2) x12_2).f0) ((rd_TIns (rd_LIns l0_3 a2) x12_2).f1) ((rd_TIns (rd_LIns l0_3 a2) x12_2).f2) ((rd_TIns (rd_LIns l0_3 a2) x12_2).f3) ((rd_TIns (rd_LIns l0_3 a2) x12_2).f4) _ _ ((rd_TIns (rd_LIns l0_3 a2) x12_2).f5) x9_2 t252 _ ?side1 ?side2 A23.out (hL := ?side99)).mono ?_); (case side1 => exact qCB HR251_5.out); (case side2 => exact HC251_5.out); (case side99 => exact LaidW.below HLd.out qB); rintro e w25 ⟨rfl, hb⟩; refine ⟨_, rfl, ?_⟩; replace BK243 := qW BK243 hb; replace HB := qH hb; (try clear hb)))
             go_roundg k2
             case measure => have := HK1.out; have := HK2.out; omega
             case rel => exact ⟨(t252), (wrap64 (x12_2 - 1)), qT, qT, H', ⟨by have := HK1.out; have := HK2.out; omega⟩, ⟨qK BK243.out⟩, ⟨qB⟩⟩
            ·rw [if_neg c22] at H
             exact absurd H (by simp)
           ·rw [if_neg c21] at H
            exact absurd H (by simp)
          ·rw [if_neg c20] at H
           exact absurd H (by simp)
         ·rw [if_neg c19] at H
          exact absurd H (by simp)
        ·rw [if_neg c18] at H
         have c18b0 : decide (a3 ≤ x12_2) = false := decide_eq_false c18
         clear c18
         obtain rfl := Option.some.inj H
         go_wp2
         go_ret
         exact ⟨qE, qB⟩
     ·rw [if_neg c16] at H
      exact absurd H (by simp)
    ·rw [if_neg c15] at H
     exact absurd H (by simp)

end Go.Proofs.YtebnnknijbgekaaDoor.Q
namespace Go.Proofs.YtebnnknijbgekaaDoor.Q
open Go.RowKit Go.Proofs.YtebnnknijbgekaaDoorW.PrintWords Go.Proofs.YtebnnknijbgekaaDoorW.PrintLast Go.Proofs.YtebnnknijbgekaaDoorW.PrintMore
attribute [local go_sem] max2_int min2_int max_two min_two max_three min_three max_four min_four   -- for this text's walks alone
set_option linter.unusedVariables false
set_option linter.unusedSimpArgs false

/-! ### live_set_list: function 52 -/
def live_set_list.l0 : Nat → Int → List Int → Option (List Int)
 | 0, _, _ => none
 | k + 1, x0, x3 => if x0 = 0 then (some x3) else ((bits_TrailingZeros64.f x0).bind fun t270 => (if x3.length < 17592186044416 then (live_set_list.l0 k (Go.bits .and .u64 x0 (IntKind.u64.wrap (x0 - 1))) (x3 ++ [t270])) else (none)))
def live_set_list.f (k : Nat) (a0 : Int) : Option (List Int) := live_set_list.l0 k a0 ([] : List Int)
theorem live_set_list.mono_l : ∀ k, (∀ y0 y1, LeO (live_set_list.l0 k y0 y1) (live_set_list.l0 (k + 1) y0 y1))
 | 0 => fun _ _ r h => by simp [live_set_list.l0] at h
 | k + 1 => by
  have ih0 := live_set_list.mono_l k
  ·intro y0 y1
   unfold live_set_list.l0
   repeat' first | (with_reducible exact ih0 _ _) | (with_reducible exact LeO.refl _) | (with_reducible exact LeO.none _) | (with_reducible refine LeO.ite ?_ ?_) | (with_reducible refine LeO.bind ?_ (fun _ => ?_)) | exact LeO.none _ | refine LeO.ite ?_ ?_ | refine LeO.bind ?_ (fun _ => ?_)
theorem live_set_list.mono : ∀ a0 k, LeO (live_set_list.f k a0) (live_set_list.f (k + 1) a0) := by
 intro a0 k
 have ih0 := live_set_list.mono_l k
 unfold live_set_list.f
 repeat' first | (with_reducible exact ih0 _ _) | (with_reducible exact LeO.refl _) | (with_reducible exact LeO.none _) | (with_reducible refine LeO.ite ?_ ?_) | (with_reducible refine LeO.bind ?_ (fun _ => ?_)) | exact LeO.none _ | refine LeO.ite ?_ ?_ | refine LeO.bind ?_ (fun _ => ?_)
set_option maxHeartbeats 8000000 in
set_option maxRecDepth 100000 in
theorem live_set_list.calls (k : Nat) (a0 : Int) (r : List Int) (w : World) (hL : LaidW w) (h : live_set_list.f k a0 = some r) :
  Calls Tryd.prog 52 #[.int .u64 a0] w fun e w' => ∃ v0_ : Value, e = .returned (v0_) ∧ Kd.R (Kd.int .i64) 3 w' w.heap.size (fun _ => True) v0_ r ∧ Below w.heap.size w w' := by
 have HB := Aside0.mk (Below.refl w.heap.size w)
 have HLd := Aside0.mk hL
 clear hL
 have H := h; clear h; unfold live_set_list.f at H
 have H' := Aside0.mk H
 clear H
 go_enter Tryd.func52, Tryd.ntmps52
 go_wp2
 go_loopg [0, 3] k (fun kq v0 v3 w' => ∃ (x0_1 : Int) (x3_1 : List Int), v0 = .int .u64 x0_1 ∧ Aside0 (live_set_list.l0 kq x0_1 x3_1 = some r) ∧ Aside0 (kq ≤ k) ∧ Aside0 (Kd.R (Kd.int .i64) 3 w' w.heap.size (fun _ => True) v3 x3_1) ∧ Aside0 (Below w.heap.size w w'))
 case atStart => exact ⟨(a0), (([] : List Int)), qT, H', ⟨Nat.le_refl _⟩, ⟨by first | exact Kd.R_nil _ _ _ _ _ | exact Kd.N_nil _ _ _ _ _ | exact Kd.V_nil _ _ _ _ _ | exact Kd.Q_nil _ _ _ _ _ | exact Kd.S_nil _ _ _ _ _⟩, ⟨qB⟩⟩
 case round =>
  clear H'
  obtain ⟨x0_1, x3_1, rfl, HA, HK1, HO_3, HB⟩ := hrel
  cases gk with
  | zero => exact absurd HA.out (by simp [live_set_list.l0])
  | succ k1 =>
   have H := HA.out
   clear HA
   simp only [live_set_list.l0] at H
   by_cases c2 : x0_1 = 0
   ·rw [if_pos c2] at H
    obtain ⟨c2b0, c2b1⟩ := qe c2; clear c2
    obtain rfl := Option.some.inj H
    go_wp2
    go_ret
    exact ⟨_, qE, qR HO_3.out, qB⟩
   ·rw [if_neg c2] at H
    obtain ⟨c2b0, c2b1⟩ := qn c2
    replace H := qb H; obtain ⟨t270, A3, H⟩ := H
    by_cases c4 : x3_1.length < 17592186044416
    ·rw [if_pos c4] at H
     have LMc4 := Aside0.mk c4
     clear c4
     obtain ⟨y271, hy271⟩ : ∃ y_ : List Int, y_ = (x3_1 ++ [t270]) := ⟨_, rfl⟩
     replace H : (live_set_list.l0 k1 (Go.bits .and .u64 x0_1 (IntKind.u64.wrap (x0_1 - 1))) y271) = some r := by first | (rw [hy271]; with_reducible exact H) | (have H2_ := (Option.bind_some _ _).symm.trans H; rw [hy271]; with_reducible exact H2_) | (have H2_ := (Option.bind_some _ _).symm.trans H; with_reducible exact H2_) | with_reducible exact H | (rw [hy271]; exact H) | exact H
     have Ny271 := Aside0.mk hy271
     clear hy271
     have H' := Aside0.mk H
     clear H
     go_wp2_with (first | ((with_reducible refine gate_callee (f := 75) rfl ?_); refine goesL_ (some 12) rfl rfl Tryd.func75 (by kernel_rfl) rfl #[.int .u64 x0_1] rfl qL ?_; (with_reducible refine (bits_TrailingZeros64.calls x0_1 t270 _ A3.out (hL := ?side99)).mono ?_); (case side99 => exact LaidW.below HLd.out qB); rintro e w' ⟨rfl, ⟨nd, rfl⟩⟩; refine ⟨_, rfl, ?_⟩) | ((with_reducible refine gate_builtin (b := .append) (xs := #[.tmp 10, .tmp 13]) rfl ?_); at_builtin; refine Kd.R_append (Kd.int .i64) (w0 := w) w.heap.size rfl (.tmp 10) (.tmp 13) 29 3 (.int .i64 0) 8 rfl Tryd.underlying29 info3 rfl (by decide) (by omega) u3 x3_1 t270 [.int .i64 t270] (fun _ => True) (fun _ => False) rfl rfl ?aP (fun _ hk => hk.elim) ?aF ?aO ?aB ?aS ?aL ?_; (case aP => exact rfl); (case aB => exact qB); (case aF => exact (fun _ _ => trivial)); (case aO => exact (qR HO_3.out)); (case aS => exact (below_size qB)); (case aL => have := LMc4.out; omega); intro v272 w5 ho hb hg hat; rw [← Ny271.out] at ho; replace HB := Aside0.mk (hb); have HO273 := Aside0.mk (ho); clear HO_3; clear ho hb hg hat))
     go_roundg k1
     case measure => have := HK1.out; omega
     case rel => exact ⟨(Go.bits .and .u64 x0_1 (IntKind.u64.wrap (x0_1 - 1))), (y271), qT, H', ⟨by have := HK1.out; omega⟩, ⟨qR HO273.out⟩, ⟨qB⟩⟩
    ·rw [if_neg c4] at H
     exact absurd H (by simp)

end Go.Proofs.YtebnnknijbgekaaDoor.Q
namespace Go.Proofs.YtebnnknijbgekaaDoor.Q
open Go.RowKit Go.Proofs.YtebnnknijbgekaaDoorW.PrintWords Go.Proofs.YtebnnknijbgekaaDoorW.PrintLast Go.Proofs.YtebnnknijbgekaaDoorW.PrintMore
attribute [local go_sem] max2_int min2_int max_two min_two max_three min_three max_four min_four   -- for this text's walks alone
set_option linter.unusedVariables false
set_option linter.unusedSimpArgs false

/-! ### live_sets: function 50 -/
mutual
def live_sets.l0 : Nat → List Int → Bool → ByteArray → Int → Int → List (List (SIns)) → Option (List Int)
 | 0, _, _, _, _, _, _ => none
 | k + 1, x3, x4, x254000, x254001, x254002, x254003 => if x4 = true then (live_sets.l1 k x3 false (wrap64 ((x254003.length : Int) - 1)) x254000 x254001 x254002 x254003) else (some x3)
def live_sets.l1 : Nat → List Int → Bool → Int → ByteArray → Int → Int → List (List (SIns)) → Option (List Int)
 | 0, _, _, _, _, _, _, _ => none
 | k + 1, x3, x4, x5, x254000, x254001, x254002, x254003 => if x5 ≥ 0 then ((live_ahead.f k x254000 x254001 x254002 x254003 x3 x5 0).bind fun t257 => (if x4 = true then (if 0 ≤ x5 then (if x5 < (x3.length : Int) then (live_sets.l1 k (x3.set (x5 : Int).toNat t257) true (wrap64 (x5 - 1)) x254000 x254001 x254002 x254003) else (none)) else (none)) else (if 0 ≤ x5 then (if x5 < (x3.length : Int) then (live_sets.l1 k (x3.set (x5 : Int).toNat t257) (t257 != (rd x3 x5)) (wrap64 (x5 - 1)) x254000 x254001 x254002 x254003) else (none)) else (none)))) else (live_sets.l0 k x3 x4 x254000 x254001 x254002 x254003)
end
def live_sets.f (k : Nat) (a0_0 : ByteArray) (a0_1 : Int) (a0_2 : Int) (l0_3 : List (List (SIns))) : Option (List Int) := if 0 ≤ (l0_3.length : Int) then (if ((l0_3.length : Int) : Int).toNat ≤ 35184372088832 then (live_sets.l0 k (List.replicate ((l0_3.length : Int) : Int).toNat 0) true a0_0 a0_1 a0_2 l0_3) else (none)) else (none)
theorem live_sets.mono_l : ∀ k, (∀ y0 y1 y2 y3 y4 y5, LeO (live_sets.l0 k y0 y1 y2 y3 y4 y5) (live_sets.l0 (k + 1) y0 y1 y2 y3 y4 y5)) ∧ (∀ y0 y1 y2 y3 y4 y5 y6, LeO (live_sets.l1 k y0 y1 y2 y3 y4 y5 y6) (live_sets.l1 (k + 1) y0 y1 y2 y3 y4 y5 y6))
 | 0 => ⟨fun _ _ _ _ _ _ r h => by simp [live_sets.l0] at h, fun _ _ _ _ _ _ _ r h => by simp [live_sets.l1] at h⟩
 | k + 1 => by
  obtain ⟨ih0, ih1⟩ := live_sets.mono_l k
  refine ⟨?_, ?_⟩ <;> intros <;> (first | unfold live_sets.l0 | unfold live_sets.l1) <;> repeat' first | (with_reducible exact ih0 _ _ _ _ _ _) | (with_reducible exact ih1 _ _ _ _ _ _ _) | (with_reducible exact live_ahead.mono _ _ _ _ _ _ _ _) | (with_reducible exact LeO.refl _) | (with_reducible exact LeO.none _) | (with_reducible refine LeO.ite ?_ ?_) | (with_reducible refine LeO.bind ?_ (fun _ => ?_)) | exact LeO.none _ | refine LeO.ite ?_ ?_ | refine LeO.bind ?_ (fun _ => ?_)
theorem live_sets.mono : ∀ a0 a1 a2 a3 k, LeO (live_sets.f k a0 a1 a2 a3) (live_sets.f (k + 1) a0 a1 a2 a3) := by
 intro a0 a1 a2 a3 k
 obtain ⟨ih0, ih1⟩ := live_sets.mono_l k
 unfold live_sets.f
 repeat' first | (with_reducible exact ih0 _ _ _ _ _ _) | (with_reducible exact ih1 _ _ _ _ _ _ _) | (with_reducible exact live_ahead.mono _ _ _ _ _ _ _ _) | (with_reducible exact LeO.refl _) | (with_reducible exact LeO.none _) | (with_reducible refine LeO.ite ?_ ?_) | (with_reducible refine LeO.bind ?_ (fun _ => ?_)) | exact LeO.none _ | refine LeO.ite ?_ ?_ | refine LeO.bind ?_ (fun _ => ?_)
set_option maxHeartbeats 8000000 in
set_option maxRecDepth 100000 in
theorem live_sets.calls (k : Nat) (a0_0 : ByteArray) (a0_1 : Int) (a0_2 : Int) (A0_3 : Option Addr) (c0_3 : Nat) (l0_3 : List (List (SIns))) (r : List Int) (w : World) (hL : LaidW w) (hr0_3 : Kd.C (Kd.slice 31 kIns) w A0_3 l0_3.length l0_3) (hc0_3 : l0_3.length ≤ c0_3) (h : live_sets.f k a0_0 a0_1 a0_2 l0_3 = some r) :
  Calls Tryd.prog 50 #[.agg #[.string a0_0, .int .i64 a0_1, .int .i64 a0_2, .slice A0_3 l0_3.length c0_3]] w fun e w' => ∃ v0_ : Value, e = .returned (v0_) ∧ Kd.R (Kd.int .u64) 61 w' w.heap.size (fun _ => True) v0_ r ∧ Below w.heap.size w w' := by
 have hu34 := Tryd.underlying34
 have HR0_3 := Aside0.mk hr0_3
 have HC0_3 := Aside0.mk hc0_3
 clear hr0_3 hc0_3
 have HB := Aside0.mk (Below.refl w.heap.size w)
 have HLd := Aside0.mk hL
 clear hL
 have H := h; clear h; unfold live_sets.f at H
 by_cases c2 : 0 ≤ (l0_3.length : Int)
 ·rw [if_pos c2] at H
  have c2b0 := eq_true c2
  have c2b1 := decide_eq_true c2
  clear c2
  by_cases c3 : ((l0_3.length : Int) : Int).toNat ≤ 35184372088832
  ·rw [if_pos c3] at H
   have c3b0 := eq_true c3
   have c3b1 := decide_eq_true c3
   clear c3
   obtain ⟨y254, hy254⟩ : ∃ y_ : List Int, y_ = (List.replicate ((l0_3.length : Int) : Int).toNat 0) := ⟨_, rfl⟩
   replace H : (live_sets.l0 k y254 true a0_0 a0_1 a0_2 l0_3) = some r := by first | (rw [hy254]; with_reducible exact H) | (have H2_ := (Option.bind_some _ _).symm.trans H; rw [hy254]; with_reducible exact H2_) | (have H2_ := (Option.bind_some _ _).symm.trans H; with_reducible exact H2_) | with_reducible exact H | (rw [hy254]; exact H) | exact H
   have Ny254 := Aside0.mk hy254
   clear hy254
   have H' := Aside0.mk H
   clear H
   go_enter Tryd.func50, Tryd.ntmps50
   go_wp2_with (first | ((with_reducible refine gate_dst (N := 1) rfl ?_); refine box_event (by rfl) (N := 1) (by rfl) (cs := #[.string a0_0, .int .i64 a0_1, .int .i64 a0_2, .slice A0_3 l0_3.length c0_3]) (t := 34) ?hr ?_; (case hr => first | (go_simp; done) | (go_simp; rfl)); intro gb253 hg w4 hbox hb; have BK253 := Aside0.mk (hbox); have GW253 := qG hg; have GE253 := GW253; replace HB := qH hb; clear hb hbox hg; obtain ⟨hcz5_0, hcz5_1, hcz5_2, hcz5_3, hfz5_0, hfz5_1, hfz5_2, hfz5_3⟩ := bk4 BK253.out) | ((with_reducible refine gate_dst (N := 10) rfl ?_); refine Kd.R_make (Kd.int .u64) _ 61 rfl (N := 10) rfl 62 _ _ rfl (l0_3.length : Int) rfl rfl Tryd.underlying62 (.int .u64 0) 8 info61 rfl (by decide) (by omega) 0 (ok := fun _ => True) (okp := fun _ => True) rfl (fun _ hk => hk) trivial (of_decide_eq_true qA) (Nat.le_trans (Nat.mul_le_mul_right _ (of_decide_eq_true qA : (l0_3.length : Int).toNat ≤ 35184372088832)) (by omega)) (Below.refl _ _) (Nat.le_refl _) ?_; intro v255 w6 ho7 hb hg_ hnew_; clear hg_ hnew_; (first | rw [← Ny254.out] at ho7 | (simp only [Int.reduceToNat] at ho7; rw [← Ny254.out] at ho7)); have HO256 := Aside0.mk (Kd.R_lower ho7 (below_size qB)); replace BK253 := qW BK253 hb; replace HB := qH hb; clear hb ho7))
   go_loopg [4] k (fun kq v4 w' => ∃ (x3_1 : List Int) (x4_1 : Bool), v4 = .bool x4_1 ∧ Aside0 (live_sets.l0 kq x3_1 x4_1 a0_0 a0_1 a0_2 l0_3 = some r) ∧ Aside0 (kq ≤ k) ∧ Aside0 (Kd.R (Kd.int .u64) 61 w' w.heap.size (fun _ => True) v255 x3_1) ∧ Aside0 (w'.heap[gb253]? = some (.cells #[.string a0_0, .int .i64 a0_1, .int .i64 a0_2, (.slice A0_3 l0_3.length c0_3)] 34 (0, 0))) ∧ Aside0 (Below w.heap.size w w'))
   case atStart => exact ⟨(y254), (true), qT, H', ⟨Nat.le_refl _⟩, ⟨qR HO256.out⟩, ⟨qK BK253.out⟩, ⟨qB⟩⟩
   case round =>
    clear H'
    try clear c2; try clear c2b0 c2b1; try clear p2; try clear c3; try clear c3b0 c3b1; try clear c5; try clear hcz5_0 hcz5_1 hcz5_2 hcz5_3 hfz5_0 hfz5_1 hfz5_2 hfz5_3
    obtain ⟨x3_1, x4_1, rfl, HA, HK1, HO_3, BK253, HB⟩ := hrel
    cases gk with
    | zero => exact absurd HA.out (by simp [live_sets.l0])
    | succ k1 =>
     have H := HA.out
     clear HA
     simp only [live_sets.l0] at H
     by_cases c8 : x4_1 = true
     ·subst c8
      have H1 : (live_sets.l1 k1 x3_1 false (wrap64 ((l0_3.length : Int) - 1)) a0_0 a0_1 a0_2 l0_3) = some r := by rw [if_pos rfl] at H; exact H
      clear H
      have H := H1
      clear H1
      have H' := Aside0.mk H
      clear H
      obtain ⟨hcz9_0, hcz9_1, hcz9_2, hcz9_3, hfz9_0, hfz9_1, hfz9_2, hfz9_3⟩ := bk4 BK253.out
      go_wp2
      go_loopg [4, 5] k1 (fun kq v4 v5 w' => ∃ (x3_2 : List Int) (x4_2 : Bool) (x5_2 : Int), v4 = .bool x4_2 ∧ v5 = .int .i64 x5_2 ∧ Aside0 (live_sets.l1 kq x3_2 x4_2 x5_2 a0_0 a0_1 a0_2 l0_3 = some r) ∧ Aside0 (kq ≤ k1) ∧ Aside0 (Kd.R (Kd.int .u64) 61 w' w.heap.size (fun _ => True) v255 x3_2) ∧ Aside0 (w'.heap[gb253]? = some (.cells #[.string a0_0, .int .i64 a0_1, .int .i64 a0_2, (.slice A0_3 l0_3.length c0_3)] 34 (0, 0))) ∧ Aside0 (Below w.heap.size w w'))
      case atStart => exact ⟨(x3_1), (false), (wrap64 ((l0_3.length : Int) - 1)), qT, qT, H', ⟨Nat.le_refl _⟩, ⟨qR HO_3.out⟩, ⟨qK BK253.out⟩, ⟨qB⟩⟩
      case round =>
       clear H'
       try clear c2; try clear c2b0 c2b1; try clear p2; try clear c3; try clear c3b0 c3b1; try clear c5; try clear p6; try clear c8; try clear hcz5_0 hcz5_1 hcz5_2 hcz5_3 hfz5_0 hfz5_1 hfz5_2 hfz5_3; try clear hcz9_0 hcz9_1 hcz9_2 hcz9_3 hfz9_0 hfz9_1 hfz9_2 hfz9_3
       obtain ⟨x3_2, x4_2, x5_2, rfl, rfl, HA, HK2, HO_3, BK253, HB⟩ := hrel
       cases gk with
       | zero => exact absurd HA.out (by simp [live_sets.l1])
       | succ k2 =>
        have H := HA.out
        clear HA
        simp only [live_sets.l1] at H
        by_cases c10 : x5_2 ≥ 0
        ·rw [if_pos c10] at H
         have c10b0 : decide (0 ≤ x5_2) = true := decide_eq_true c10
         clear c10
         replace H := qb H; obtain ⟨t257, A11, H⟩ := H
         by_cases c12 : x4_2 = true
         ·subst c12
          have H1 : (if 0 ≤ x5_2 then (if x5_2 < (x3_2.length : Int) then (live_sets.l1 k2 (x3_2.set (x5_2 : Int).toNat t257) true (wrap64 (x5_2 - 1)) a0_0 a0_1 a0_2 l0_3) else (none)) else (none)) = some r := by rw [if_pos rfl] at H; exact H
          clear H
          have H := H1
          clear H1
          by_cases c13 : 0 ≤ x5_2
          ·rw [if_pos c13] at H
           have c13b0 := decide_eq_true c13
           clear c13
           by_cases c14 : x5_2 < (x3_2.length : Int)
           ·rw [if_pos c14] at H
            have c14b0 := decide_eq_true c14
            clear c14
            obtain ⟨y258, hy258⟩ : ∃ y_ : List Int, y_ = (x3_2.set (x5_2 : Int).toNat t257) := ⟨_, rfl⟩
            replace H : (live_sets.l1 k2 y258 true (wrap64 (x5_2 - 1)) a0_0 a0_1 a0_2 l0_3) = some r := by first | (rw [hy258]; with_reducible exact H) | (have H2_ := (Option.bind_some _ _).symm.trans H; rw [hy258]; with_reducible exact H2_) | (have H2_ := (Option.bind_some _ _).symm.trans H; with_reducible exact H2_) | with_reducible exact H | (rw [hy258]; exact H) | exact H
            have Ny258 := Aside0.mk hy258
            clear hy258
            have H' := Aside0.mk H
            clear H
            obtain ⟨hcz16_0, hcz16_1, hcz16_2, hcz16_3, hfz16_0, hfz16_1, hfz16_2, hfz16_3⟩ := bk4 BK253.out
            obtain ⟨Ao17, co17, eo17⟩ := Kd.R_slice HO_3.out
            subst eo17
            go_wp2_with (first | ((with_reducible refine gate_callee (f := 51) rfl ?_); refine goesL_ (some 23) rfl rfl Tryd.func51 (by kernel_rfl) rfl #[.agg #[.string a0_0, .int .i64 a0_1, .int .i64 a0_2, .slice A0_3 l0_3.length c0_3], .slice Ao17 x3_2.length co17, .int .i64 x5_2, .int .i64 0] rfl qL ?_; (with_reducible refine (live_ahead.calls k2 a0_0 a0_1 a0_2 _ _ l0_3 _ _ x3_2 x5_2 0 t257 _ ?side1 ?side2 ?side3 ?side4 A11.out (hL := ?side99)).mono ?_); (case side1 => exact qCB HR0_3.out); (case side2 => exact HC0_3.out); (case side3 => repeat (first | exact (Kd.R_reads' HO_3.out).2.2 | (with_reducible refine Kd.C_alloc ?_ _) | (with_reducible refine Kd.C_drewN ?_ _) | (with_reducible refine Kd.C_drew ?_))); (case side4 => exact (Kd.R_reads' HO_3.out).2.1); (case side99 => exact LaidW.below HLd.out qB); rintro e w18 ⟨rfl, hb⟩; refine ⟨_, rfl, ?_⟩; replace HO_3 := Aside0.mk (Kd.R_below (qR HO_3.out) hb); replace BK253 := qW BK253 hb; replace HB := qH hb; (try clear hb); have p15 : 0 ≤ (x5_2 : Int) := of_decide_eq_true qA; have q15 : (x5_2 : Int) < ((x3_2.length : Int) : Int) := of_decide_eq_true qA; obtain ⟨go15, co15, eo15, gb15, gl15, cl15, HG15⟩ := Kd.R_form HO_3.out (by omega); (first | cases eo15 | (injection eo15 with ea_ en_ ec_; (first | subst ea_ | (injection ea_ with ea_; subst ea_)); subst ec_; clear en_)); have GB15 := Aside0.mk gb15; have GG15 := Aside0.mk HG15; clear gb15 gl15 HG15; obtain ⟨hx15_0, hf15_0⟩ := Kd.R_celln 0 HO_3.out (x5_2 : Int) p15 q15; replace p15 := eq_true p15; replace q15 := eq_true q15; obtain ⟨hy19_, hz19_⟩ := Kd.R_celln 0 HO_3.out (x5_2 : Int) (of_decide_eq_true qA) (of_decide_eq_true qA); have HP19 := Kd.R_putg HO_3.out (x5_2 : Int) t257) | ((with_reducible refine gate_store (t := 61) (p := 36) rfl ?_); refine store_event (t := 61) (p := 36) (v := ?vo_w20) (w1 := (w18.setCell ⟨go15, (x5_2 : Int).toNat, none⟩ (.int .u64 t257))) (by rfl) (by rfl) (by rfl) ?hr ?_; (case hr => first | (go_simp; done) | (go_simp; rfl)); intro w20 hw; have hg : w18.grownBy w20 (some go15) := (by rw [hw]; exact HP19.2); have hp_ : Kd.R (Kd.int .u64) 61 w20 w.heap.size (fun _ => True) (.slice (some ⟨go15, 0, none⟩) x3_2.length co17) y258 := (by rw [hw, Ny258.out]; exact HP19.1); clear HP19; replace BK253 := Aside0.mk (blk_grown (qK BK253.out) hg (Kd.R_ne HO_3.out BK253.out (by decide))); replace HO_3 := Aside0.mk (hp_); replace HB := Aside0.mk ((by rw [hw]; exact below_set (HB.out) GB15.out : Below w.heap.size w w20)); clear hg hw hp_))
            go_roundg k2
            case measure => have := HK1.out; have := HK2.out; omega
            case rel => exact ⟨(y258), (true), (wrap64 (x5_2 - 1)), qT, qT, H', ⟨by have := HK1.out; have := HK2.out; omega⟩, ⟨qR HO_3.out⟩, ⟨qK BK253.out⟩, ⟨qB⟩⟩
           ·rw [if_neg c14] at H
            exact absurd H (by simp)
          ·rw [if_neg c13] at H
           exact absurd H (by simp)
         ·replace c12 := Bool.eq_false_iff.mpr c12
          subst c12
          have H1 : (if 0 ≤ x5_2 then (if x5_2 < (x3_2.length : Int) then (live_sets.l1 k2 (x3_2.set (x5_2 : Int).toNat t257) (t257 != (rd x3_2 x5_2)) (wrap64 (x5_2 - 1)) a0_0 a0_1 a0_2 l0_3) else (none)) else (none)) = some r := by rw [if_neg (show ¬ (false = true) by decide)] at H; exact H
          clear H
          have H := H1
          clear H1
          by_cases c21 : 0 ≤ x5_2
          ·rw [if_pos c21] at H
           have c21b0 := decide_eq_true c21
           clear c21
           by_cases c22 : x5_2 < (x3_2.length : Int)
           ·rw [if_pos c22] at H
            have c22b0 := decide_eq_true c22
            clear c22
            obtain ⟨y260, hy260⟩ : ∃ y_ : List Int, y_ = (x3_2.set (x5_2 : Int).toNat t257) := ⟨_, rfl⟩
            replace H : (live_sets.l1 k2 y260 (t257 != (rd x3_2 x5_2)) (wrap64 (x5_2 - 1)) a0_0 a0_1 a0_2 l0_3) = some r := by first | (rw [hy260]; with_reducible exact H) | (have H2_ := (Option.bind_some _ _).symm.trans H; rw [hy260]; with_reducible exact H2_) | (have H2_ := (Option.bind_some _ _).symm.trans H; with_reducible exact H2_) | with_reducible exact H | (rw [hy260]; exact H) | exact H
            have Ny260 := Aside0.mk hy260
            clear hy260
            have H' := Aside0.mk H
            clear H
            obtain ⟨hcz24_0, hcz24_1, hcz24_2, hcz24_3, hfz24_0, hfz24_1, hfz24_2, hfz24_3⟩ := bk4 BK253.out
            obtain ⟨Ao25, co25, eo25⟩ := Kd.R_slice HO_3.out
            subst eo25
            go_wp2_with (first | ((with_reducible refine gate_callee (f := 51) rfl ?_); refine goesL_ (some 23) rfl rfl Tryd.func51 (by kernel_rfl) rfl #[.agg #[.string a0_0, .int .i64 a0_1, .int .i64 a0_2, .slice A0_3 l0_3.length c0_3], .slice Ao25 x3_2.length co25, .int .i64 x5_2, .int .i64 0] rfl qL ?_; (with_reducible refine (live_ahead.calls k2 a0_0 a0_1 a0_2 _ _ l0_3 _ _ x3_2 x5_2 0 t257 _ ?side1 ?side2 ?side3 ?side4 A11.out (hL := ?side99)).mono ?_); (case side1 => exact qCB HR0_3.out); (case side2 => exact HC0_3.out); (case side3 => repeat (first | exact (Kd.R_reads' HO_3.out).2.2 | (with_reducible refine Kd.C_alloc ?_ _) | (with_reducible refine Kd.C_drewN ?_ _) | (with_reducible refine Kd.C_drew ?_))); (case side4 => exact (Kd.R_reads' HO_3.out).2.1); (case side99 => exact LaidW.below HLd.out qB); rintro e w26 ⟨rfl, hb⟩; refine ⟨_, rfl, ?_⟩; replace HO_3 := Aside0.mk (Kd.R_below (qR HO_3.out) hb); replace BK253 := qW BK253 hb; replace HB := qH hb; (try clear hb); have p259 : 0 ≤ (x5_2 : Int) := of_decide_eq_true qA; have q259 : x5_2 < (x3_2.length : Int) := of_decide_eq_true qA; obtain ⟨ad259, e259, hx259_0⟩ := Kd.at_int (Kd.R_reads' HO_3.out).2.2 x5_2 p259 q259; cases e259; replace p259 := eq_true p259; replace q259 := eq_true q259; have p23 : 0 ≤ (x5_2 : Int) := of_decide_eq_true qA; have q23 : (x5_2 : Int) < ((x3_2.length : Int) : Int) := of_decide_eq_true qA; obtain ⟨go23, co23, eo23, gb23, gl23, cl23, HG23⟩ := Kd.R_form HO_3.out (by omega); (first | cases eo23 | (injection eo23 with ea_ en_ ec_; (first | subst ea_ | (injection ea_ with ea_; subst ea_)); subst ec_; clear en_)); have GB23 := Aside0.mk gb23; have GG23 := Aside0.mk HG23; clear gb23 gl23 HG23; (first | simp only [add_plain] at hx259_0 | skip); obtain ⟨hx23_0, hf23_0⟩ := Kd.R_celln 0 HO_3.out (x5_2 : Int) p23 q23; replace p23 := eq_true p23; replace q23 := eq_true q23; obtain ⟨hy27_, hz27_⟩ := Kd.R_celln 0 HO_3.out (x5_2 : Int) (of_decide_eq_true qA) (of_decide_eq_true qA); have HP27 := Kd.R_putg HO_3.out (x5_2 : Int) t257) | ((with_reducible refine gate_store (t := 61) (p := 36) rfl ?_); refine store_event (t := 61) (p := 36) (v := ?vo_w28) (w1 := (w26.setCell ⟨go23, (x5_2 : Int).toNat, none⟩ (.int .u64 t257))) (by rfl) (by rfl) (by rfl) ?hr ?_; (case hr => first | (go_simp; done) | (go_simp; rfl)); intro w28 hw; have hg : w26.grownBy w28 (some go23) := (by rw [hw]; exact HP27.2); have hp_ : Kd.R (Kd.int .u64) 61 w28 w.heap.size (fun _ => True) (.slice (some ⟨go23, 0, none⟩) x3_2.length co25) y260 := (by rw [hw, Ny260.out]; exact HP27.1); clear HP27; replace BK253 := Aside0.mk (blk_grown (qK BK253.out) hg (Kd.R_ne HO_3.out BK253.out (by decide))); replace HO_3 := Aside0.mk (hp_); replace HB := Aside0.mk ((by rw [hw]; exact below_set (HB.out) GB23.out : Below w.heap.size w w28)); clear hg hw hp_))
            go_roundg k2
            case measure => have := HK1.out; have := HK2.out; omega
            case rel => exact ⟨(y260), ((t257 != (rd x3_2 x5_2))), (wrap64 (x5_2 - 1)), qT, qT, H', ⟨by have := HK1.out; have := HK2.out; omega⟩, ⟨qR HO_3.out⟩, ⟨qK BK253.out⟩, ⟨qB⟩⟩
           ·rw [if_neg c22] at H
            exact absurd H (by simp)
          ·rw [if_neg c21] at H
           exact absurd H (by simp)
        ·rw [if_neg c10] at H
         have c10b0 : decide (0 ≤ x5_2) = false := decide_eq_false c10
         clear c10
         have H' := Aside0.mk H
         clear H
         go_wp2
         go_roundg k2
         case measure => have := HK1.out; have := HK2.out; omega
         case rel => exact ⟨(x3_2), (x4_2), qT, H', ⟨by have := HK1.out; have := HK2.out; omega⟩, ⟨qR HO_3.out⟩, ⟨qK BK253.out⟩, ⟨qB⟩⟩
     ·replace c8 := Bool.eq_false_iff.mpr c8
      subst c8
      have H1 : (some x3_1) = some r := by rw [if_neg (show ¬ (false = true) by decide)] at H; exact H
      clear H
      have H := H1
      clear H1
      obtain rfl := Option.some.inj H
      go_wp2
      go_ret
      exact ⟨_, qE, qR HO_3.out, qB⟩
  ·rw [if_neg c3] at H
   exact absurd H (by simp)
 ·rw [if_neg c2] at H
  exact absurd H (by simp)

end Go.Proofs.YtebnnknijbgekaaDoor.Q
namespace Go.Proofs.YtebnnknijbgekaaDoor.Q
open Go.RowKit Go.Proofs.YtebnnknijbgekaaDoorW.PrintWords Go.Proofs.YtebnnknijbgekaaDoorW.PrintLast Go.Proofs.YtebnnknijbgekaaDoorW.PrintMore
attribute [local go_sem] max2_int min2_int max_two min_two max_three min_three max_four min_four   -- for this text's walks alone
set_option linter.unusedVariables false
set_option linter.unusedSimpArgs false

/-! ### live_Ahead: function 22 -/
def live_Ahead.j0 : Nat → Int → Int → Bool → ByteArray → Int → Int → List (List (SIns)) → Option (List Int)
 | 0, _, _, _, _, _, _, _ => none
 | k + 1, x1, x2, x34, x275000, x275001, x275002, x275003 => if x34 = true then (some ([] : List Int)) else ((live_sets.f k x275000 x275001 x275002 x275003).bind fun t277 => ((live_ahead.f k x275000 x275001 x275002 x275003 t277 x1 x2).bind fun t280 => ((live_set_list.f k t280).bind fun t281 => (some t281))))
def live_Ahead.f (k : Nat) (a0_0 : ByteArray) (a0_1 : Int) (a0_2 : Int) (l0_3 : List (List (SIns))) (a1 : Int) (a2 : Int) : Option (List Int) := (ir_Check.f k a0_0 a0_1 a0_2 l0_3).bind fun t275 => (if t275 = 0 then (if a1 < 0 then (live_Ahead.j0 k a1 a2 true a0_0 a0_1 a0_2 l0_3) else (if a1 ≥ (l0_3.length : Int) then (live_Ahead.j0 k a1 a2 true a0_0 a0_1 a0_2 l0_3) else (if a2 < 0 then (live_Ahead.j0 k a1 a2 true a0_0 a0_1 a0_2 l0_3) else (if 0 ≤ a1 then (if a1 < (l0_3.length : Int) then (live_Ahead.j0 k a1 a2 (decide (a2 > ((rd_LIns l0_3 a1).length : Int))) a0_0 a0_1 a0_2 l0_3) else (none)) else (none))))) else (live_Ahead.j0 k a1 a2 true a0_0 a0_1 a0_2 l0_3))
theorem live_Ahead.mono_l : ∀ k, (∀ y0 y1 y2 y3 y4 y5 y6, LeO (live_Ahead.j0 k y0 y1 y2 y3 y4 y5 y6) (live_Ahead.j0 (k + 1) y0 y1 y2 y3 y4 y5 y6))
 | 0 => fun _ _ _ _ _ _ _ r h => by simp [live_Ahead.j0] at h
 | k + 1 => by
  have ih0 := live_Ahead.mono_l k
  ·intro y0 y1 y2 y3 y4 y5 y6
   unfold live_Ahead.j0
   repeat' first | (with_reducible exact ih0 _ _ _ _ _ _ _) | (with_reducible exact ir_Check.mono _ _ _ _ _) | (with_reducible exact live_ahead.mono _ _ _ _ _ _ _ _) | (with_reducible exact live_set_list.mono _ _) | (with_reducible exact live_sets.mono _ _ _ _ _) | (with_reducible exact LeO.refl _) | (with_reducible exact LeO.none _) | (with_reducible refine LeO.ite ?_ ?_) | (with_reducible refine LeO.bind ?_ (fun _ => ?_)) | exact LeO.none _ | refine LeO.ite ?_ ?_ | refine LeO.bind ?_ (fun _ => ?_)
theorem live_Ahead.mono : ∀ a0 a1 a2 a3 a4 a5 k, LeO (live_Ahead.f k a0 a1 a2 a3 a4 a5) (live_Ahead.f (k + 1) a0 a1 a2 a3 a4 a5) := by
 intro a0 a1 a2 a3 a4 a5 k
 have ih0 := live_Ahead.mono_l k
 unfold live_Ahead.f
 repeat' first | (with_reducible exact ih0 _ _ _ _ _ _ _) | (with_reducible exact ir_Check.mono _ _ _ _ _) | (with_reducible exact live_ahead.mono _ _ _ _ _ _ _ _) | (with_reducible exact live_set_list.mono _ _) | (with_reducible exact live_sets.mono _ _ _ _ _) | (with_reducible exact LeO.refl _) | (with_reducible exact LeO.none _) | (with_reducible refine LeO.ite ?_ ?_) | (with_reducible refine LeO.bind ?_ (fun _ => ?_)) | exact LeO.none _ | refine LeO.ite ?_ ?_ | refine LeO.bind ?_ (fun _ => ?_)
def live_Ahead.T3 : Bool × List (List Nat × List Nat) := (true, [([], []), ([], []), ([1], [1]), ([], []), ([], []), ([0, 2, 3, 4, 2], [0, 2, 3, 4]), ([5, 5], [5]), ([6, 6, 0, 1, 2, 3, 4, 5, 6], [6])])
def live_Ahead.B3 : List Nat := [0, 0, 2, 0, 0, 31, 63, 127]
theorem live_Ahead.tab3 : rtab .any (opsOf Tryd.f22 3) = live_Ahead.T3 := by kernel_rfl
theorem live_Ahead.bits3 : waitsOk live_Ahead.T3.2 live_Ahead.B3 = true := by kernel_rfl
set_option maxHeartbeats 8000000 in
set_option maxRecDepth 100000 in
theorem live_Ahead.calls (k : Nat) (a0_0 : ByteArray) (a0_1 : Int) (a0_2 : Int) (A0_3 : Option Addr) (c0_3 : Nat) (l0_3 : List (List (SIns))) (a1 : Int) (a2 : Int) (r : List Int) (w : World) (hL : LaidW w) (hr0_3 : Kd.C (Kd.slice 31 kIns) w A0_3 l0_3.length l0_3) (hc0_3 : l0_3.length ≤ c0_3) (h : live_Ahead.f k a0_0 a0_1 a0_2 l0_3 a1 a2 = some r) :
  Calls Tryd.prog 22 #[.agg #[.string a0_0, .int .i64 a0_1, .int .i64 a0_2, .slice A0_3 l0_3.length c0_3], .int .i64 a1, .int .i64 a2] w fun e w' => ∃ v0_ : Value, e = .returned (v0_) ∧ Kd.R (Kd.int .i64) 3 w' w.heap.size (fun _ => True) v0_ r ∧ Below w.heap.size w w' := by
 have hu34 := Tryd.underlying34
 have HR0_3 := Aside0.mk hr0_3
 have HC0_3 := Aside0.mk hc0_3
 clear hr0_3 hc0_3
 have HB := Aside0.mk (Below.refl w.heap.size w)
 have HLd := Aside0.mk hL
 clear hL
 have H := h; clear h; unfold live_Ahead.f at H
 have HC4 := Aside0.mk H
 clear H
 go_enter Tryd.func22, Tryd.ntmps22
 go_upto_region 1 with (first | ((with_reducible refine gate_dst (N := 3) rfl ?_); (try (refine gate_guard (by rfl) ?_; dsimp only)); refine box_event (by rfl) (N := 3) (by rfl) (cs := #[.string a0_0, .int .i64 a0_1, .int .i64 a0_2, .slice A0_3 l0_3.length c0_3]) (t := 34) ?hr ?_; (case hr => first | (go_simp; done) | (go_simp; rfl)); intro gb274 hg w5 hbox hb; have BK274 := Aside0.mk (hbox); have GW274 := qG hg; have GE274 := GW274; replace HB := qH hb; clear hb hbox hg))
 (try simp only [Act.put, List.setIfInBounds_toArray, List.set_cons_zero, List.set_cons_succ])
 go_cut [34] (fun v34 wc => ∃ (kq : Nat) (x34_3 : Bool), v34 = .bool x34_3 ∧ Aside0 (live_Ahead.j0 kq a1 a2 x34_3 a0_0 a0_1 a0_2 l0_3 = some r) ∧ Aside0 (kq ≤ k) ∧ Aside0 (wc.heap[gb274]? = some (.cells #[.string a0_0, .int .i64 a0_1, .int .i64 a0_2, (.slice A0_3 l0_3.length c0_3)] 34 (0, 0))) ∧ Aside0 (Below w.heap.size w wc))
 case first =>
  have H := HC4.out
  clear HC4
  replace H := qb H; obtain ⟨t275, A6, H⟩ := H
  by_cases c7 : t275 = 0
  ·rw [if_pos c7] at H
   obtain ⟨c7b0, c7b1⟩ := qe c7; clear c7
   (first | rw [c7b0] | (simp only [i64_w, i32_w]; rw [c7b0]) | skip)
   by_cases c8 : a1 < 0
   ·rw [if_pos c8] at H
    have c8b0 := decide_eq_true c8
    clear c8
    have H' := Aside0.mk H
    clear H
    obtain ⟨hcz9_0, hcz9_1, hcz9_2, hcz9_3, hfz9_0, hfz9_1, hfz9_2, hfz9_3⟩ := bk4 BK274.out
    go_wp2_with (first | ((with_reducible refine gate_callee (f := 49) rfl ?_); refine goesL_ (some 8) rfl rfl Tryd.func49 (by kernel_rfl) rfl #[.agg #[.string a0_0, .int .i64 a0_1, .int .i64 a0_2, .slice A0_3 l0_3.length c0_3]] rfl qL ?_; (with_reducible refine (ir_Check.calls k a0_0 a0_1 a0_2 _ _ l0_3 t275 _ ?side1 ?side2 A6.out (hL := ?side99)).mono ?_); (case side1 => exact qCB HR0_3.out); (case side2 => exact HC0_3.out); (case side99 => exact LaidW.below HLd.out qB); rintro e w10 ⟨rfl, hb⟩; refine ⟨_, rfl, ?_⟩; replace BK274 := qW BK274 hb; replace HB := qH hb; (try clear hb)))
    go_meet
    case rel => exact ⟨_, (true), qT, H', ⟨qO⟩, ⟨qK BK274.out⟩, ⟨qB⟩⟩
   ·rw [if_neg c8] at H
    have c8b0 := decide_eq_false c8
    clear c8
    by_cases c11 : a1 ≥ (l0_3.length : Int)
    ·rw [if_pos c11] at H
     have c11b0 : decide ((l0_3.length : Int) ≤ a1) = true := decide_eq_true c11
     clear c11
     have H' := Aside0.mk H
     clear H
     obtain ⟨hcz12_0, hcz12_1, hcz12_2, hcz12_3, hfz12_0, hfz12_1, hfz12_2, hfz12_3⟩ := bk4 BK274.out
     go_wp2_with (first | ((with_reducible refine gate_callee (f := 49) rfl ?_); refine goesL_ (some 8) rfl rfl Tryd.func49 (by kernel_rfl) rfl #[.agg #[.string a0_0, .int .i64 a0_1, .int .i64 a0_2, .slice A0_3 l0_3.length c0_3]] rfl qL ?_; (with_reducible refine (ir_Check.calls k a0_0 a0_1 a0_2 _ _ l0_3 t275 _ ?side1 ?side2 A6.out (hL := ?side99)).mono ?_); (case side1 => exact qCB HR0_3.out); (case side2 => exact HC0_3.out); (case side99 => exact LaidW.below HLd.out qB); rintro e w13 ⟨rfl, hb⟩; refine ⟨_, rfl, ?_⟩; replace BK274 := qW BK274 hb; replace HB := qH hb; (try clear hb); obtain ⟨hcz14_0, hcz14_1, hcz14_2, hcz14_3, hfz14_0, hfz14_1, hfz14_2, hfz14_3⟩ := bk4 BK274.out))
     go_meet
     case rel => exact ⟨_, (true), qT, H', ⟨qO⟩, ⟨qK BK274.out⟩, ⟨qB⟩⟩
    ·rw [if_neg c11] at H
     have c11b0 : decide ((l0_3.length : Int) ≤ a1) = false := decide_eq_false c11
     clear c11
     by_cases c15 : a2 < 0
     ·rw [if_pos c15] at H
      have c15b0 := decide_eq_true c15
      clear c15
      have H' := Aside0.mk H
      clear H
      obtain ⟨hcz16_0, hcz16_1, hcz16_2, hcz16_3, hfz16_0, hfz16_1, hfz16_2, hfz16_3⟩ := bk4 BK274.out
      go_wp2_with (first | ((with_reducible refine gate_callee (f := 49) rfl ?_); refine goesL_ (some 8) rfl rfl Tryd.func49 (by kernel_rfl) rfl #[.agg #[.string a0_0, .int .i64 a0_1, .int .i64 a0_2, .slice A0_3 l0_3.length c0_3]] rfl qL ?_; (with_reducible refine (ir_Check.calls k a0_0 a0_1 a0_2 _ _ l0_3 t275 _ ?side1 ?side2 A6.out (hL := ?side99)).mono ?_); (case side1 => exact qCB HR0_3.out); (case side2 => exact HC0_3.out); (case side99 => exact LaidW.below HLd.out qB); rintro e w17 ⟨rfl, hb⟩; refine ⟨_, rfl, ?_⟩; replace BK274 := qW BK274 hb; replace HB := qH hb; (try clear hb); obtain ⟨hcz18_0, hcz18_1, hcz18_2, hcz18_3, hfz18_0, hfz18_1, hfz18_2, hfz18_3⟩ := bk4 BK274.out))
      go_meet
      case rel => exact ⟨_, (true), qT, H', ⟨qO⟩, ⟨qK BK274.out⟩, ⟨qB⟩⟩
     ·rw [if_neg c15] at H
      have c15b0 := decide_eq_false c15
      clear c15
      by_cases c19 : 0 ≤ a1
      ·rw [if_pos c19] at H
       have c19b0 := decide_eq_true c19
       clear c19
       by_cases c20 : a1 < (l0_3.length : Int)
       ·rw [if_pos c20] at H
        have c20b0 := decide_eq_true c20
        clear c20
        have H' := Aside0.mk H
        clear H
        obtain ⟨hcz21_0, hcz21_1, hcz21_2, hcz21_3, hfz21_0, hfz21_1, hfz21_2, hfz21_3⟩ := bk4 BK274.out
        go_wp2_with (first | ((with_reducible refine gate_callee (f := 49) rfl ?_); refine goesL_ (some 8) rfl rfl Tryd.func49 (by kernel_rfl) rfl #[.agg #[.string a0_0, .int .i64 a0_1, .int .i64 a0_2, .slice A0_3 l0_3.length c0_3]] rfl qL ?_; (with_reducible refine (ir_Check.calls k a0_0 a0_1 a0_2 _ _ l0_3 t275 _ ?side1 ?side2 A6.out (hL := ?side99)).mono ?_); (case side1 => exact qCB HR0_3.out); (case side2 => exact HC0_3.out); (case side99 => exact LaidW.below HLd.out qB); rintro e w22 ⟨rfl, hb⟩; refine ⟨_, rfl, ?_⟩; replace BK274 := qW BK274 hb; replace HB := qH hb; (try clear hb); obtain ⟨hcz23_0, hcz23_1, hcz23_2, hcz23_3, hfz23_0, hfz23_1, hfz23_2, hfz23_3⟩ := bk4 BK274.out; have p276 : 0 ≤ (a1 : Int) := of_decide_eq_true qA; have q276 : a1 < (l0_3.length : Int) := of_decide_eq_true qA; obtain ⟨ad276, A276_0, c276_0, e276, hx276_0, hl276_0, hi276_0⟩ := at_LIns HR0_3.out a1 p276 q276; cases e276; replace hx276_0 := (HB.out.cell (World.block_lt_of_cell? w _ hx276_0)).trans hx276_0; have HR276_0 := Aside0.mk hi276_0; have HC276_0 := Aside0.mk hl276_0; clear hi276_0 hl276_0; replace p276 := eq_true p276; replace q276 := eq_true q276))
        go_meet
        case rel => exact ⟨_, (decide (a2 > ((rd_LIns l0_3 a1).length : Int))), qT, H', ⟨qO⟩, ⟨qK BK274.out⟩, ⟨qB⟩⟩
       ·rw [if_neg c20] at H
        exact absurd H (by simp)
      ·rw [if_neg c19] at H
       exact absurd H (by simp)
  ·rw [if_neg c7] at H
   obtain ⟨c7b0, c7b1⟩ := qn c7
   (first | rw [c7b0] | (simp only [i64_w, i32_w]; rw [c7b0]) | skip)
   have H' := Aside0.mk H
   clear H
   obtain ⟨hcz24_0, hcz24_1, hcz24_2, hcz24_3, hfz24_0, hfz24_1, hfz24_2, hfz24_3⟩ := bk4 BK274.out
   go_wp2_with (first | ((with_reducible refine gate_callee (f := 49) rfl ?_); refine goesL_ (some 8) rfl rfl Tryd.func49 (by kernel_rfl) rfl #[.agg #[.string a0_0, .int .i64 a0_1, .int .i64 a0_2, .slice A0_3 l0_3.length c0_3]] rfl qL ?_; (with_reducible refine (ir_Check.calls k a0_0 a0_1 a0_2 _ _ l0_3 t275 _ ?side1 ?side2 A6.out (hL := ?side99)).mono ?_); (case side1 => exact qCB HR0_3.out); (case side2 => exact HC0_3.out); (case side99 => exact LaidW.below HLd.out qB); rintro e w25 ⟨rfl, hb⟩; refine ⟨_, rfl, ?_⟩; replace BK274 := qW BK274 hb; replace HB := qH hb; (try clear hb)))
   go_meet
   case rel => exact ⟨_, (true), qT, H', ⟨qO⟩, ⟨qK BK274.out⟩, ⟨qB⟩⟩
 case rest =>
  clear HC4
  try clear c1; try clear c2; try clear p2; try clear q2; try clear hx2; try clear c4; try clear c7; try clear c7b0 c7b1; try clear c8; try clear c8b0; try clear c11; try clear c11b0; try clear c15; try clear c15b0; try clear c19; try clear c19b0; try clear c20; try clear c20b0; try clear c22; try clear hcz12_0 hcz12_1 hcz12_2 hcz12_3 hfz12_0 hfz12_1 hfz12_2 hfz12_3; try clear hcz14_0 hcz14_1 hcz14_2 hcz14_3 hfz14_0 hfz14_1 hfz14_2 hfz14_3; try clear hcz16_0 hcz16_1 hcz16_2 hcz16_3 hfz16_0 hfz16_1 hfz16_2 hfz16_3; try clear hcz18_0 hcz18_1 hcz18_2 hcz18_3 hfz18_0 hfz18_1 hfz18_2 hfz18_3; try clear hcz21_0 hcz21_1 hcz21_2 hcz21_3 hfz21_0 hfz21_1 hfz21_2 hfz21_3; try clear hcz23_0 hcz23_1 hcz23_2 hcz23_3 hfz23_0 hfz23_1 hfz23_2 hfz23_3; try clear hcz24_0 hcz24_1 hcz24_2 hcz24_3 hfz24_0 hfz24_1 hfz24_2 hfz24_3; try clear hcz9_0 hcz9_1 hcz9_2 hcz9_3 hfz9_0 hfz9_1 hfz9_2 hfz9_3; try clear hx276_0; try clear p276; try clear q276
  obtain ⟨kq, x34_3, rfl, HA, HJ3, BK274, HB⟩ := hcut
  cases kq with
  | zero => exact absurd HA.out (by simp [live_Ahead.j0])
  | succ kj3 =>
   have H := HA.out
   clear HA
   simp only [live_Ahead.j0] at H
   by_cases c26 : x34_3 = true
   ·subst c26
    have H1 : (some ([] : List Int)) = some r := by rw [if_pos rfl] at H; exact H
    clear H
    have H := H1
    clear H1
    obtain rfl := Option.some.inj H
    go_wp2
    go_ret
    exact ⟨_, qE, by first | exact Kd.R_nil _ _ _ _ _ | exact Kd.N_nil _ _ _ _ _ | exact Kd.V_nil _ _ _ _ _ | exact Kd.Q_nil _ _ _ _ _ | exact Kd.S_nil _ _ _ _ _, qB⟩
   ·replace c26 := Bool.eq_false_iff.mpr c26
    subst c26
    have H1 : ((live_sets.f kj3 a0_0 a0_1 a0_2 l0_3).bind fun t277 => ((live_ahead.f kj3 a0_0 a0_1 a0_2 l0_3 t277 a1 a2).bind fun t280 => ((live_set_list.f kj3 t280).bind fun t281 => (some t281)))) = some r := by rw [if_neg (show ¬ (false = true) by decide)] at H; exact H
    clear H
    have H := H1
    clear H1
    replace H := qb H; obtain ⟨t277, A27, H⟩ := H
    replace H := qb H; obtain ⟨t280, A28, H⟩ := H
    replace H := qb H; obtain ⟨t281, A29, H⟩ := H
    obtain rfl := Option.some.inj H
    try go_wp2
    have n0_ := Aside0.mk (blk_drew BK274.out)
    have n1_ := Aside0.mk (below_drew1 HB.out)
    clear BK274
    clear HB
    have BK274 := n0_
    have HB := n1_
    clear n0_ n1_
    refine start_ (n := 8) (S := fun w' => w'.cell? ⟨gb274, 0, none⟩ = some (.string a0_0) ∧ w'.cell? ⟨gb274, 1, none⟩ = some (.int .i64 a0_1) ∧ w'.cell? ⟨gb274, 2, none⟩ = some (.int .i64 a0_2) ∧ w'.cell? ⟨gb274, 3, none⟩ = some (.slice A0_3 l0_3.length c0_3)) (ds := []) #[false, false, false, false, false, false, false, false] (by kernel_rfl) rfl rfl ⟨(blk_cell BK274.out 0).trans rfl, (blk_cell BK274.out 1).trans rfl, (blk_cell BK274.out 2).trans rfl, (blk_cell BK274.out 3).trans rfl⟩ (fun hHeld => ?_); refine with_tabW live_Ahead.tab3 live_Ahead.bits3 (fun HT_ HW_ => ?_)
    generalize wc.drew = w30 at BK274 HB hHeld ⊢
    refine pure_ (i := 3) (N := some 38) (v := ?_) (a' := ?_) #[false, false, false, true, false, false, false, false] rfl rfl (any_of HT_.out (by kernel_rfl)) (fun _ _ _ h => h) (Or.inl ⟨by rfl, ?_⟩) ?_ ?_
    rotate_left
    ·intro w'
     go_simp
     with_reducible rfl
    rotate_left
    ·simp only [Act.put, List.setIfInBounds_toArray, List.set_cons_zero, List.set_cons_succ, i64_w, i32_w]
     rfl
    refine pure_ (i := 4) (N := some 39) (v := ?_) (a' := ?_) #[false, false, false, true, true, false, false, false] rfl rfl (any_of HT_.out (by kernel_rfl)) (fun _ _ _ h => h) (Or.inl ⟨by rfl, ?_⟩) ?_ ?_
    rotate_left
    ·intro w'
     go_simp
     with_reducible rfl
    rotate_left
    ·simp only [Act.put, List.setIfInBounds_toArray, List.set_cons_zero, List.set_cons_succ, i64_w, i32_w]
     rfl
    refine take_ (i := 0) (N := some 35) (v := ?_) (a' := ?_) #[true, false, false, true, true, false, false, false] rfl rfl (take_ofW HT_.out HW_.out (by kernel_rfl)) (fun _ _ _ h => h) (Or.inl ⟨by rfl, ?_⟩) hHeld ?_ ?_
    rotate_left
    ·rintro w' ⟨s0, s1, s2, s3⟩
     go_simp
     with_reducible rfl
    rotate_left
    ·simp only [Act.put, List.setIfInBounds_toArray, List.set_cons_zero, List.set_cons_succ, i64_w, i32_w]
     rfl
    refine take_ (i := 1) (N := some 36) (v := ?_) (a' := ?_) #[true, true, false, true, true, false, false, false] rfl rfl (take_ofW HT_.out HW_.out (by kernel_rfl)) (fun _ _ _ h => h) (Or.inl ⟨by rfl, ?_⟩) hHeld ?_ ?_
    rotate_left
    ·rintro w' ⟨s0, s1, s2, s3⟩
     go_simp
     with_reducible rfl
    rotate_left
    ·simp only [Act.put, List.setIfInBounds_toArray, List.set_cons_zero, List.set_cons_succ, i64_w, i32_w]
     rfl
    refine one_ (i := 2) (N := some 37) #[true, true, true, true, true, false, false, false] rfl rfl (one_of HT_.out (by kernel_rfl)) (by decide) (fun K hK => ?_)
    refine goes_ Tryd.func50 (by kernel_rfl) rfl #[.agg #[.string a0_0, .int .i64 a0_1, .int .i64 a0_2, .slice A0_3 l0_3.length c0_3]] (by rfl) rfl rfl qL ?_
    with_reducible refine (live_sets.calls kj3 a0_0 a0_1 a0_2 _ _ l0_3 t277 _ ?side1 ?side2 A27.out (hL := ?side99)).mono ?_
    (case side1 => exact qCB HR0_3.out)
    (case side2 => exact HC0_3.out)
    (case side99 => exact LaidW.below HLd.out qB)
    rintro e w31 ⟨v278, rfl, ho0, hb⟩
    refine ⟨_, rfl, ?_⟩
    have n0_ := Aside0.mk (Kd.R_lower ho0 (below_size qB))
    have n1_ := qW BK274 hb
    have n2_ := qH hb
    clear BK274
    clear HB
    have HO279 := n0_
    have BK274 := n1_
    have HB := n2_
    clear n0_ n1_ n2_
    (try clear hb)
    (try clear hb2)
    (try clear hk)
    (try clear hi)
    (try clear ho0)
    obtain ⟨Ao32, co32, eo32⟩ := Kd.R_slice HO279.out
    (first | subst eo32 | (injection eo32 with f1_ f2_ f3_; have f4_ := f1_.symm; have f5_ := f3_.symm; clear f1_ f2_ f3_; subst f4_; subst f5_))
    refine hK.out _ _ ⟨(blk_cell BK274.out 0).trans rfl, (blk_cell BK274.out 1).trans rfl, (blk_cell BK274.out 2).trans rfl, (blk_cell BK274.out 3).trans rfl⟩ (fun hHeld => ?_)
    clear hK K
    refine norm_ (a' := ?_) ?_ ?_
    rotate_left
    ·show Act.put _ (some 37) _ = _
     simp only [Act.put, List.setIfInBounds_toArray, List.set_cons_zero, List.set_cons_succ, i64_w, i32_w]
     rfl
    refine one_ (i := 5) (N := some 40) #[true, true, true, true, true, true, false, false] rfl rfl (one_of HT_.out (by kernel_rfl)) (by decide) (fun K hK => ?_)
    refine goes_ Tryd.func51 (by kernel_rfl) rfl #[.agg #[.string a0_0, .int .i64 a0_1, .int .i64 a0_2, .slice A0_3 l0_3.length c0_3], .slice Ao32 t277.length co32, .int .i64 a1, .int .i64 a2] (by rfl) rfl rfl qL ?_
    with_reducible refine (live_ahead.calls kj3 a0_0 a0_1 a0_2 _ _ l0_3 _ _ t277 a1 a2 t280 _ ?side1 ?side2 ?side3 ?side4 A28.out (hL := ?side99)).mono ?_
    (case side1 => exact qCB HR0_3.out)
    (case side2 => exact HC0_3.out)
    (case side3 => repeat (first | exact (Kd.R_reads' HO279.out).2.2 | (with_reducible refine Kd.C_alloc ?_ _) | (with_reducible refine Kd.C_drewN ?_ _) | (with_reducible refine Kd.C_drew ?_)))
    (case side4 => exact (Kd.R_reads' HO279.out).2.1)
    (case side99 => exact LaidW.below HLd.out qB)
    rintro e w33 ⟨rfl, hb⟩
    refine ⟨_, rfl, ?_⟩
    have n0_ := Aside0.mk (Kd.R_below (qR HO279.out) hb)
    have n1_ := qW BK274 hb
    have n2_ := qH hb
    clear HO279
    clear BK274
    clear HB
    have HO279 := n0_
    have BK274 := n1_
    have HB := n2_
    clear n0_ n1_ n2_
    (try clear hb)
    (try clear hb2)
    (try clear hk)
    (try clear hi)
    refine hK.out _ _ ⟨(blk_cell BK274.out 0).trans rfl, (blk_cell BK274.out 1).trans rfl, (blk_cell BK274.out 2).trans rfl, (blk_cell BK274.out 3).trans rfl⟩ (fun hHeld => ?_)
    clear hK K
    refine norm_ (a' := ?_) ?_ ?_
    rotate_left
    ·show Act.put _ (some 40) _ = _
     simp only [Act.put, List.setIfInBounds_toArray, List.set_cons_zero, List.set_cons_succ, i64_w, i32_w]
     rfl
    refine one_ (i := 6) (N := some 41) #[true, true, true, true, true, true, true, false] rfl rfl (one_of HT_.out (by kernel_rfl)) (by decide) (fun K hK => ?_)
    refine goes_ Tryd.func52 (by kernel_rfl) rfl #[.int .u64 t280] (by rfl) rfl rfl qL ?_
    with_reducible refine (live_set_list.calls kj3 t280 t281 _ A29.out (hL := ?side99)).mono ?_
    (case side99 => exact LaidW.below HLd.out qB)
    rintro e w34 ⟨v282, rfl, ho0, hb⟩
    refine ⟨_, rfl, ?_⟩
    have n0_ := Aside0.mk (Kd.R_below (qR HO279.out) hb)
    have n1_ := Aside0.mk (Kd.R_lower ho0 (below_size qB))
    have n2_ := qW BK274 hb
    have n3_ := qH hb
    clear HO279
    clear BK274
    clear HB
    have HO279 := n0_
    have HO283 := n1_
    have BK274 := n2_
    have HB := n3_
    clear n0_ n1_ n2_ n3_
    (try clear hb)
    (try clear hb2)
    (try clear hk)
    (try clear hi)
    (try clear ho0)
    refine hK.out _ _ ⟨(blk_cell BK274.out 0).trans rfl, (blk_cell BK274.out 1).trans rfl, (blk_cell BK274.out 2).trans rfl, (blk_cell BK274.out 3).trans rfl⟩ (fun hHeld => ?_)
    clear hK K
    refine norm_ (a' := ?_) ?_ ?_
    rotate_left
    ·show Act.put _ (some 41) _ = _
     simp only [Act.put, List.setIfInBounds_toArray, List.set_cons_zero, List.set_cons_succ, i64_w, i32_w]
     rfl
    refine pure_ (i := 7) (N := some 6) (v := ?_) (a' := ?_) #[true, true, true, true, true, true, true, true] rfl rfl (any_of HT_.out (by kernel_rfl)) (fun _ _ _ h => h) (Or.inl ⟨by rfl, ?_⟩) ?_ ?_
    rotate_left
    ·intro w'
     go_simp
     with_reducible rfl
    rotate_left
    ·simp only [Act.put, List.setIfInBounds_toArray, List.set_cons_zero, List.set_cons_succ, i64_w, i32_w]
     rfl
    refine done_ (done_of HT_.out (by kernel_rfl)) ?_
    try go_wp2
    go_ret
    exact ⟨_, qE, qR HO283.out, qB⟩

end Go.Proofs.YtebnnknijbgekaaDoor.Q
namespace Go.Proofs.YtebnnknijbgekaaDoor.Q
open Go.RowKit Go.Proofs.YtebnnknijbgekaaDoorW.PrintWords Go.Proofs.YtebnnknijbgekaaDoorW.PrintLast Go.Proofs.YtebnnknijbgekaaDoorW.PrintMore
attribute [local go_sem] max2_int min2_int max_two min_two max_three min_three max_four min_four   -- for this text's walks alone
set_option linter.unusedVariables false
set_option linter.unusedSimpArgs false

/-! ### live_Check: function 20 -/
def live_Check.f (k : Nat) (a0_0 : ByteArray) (a0_1 : Int) (a0_2 : Int) (l0_3 : List (List (SIns))) : Option (Int) := (ir_Check.f k a0_0 a0_1 a0_2 l0_3).bind fun t262 => (if t262 = 0 then ((live_sets.f k a0_0 a0_1 a0_2 l0_3).bind fun t263 => (if 0 < (t263.length : Int) then (if 0 ≤ (IntKind.u64.wrap (a0_1)) then (if (shr .u64 (rd t263 0) (IntKind.u64.wrap (a0_1))) = 0 then (some 0) else (some 110)) else (none)) else (none))) else (some t262))
theorem live_Check.mono : ∀ a0 a1 a2 a3 k, LeO (live_Check.f k a0 a1 a2 a3) (live_Check.f (k + 1) a0 a1 a2 a3) := by
 intro a0 a1 a2 a3 k
 unfold live_Check.f
 repeat' first | (with_reducible exact ir_Check.mono _ _ _ _ _) | (with_reducible exact live_sets.mono _ _ _ _ _) | (with_reducible exact LeO.refl _) | (with_reducible exact LeO.none _) | (with_reducible refine LeO.ite ?_ ?_) | (with_reducible refine LeO.bind ?_ (fun _ => ?_)) | exact LeO.none _ | refine LeO.ite ?_ ?_ | refine LeO.bind ?_ (fun _ => ?_)
def live_Check.T4 : Bool × List (List Nat × List Nat) := (true, [([], []), ([0], [0]), ([1], [1]), ([2], [2]), ([], []), ([4], [4]), ([5], [5]), ([3, 6], [3, 6]), ([7], [7])])
def live_Check.B4 : List Nat := [0, 1, 3, 7, 0, 16, 48, 127, 255]
theorem live_Check.tab4 : rtab .any (opsOf Tryd.f20 4) = live_Check.T4 := by kernel_rfl
theorem live_Check.bits4 : waitsOk live_Check.T4.2 live_Check.B4 = true := by kernel_rfl
theorem live_Check.one_value {P : Program} {ops : Array Oper} {Q : Exit → Act → World → Prop} {oi : Oper} {N : Option Tmp} {a : Act} {w : World} {K : Act → World → Prop} (v : Value) (hw : Region.wanted oi (yielded ops a.tmps) = true) (hN : oi.dst = N) (hrun : (execOp a.eval oi).run P w = .ok (.value v) w) (h : K (a.put N v) w) :
 if Region.wanted oi (yielded ops a.tmps) = true then Oper.wp P oi a w K Q else K (a.put N undef) w := by
 rw [if_pos hw]
 unfold Oper.wp
 rw [hrun, Oper.upon_value, hN]
 exact h
set_option maxHeartbeats 8000000 in
set_option maxRecDepth 100000 in
theorem live_Check.calls (k : Nat) (a0_0 : ByteArray) (a0_1 : Int) (a0_2 : Int) (A0_3 : Option Addr) (c0_3 : Nat) (l0_3 : List (List (SIns))) (r : Int) (w : World) (hL : LaidW w) (hr0_3 : Kd.C (Kd.slice 31 kIns) w A0_3 l0_3.length l0_3) (hc0_3 : l0_3.length ≤ c0_3) (h : live_Check.f k a0_0 a0_1 a0_2 l0_3 = some r) :
  Calls Tryd.prog 20 #[.agg #[.string a0_0, .int .i64 a0_1, .int .i64 a0_2, .slice A0_3 l0_3.length c0_3]] w fun e w' => e = .returned (.int .i64 r) ∧ Below w.heap.size w w' := by
 have hu34 := Tryd.underlying34
 have HR0_3 := Aside0.mk hr0_3
 have HC0_3 := Aside0.mk hc0_3
 clear hr0_3 hc0_3
 have HB := Aside0.mk (Below.refl w.heap.size w)
 have HLd := Aside0.mk hL
 clear hL
 have H := h; clear h; unfold live_Check.f at H
 replace H := qb H; obtain ⟨t262, A2, H⟩ := H
 by_cases c3 : t262 = 0
 ·rw [if_pos c3] at H
  obtain ⟨c3b0, c3b1⟩ := qe c3; clear c3
  replace H := qb H; obtain ⟨t263, A4, H⟩ := H
  by_cases c5 : 0 < (t263.length : Int)
  ·rw [if_pos c5] at H
   have c5b0 := decide_eq_true c5
   have c5b1 : decide (0 < t263.length) = true := decide_eq_true (by omega)
   clear c5
   obtain ⟨ji6, hji6⟩ : ∃ j_ : Int, (IntKind.u64.wrap (a0_1)) = j_ := ⟨_, rfl⟩
   replace H : (if 0 ≤ (ji6) then (if (shr .u64 (rd t263 0) (ji6)) = 0 then (some 0) else (some 110)) else (none)) = some r := by first | (rw [hji6] at H; exact H) | (simp only [hji6] at H ⊢; exact H)
   (try rw [hji6] at A2)
   (try rw [hji6] at A4)
   by_cases c7 : 0 ≤ (ji6)
   ·rw [if_pos c7] at H
    have c7b0 := eq_true c7
    have c7b1 := decide_eq_true c7
    clear c7
    obtain ⟨ji8, hji8⟩ : ∃ j_ : Int, (shr .u64 (rd t263 0) (ji6)) = j_ := ⟨_, rfl⟩
    replace H : (if (ji8) = 0 then (some 0) else (some 110)) = some r := by first | (rw [hji8] at H; exact H) | (simp only [hji8] at H ⊢; exact H)
    (try rw [hji8] at A2)
    (try rw [hji8] at A4)
    have hji8_ : ((rd t263 0) / 2 ^ min (ji6).toNat 64) = ji8 := hji8
    have hji8z : (ji6) ≤ 64 → ((rd t263 0) / 2 ^ (ji6).toNat) = ji8 := shr_small hji8
    by_cases c9 : (ji8) = 0
    ·rw [if_pos c9] at H
     obtain ⟨c9b0, c9b1⟩ := qe c9; clear c9
     obtain rfl := Option.some.inj H
     go_enter Tryd.func20, Tryd.ntmps20
     try go_wp2_with (first | ((with_reducible refine gate_dst (N := 1) rfl ?_); refine box_event (by rfl) (N := 1) (by rfl) (cs := #[.string a0_0, .int .i64 a0_1, .int .i64 a0_2, .slice A0_3 l0_3.length c0_3]) (t := 34) ?hr ?_; (case hr => first | (go_simp; done) | (go_simp; rfl)); intro gb261 hg w10 hbox hb; have BK261 := Aside0.mk (hbox); have GW261 := qG hg; have GE261 := GW261; replace HB := qH hb; clear hb hbox hg; obtain ⟨hcz11_0, hcz11_1, hcz11_2, hcz11_3, hfz11_0, hfz11_1, hfz11_2, hfz11_3⟩ := bk4 BK261.out) | ((with_reducible refine gate_callee (f := 49) rfl ?_); refine goesL_ (some 5) rfl rfl Tryd.func49 (by kernel_rfl) rfl #[.agg #[.string a0_0, .int .i64 a0_1, .int .i64 a0_2, .slice A0_3 l0_3.length c0_3]] rfl qL ?_; (with_reducible refine (ir_Check.calls k a0_0 a0_1 a0_2 _ _ l0_3 t262 _ ?side1 ?side2 A2.out (hL := ?side99)).mono ?_); (case side1 => exact qCB HR0_3.out); (case side2 => exact HC0_3.out); (case side99 => exact LaidW.below HLd.out qB); rintro e w12 ⟨rfl, hb⟩; refine ⟨_, rfl, ?_⟩; replace BK261 := qW BK261 hb; replace HB := qH hb; (try clear hb)))
     have n0_ := Aside0.mk (blk_drew BK261.out)
     have n1_ := Aside0.mk (below_drew1 HB.out)
     clear BK261
     clear HB
     have BK261 := n0_
     have HB := n1_
     clear n0_ n1_
     refine start_ (n := 9) (S := fun w' => w'.cell? ⟨gb261, 0, none⟩ = some (.string a0_0) ∧ w'.cell? ⟨gb261, 1, none⟩ = some (.int .i64 a0_1) ∧ w'.cell? ⟨gb261, 2, none⟩ = some (.int .i64 a0_2) ∧ w'.cell? ⟨gb261, 3, none⟩ = some (.slice A0_3 l0_3.length c0_3)) (ds := []) #[false, false, false, false, false, false, false, false, false] (by kernel_rfl) rfl rfl ⟨(blk_cell BK261.out 0).trans rfl, (blk_cell BK261.out 1).trans rfl, (blk_cell BK261.out 2).trans rfl, (blk_cell BK261.out 3).trans rfl⟩ (fun hHeld => ?_); refine with_tabW live_Check.tab4 live_Check.bits4 (fun HT_ HW_ => ?_)
     generalize w12.drew = w13 at BK261 HB hHeld ⊢
     refine pure_ (i := 4) (N := some 13) (v := ?_) (a' := ?_) #[false, false, false, false, true, false, false, false, false] rfl rfl (any_of HT_.out (by kernel_rfl)) (fun _ _ _ h => h) (Or.inl ⟨by rfl, ?_⟩) ?_ ?_
     rotate_left
     ·intro w'
      go_simp
      with_reducible rfl
     rotate_left
     ·simp only [Act.put, List.setIfInBounds_toArray, List.set_cons_zero, List.set_cons_succ, i64_w, i32_w]
      rfl
     refine take_ (i := 0) (N := some 9) (v := ?_) (a' := ?_) #[true, false, false, false, true, false, false, false, false] rfl rfl (take_ofW HT_.out HW_.out (by kernel_rfl)) (fun _ _ _ h => h) (Or.inl ⟨by rfl, ?_⟩) hHeld ?_ ?_
     rotate_left
     ·rintro w' ⟨s0, s1, s2, s3⟩
      go_simp
      with_reducible rfl
     rotate_left
     ·simp only [Act.put, List.setIfInBounds_toArray, List.set_cons_zero, List.set_cons_succ, i64_w, i32_w]
      rfl
     refine take_ (i := 5) (N := some 14) (v := ?_) (a' := ?_) #[true, false, false, false, true, true, false, false, false] rfl rfl (take_ofW HT_.out HW_.out (by kernel_rfl)) (fun _ _ _ h => h) (Or.inl ⟨by rfl, ?_⟩) hHeld ?_ ?_
     rotate_left
     ·rintro w' ⟨s0, s1, s2, s3⟩
      go_simp
      with_reducible rfl
     rotate_left
     ·simp only [Act.put, List.setIfInBounds_toArray, List.set_cons_zero, List.set_cons_succ, i64_w, i32_w]
      rfl
     refine pure_ (i := 6) (N := some 15) (v := ?_) (a' := ?_) #[true, false, false, false, true, true, true, false, false] rfl rfl (any_of HT_.out (by kernel_rfl)) (fun _ _ _ h => h) (Or.inl ⟨by rfl, ?_⟩) ?_ ?_
     rotate_left
     ·intro w'
      go_simp
      with_reducible rfl
     rotate_left
     ·simp only [Act.put, List.setIfInBounds_toArray, List.set_cons_zero, List.set_cons_succ, i64_w, i32_w]
      rfl
     refine one_ (i := 1) (N := some 10) #[true, true, false, false, true, true, true, false, false] rfl rfl (one_of HT_.out (by kernel_rfl)) (by decide) (fun K hK => ?_)
     refine goes_ Tryd.func50 (by kernel_rfl) rfl #[.agg #[.string a0_0, .int .i64 a0_1, .int .i64 a0_2, .slice A0_3 l0_3.length c0_3]] (by rfl) rfl rfl qL ?_
     with_reducible refine (live_sets.calls k a0_0 a0_1 a0_2 _ _ l0_3 t263 _ ?side1 ?side2 A4.out (hL := ?side99)).mono ?_
     (case side1 => exact qCB HR0_3.out)
     (case side2 => exact HC0_3.out)
     (case side99 => exact LaidW.below HLd.out qB)
     rintro e w14 ⟨v264, rfl, ho0, hb⟩
     refine ⟨_, rfl, ?_⟩
     have n0_ := Aside0.mk (Kd.R_lower ho0 (below_size qB))
     have n1_ := qW BK261 hb
     have n2_ := qH hb
     clear BK261
     clear HB
     have HO265 := n0_
     have BK261 := n1_
     have HB := n2_
     clear n0_ n1_ n2_
     (try clear hb)
     (try clear hb2)
     (try clear hk)
     (try clear hi)
     (try clear ho0)
     obtain ⟨Ao15, co15, eo15⟩ := Kd.R_slice HO265.out
     (first | subst eo15 | (injection eo15 with f1_ f2_ f3_; have f4_ := f1_.symm; have f5_ := f3_.symm; clear f1_ f2_ f3_; subst f4_; subst f5_))
     have p266 : 0 ≤ (0 : Int) := (by omega)
     have q266 : 0 < (t263.length : Int) := of_decide_eq_true qA
     obtain ⟨ad266, e266, hx266_0⟩ := Kd.at_int (Kd.R_reads' HO265.out).2.2 0 p266 q266
     cases e266
     have qi266 : (0 < t263.length) = True := eq_true (by omega)
     (try rw [show ((0 : Int)).toNat = 0 from rfl] at hx266_0)
     (try rw [Addr.add_zero'] at hx266_0)
     replace p266 := eq_true p266
     replace q266 := eq_true q266
     refine hK.out _ _ ⟨(blk_cell BK261.out 0).trans rfl, (blk_cell BK261.out 1).trans rfl, (blk_cell BK261.out 2).trans rfl, (blk_cell BK261.out 3).trans rfl⟩ (fun hHeld => ?_)
     clear hK K
     refine norm_ (a' := ?_) ?_ ?_
     rotate_left
     ·show Act.put _ (some 10) _ = _
      simp only [Act.put, List.setIfInBounds_toArray, List.set_cons_zero, List.set_cons_succ, i64_w, i32_w]
      rfl
     refine pure_ (i := 2) (N := some 11) (v := ?_) (a' := ?_) #[true, true, true, false, true, true, true, false, false] rfl rfl (any_of HT_.out (by kernel_rfl)) (fun _ _ _ h => h) (Or.inl ⟨by rfl, ?_⟩) ?_ ?_
     rotate_left
     ·intro w'
      go_simp
      with_reducible rfl
     rotate_left
     ·simp only [Act.put, List.setIfInBounds_toArray, List.set_cons_zero, List.set_cons_succ, i64_w, i32_w]
      rfl
     refine one_ (i := 3) (N := some 12) #[true, true, true, true, true, true, true, false, false] rfl rfl (one_of HT_.out (by kernel_rfl)) (by decide) (fun K hK => ?_)
     refine live_Check.one_value (.int .u64 (rd t263 0)) rfl rfl (by first | (go_simp; done) | (go_simp; with_reducible rfl)) ?_
     refine hK.out _ _ ⟨(blk_cell BK261.out 0).trans rfl, (blk_cell BK261.out 1).trans rfl, (blk_cell BK261.out 2).trans rfl, (blk_cell BK261.out 3).trans rfl⟩ (fun hHeld => ?_)
     clear hK K
     refine norm_ (a' := ?_) ?_ ?_
     rotate_left
     ·show Act.put _ (some 12) _ = _
      simp only [Act.put, List.setIfInBounds_toArray, List.set_cons_zero, List.set_cons_succ, i64_w, i32_w]
      rfl
     refine pure_ (i := 7) (N := some 16) (v := ?_) (a' := ?_) #[true, true, true, true, true, true, true, true, false] rfl rfl (any_of HT_.out (by kernel_rfl)) (fun _ _ _ h => h) (Or.inl ⟨by rfl, ?_⟩) ?_ ?_
     rotate_left
     ·intro w'
      go_simp
      with_reducible rfl
     rotate_left
     ·simp only [Act.put, List.setIfInBounds_toArray, List.set_cons_zero, List.set_cons_succ, i64_w, i32_w]
      rfl
     refine pure_ (i := 8) (N := some 17) (v := ?_) (a' := ?_) #[true, true, true, true, true, true, true, true, true] rfl rfl (any_of HT_.out (by kernel_rfl)) (fun _ _ _ h => h) (Or.inl ⟨by rfl, ?_⟩) ?_ ?_
     rotate_left
     ·intro w'
      go_simp
      with_reducible rfl
     rotate_left
     ·simp only [Act.put, List.setIfInBounds_toArray, List.set_cons_zero, List.set_cons_succ, i64_w, i32_w]
      rfl
     refine done_ (done_of HT_.out (by kernel_rfl)) ?_
     try go_wp2
     go_ret
     exact ⟨by first | rfl | (simp [errW_none, errW_some] <;> rfl) | (simp only [← hji6, ← hji8]; first | rfl | (simp [errW_none, errW_some] <;> rfl)) | (simp [*, errW_none, errW_some] <;> rfl), qB⟩
    ·rw [if_neg c9] at H
     obtain ⟨c9b0, c9b1⟩ := qn c9
     obtain rfl := Option.some.inj H
     go_enter Tryd.func20, Tryd.ntmps20
     try go_wp2_with (first | ((with_reducible refine gate_dst (N := 1) rfl ?_); refine box_event (by rfl) (N := 1) (by rfl) (cs := #[.string a0_0, .int .i64 a0_1, .int .i64 a0_2, .slice A0_3 l0_3.length c0_3]) (t := 34) ?hr ?_; (case hr => first | (go_simp; done) | (go_simp; rfl)); intro gb261 hg w16 hbox hb; have BK261 := Aside0.mk (hbox); have GW261 := qG hg; have GE261 := GW261; replace HB := qH hb; clear hb hbox hg; obtain ⟨hcz17_0, hcz17_1, hcz17_2, hcz17_3, hfz17_0, hfz17_1, hfz17_2, hfz17_3⟩ := bk4 BK261.out) | ((with_reducible refine gate_callee (f := 49) rfl ?_); refine goesL_ (some 5) rfl rfl Tryd.func49 (by kernel_rfl) rfl #[.agg #[.string a0_0, .int .i64 a0_1, .int .i64 a0_2, .slice A0_3 l0_3.length c0_3]] rfl qL ?_; (with_reducible refine (ir_Check.calls k a0_0 a0_1 a0_2 _ _ l0_3 t262 _ ?side1 ?side2 A2.out (hL := ?side99)).mono ?_); (case side1 => exact qCB HR0_3.out); (case side2 => exact HC0_3.out); (case side99 => exact LaidW.below HLd.out qB); rintro e w18 ⟨rfl, hb⟩; refine ⟨_, rfl, ?_⟩; replace BK261 := qW BK261 hb; replace HB := qH hb; (try clear hb)))
     have n0_ := Aside0.mk (blk_drew BK261.out)
     have n1_ := Aside0.mk (below_drew1 HB.out)
     clear BK261
     clear HB
     have BK261 := n0_
     have HB := n1_
     clear n0_ n1_
     refine start_ (n := 9) (S := fun w' => w'.cell? ⟨gb261, 0, none⟩ = some (.string a0_0) ∧ w'.cell? ⟨gb261, 1, none⟩ = some (.int .i64 a0_1) ∧ w'.cell? ⟨gb261, 2, none⟩ = some (.int .i64 a0_2) ∧ w'.cell? ⟨gb261, 3, none⟩ = some (.slice A0_3 l0_3.length c0_3)) (ds := []) #[false, false, false, false, false, false, false, false, false] (by kernel_rfl) rfl rfl ⟨(blk_cell BK261.out 0).trans rfl, (blk_cell BK261.out 1).trans rfl, (blk_cell BK261.out 2).trans rfl, (blk_cell BK261.out 3).trans rfl⟩ (fun hHeld => ?_); refine with_tabW live_Check.tab4 live_Check.bits4 (fun HT_ HW_ => ?_)
     generalize w18.drew = w19 at BK261 HB hHeld ⊢
     refine pure_ (i := 4) (N := some 13) (v := ?_) (a' := ?_) #[false, false, false, false, true, false, false, false, false] rfl rfl (any_of HT_.out (by kernel_rfl)) (fun _ _ _ h => h) (Or.inl ⟨by rfl, ?_⟩) ?_ ?_
     rotate_left
     ·intro w'
      go_simp
      with_reducible rfl
     rotate_left
     ·simp only [Act.put, List.setIfInBounds_toArray, List.set_cons_zero, List.set_cons_succ, i64_w, i32_w]
      rfl
     refine take_ (i := 0) (N := some 9) (v := ?_) (a' := ?_) #[true, false, false, false, true, false, false, false, false] rfl rfl (take_ofW HT_.out HW_.out (by kernel_rfl)) (fun _ _ _ h => h) (Or.inl ⟨by rfl, ?_⟩) hHeld ?_ ?_
     rotate_left
     ·rintro w' ⟨s0, s1, s2, s3⟩
      go_simp
      with_reducible rfl
     rotate_left
     ·simp only [Act.put, List.setIfInBounds_toArray, List.set_cons_zero, List.set_cons_succ, i64_w, i32_w]
      rfl
     refine take_ (i := 5) (N := some 14) (v := ?_) (a' := ?_) #[true, false, false, false, true, true, false, false, false] rfl rfl (take_ofW HT_.out HW_.out (by kernel_rfl)) (fun _ _ _ h => h) (Or.inl ⟨by rfl, ?_⟩) hHeld ?_ ?_
     rotate_left
     ·rintro w' ⟨s0, s1, s2, s3⟩
      go_simp
      with_reducible rfl
     rotate_left
     ·simp only [Act.put, List.setIfInBounds_toArray, List.set_cons_zero, List.set_cons_succ, i64_w, i32_w]
      rfl
     refine pure_ (i := 6) (N := some 15) (v := ?_) (a' := ?_) #[true, false, false, false, true, true, true, false, false] rfl rfl (any_of HT_.out (by kernel_rfl)) (fun _ _ _ h => h) (Or.inl ⟨by rfl, ?_⟩) ?_ ?_
     rotate_left
     ·intro w'
      go_simp
      with_reducible rfl
     rotate_left
     ·simp only [Act.put, List.setIfInBounds_toArray, List.set_cons_zero, List.set_cons_succ, i64_w, i32_w]
      rfl
     refine one_ (i := 1) (N := some 10) #[true, true, false, false, true, true, true, false, false] rfl rfl (one_of HT_.out (by kernel_rfl)) (by decide) (fun K hK => ?_)
     refine goes_ Tryd.func50 (by kernel_rfl) rfl #[.agg #[.string a0_0, .int .i64 a0_1, .int .i64 a0_2, .slice A0_3 l0_3.length c0_3]] (by rfl) rfl rfl qL ?_
     with_reducible refine (live_sets.calls k a0_0 a0_1 a0_2 _ _ l0_3 t263 _ ?side1 ?side2 A4.out (hL := ?side99)).mono ?_
     (case side1 => exact qCB HR0_3.out)
     (case side2 => exact HC0_3.out)
     (case side99 => exact LaidW.below HLd.out qB)
     rintro e w20 ⟨v264, rfl, ho0, hb⟩
     refine ⟨_, rfl, ?_⟩
     have n0_ := Aside0.mk (Kd.R_lower ho0 (below_size qB))
     have n1_ := qW BK261 hb
     have n2_ := qH hb
     clear BK261
     clear HB
     have HO265 := n0_
     have BK261 := n1_
     have HB := n2_
     clear n0_ n1_ n2_
     (try clear hb)
     (try clear hb2)
     (try clear hk)
     (try clear hi)
     (try clear ho0)
     obtain ⟨Ao21, co21, eo21⟩ := Kd.R_slice HO265.out
     (first | subst eo21 | (injection eo21 with f1_ f2_ f3_; have f4_ := f1_.symm; have f5_ := f3_.symm; clear f1_ f2_ f3_; subst f4_; subst f5_))
     have p266 : 0 ≤ (0 : Int) := (by omega)
     have q266 : 0 < (t263.length : Int) := of_decide_eq_true qA
     obtain ⟨ad266, e266, hx266_0⟩ := Kd.at_int (Kd.R_reads' HO265.out).2.2 0 p266 q266
     cases e266
     have qi266 : (0 < t263.length) = True := eq_true (by omega)
     (try rw [show ((0 : Int)).toNat = 0 from rfl] at hx266_0)
     (try rw [Addr.add_zero'] at hx266_0)
     replace p266 := eq_true p266
     replace q266 := eq_true q266
     refine hK.out _ _ ⟨(blk_cell BK261.out 0).trans rfl, (blk_cell BK261.out 1).trans rfl, (blk_cell BK261.out 2).trans rfl, (blk_cell BK261.out 3).trans rfl⟩ (fun hHeld => ?_)
     clear hK K
     refine norm_ (a' := ?_) ?_ ?_
     rotate_left
     ·show Act.put _ (some 10) _ = _
      simp only [Act.put, List.setIfInBounds_toArray, List.set_cons_zero, List.set_cons_succ, i64_w, i32_w]
      rfl
     refine pure_ (i := 2) (N := some 11) (v := ?_) (a' := ?_) #[true, true, true, false, true, true, true, false, false] rfl rfl (any_of HT_.out (by kernel_rfl)) (fun _ _ _ h => h) (Or.inl ⟨by rfl, ?_⟩) ?_ ?_
     rotate_left
     ·intro w'
      go_simp
      with_reducible rfl
     rotate_left
     ·simp only [Act.put, List.setIfInBounds_toArray, List.set_cons_zero, List.set_cons_succ, i64_w, i32_w]
      rfl
     refine one_ (i := 3) (N := some 12) #[true, true, true, true, true, true, true, false, false] rfl rfl (one_of HT_.out (by kernel_rfl)) (by decide) (fun K hK => ?_)
     refine live_Check.one_value (.int .u64 (rd t263 0)) rfl rfl (by first | (go_simp; done) | (go_simp; with_reducible rfl)) ?_
     refine hK.out _ _ ⟨(blk_cell BK261.out 0).trans rfl, (blk_cell BK261.out 1).trans rfl, (blk_cell BK261.out 2).trans rfl, (blk_cell BK261.out 3).trans rfl⟩ (fun hHeld => ?_)
     clear hK K
     refine norm_ (a' := ?_) ?_ ?_
     rotate_left
     ·show Act.put _ (some 12) _ = _
      simp only [Act.put, List.setIfInBounds_toArray, List.set_cons_zero, List.set_cons_succ, i64_w, i32_w]
      rfl
     refine pure_ (i := 7) (N := some 16) (v := ?_) (a' := ?_) #[true, true, true, true, true, true, true, true, false] rfl rfl (any_of HT_.out (by kernel_rfl)) (fun _ _ _ h => h) (Or.inl ⟨by rfl, ?_⟩) ?_ ?_
     rotate_left
     ·intro w'
      go_simp
      with_reducible rfl
     rotate_left
     ·simp only [Act.put, List.setIfInBounds_toArray, List.set_cons_zero, List.set_cons_succ, i64_w, i32_w]
      rfl
     refine pure_ (i := 8) (N := some 17) (v := ?_) (a' := ?_) #[true, true, true, true, true, true, true, true, true] rfl rfl (any_of HT_.out (by kernel_rfl)) (fun _ _ _ h => h) (Or.inl ⟨by rfl, ?_⟩) ?_ ?_
     rotate_left
     ·intro w'
      go_simp
      with_reducible rfl
     rotate_left
     ·simp only [Act.put, List.setIfInBounds_toArray, List.set_cons_zero, List.set_cons_succ, i64_w, i32_w]
      rfl
     refine done_ (done_of HT_.out (by kernel_rfl)) ?_
     try go_wp2
     go_ret
     exact ⟨by first | rfl | (simp [errW_none, errW_some] <;> rfl) | (simp only [← hji6, ← hji8]; first | rfl | (simp [errW_none, errW_some] <;> rfl)) | (simp [*, errW_none, errW_some] <;> rfl), qB⟩
   ·rw [if_neg c7] at H
    exact absurd H (by simp)
  ·rw [if_neg c5] at H
   exact absurd H (by simp)
 ·rw [if_neg c3] at H
  obtain ⟨c3b0, c3b1⟩ := qn c3
  obtain rfl := Option.some.inj H
  go_enter Tryd.func20, Tryd.ntmps20
  go_wp2_with (first | ((with_reducible refine gate_dst (N := 1) rfl ?_); refine box_event (by rfl) (N := 1) (by rfl) (cs := #[.string a0_0, .int .i64 a0_1, .int .i64 a0_2, .slice A0_3 l0_3.length c0_3]) (t := 34) ?hr ?_; (case hr => first | (go_simp; done) | (go_simp; rfl)); intro gb261 hg w22 hbox hb; have BK261 := Aside0.mk (hbox); have GW261 := qG hg; have GE261 := GW261; replace HB := qH hb; clear hb hbox hg; obtain ⟨hcz23_0, hcz23_1, hcz23_2, hcz23_3, hfz23_0, hfz23_1, hfz23_2, hfz23_3⟩ := bk4 BK261.out) | ((with_reducible refine gate_callee (f := 49) rfl ?_); refine goesL_ (some 5) rfl rfl Tryd.func49 (by kernel_rfl) rfl #[.agg #[.string a0_0, .int .i64 a0_1, .int .i64 a0_2, .slice A0_3 l0_3.length c0_3]] rfl qL ?_; (with_reducible refine (ir_Check.calls k a0_0 a0_1 a0_2 _ _ l0_3 t262 _ ?side1 ?side2 A2.out (hL := ?side99)).mono ?_); (case side1 => exact qCB HR0_3.out); (case side2 => exact HC0_3.out); (case side99 => exact LaidW.below HLd.out qB); rintro e w24 ⟨rfl, hb⟩; refine ⟨_, rfl, ?_⟩; replace BK261 := qW BK261 hb; replace HB := qH hb; (try clear hb)))
  go_ret
  exact ⟨qE, qB⟩

end Go.Proofs.YtebnnknijbgekaaDoor.Q
namespace Go.Proofs.YtebnnknijbgekaaDoor.Q
open Go.RowKit Go.Proofs.YtebnnknijbgekaaDoorW.PrintWords Go.Proofs.YtebnnknijbgekaaDoorW.PrintLast Go.Proofs.YtebnnknijbgekaaDoorW.PrintMore
attribute [local go_sem] max2_int min2_int max_two min_two max_three min_three max_four min_four   -- for this text's walks alone
set_option linter.unusedVariables false
set_option linter.unusedSimpArgs false

/-! ### live_In: function 27 -/
def live_In.l0 : Nat → List (List Int) → List Int → Int → Int → Option ((List (List Int)))
 | 0, _, _, _, _ => none
 | k + 1, x3, x10, x11, x12 => if x12 < x11 then (if 0 ≤ x12 then (if x12 < (x10.length : Int) then ((live_set_list.f k (rd x10 x12)).bind fun t431 => (if x3.length < 5864062014805 then (live_In.l0 k (x3 ++ [t431]) x10 x11 (wrap64 (x12 + 1))) else (none))) else (none)) else (none)) else (some x3)
def live_In.f (k : Nat) (a0_0 : ByteArray) (a0_1 : Int) (a0_2 : Int) (l0_3 : List (List (SIns))) : Option ((List (List Int))) := (ir_Check.f k a0_0 a0_1 a0_2 l0_3).bind fun t426 => (if t426 = 0 then ((live_sets.f k a0_0 a0_1 a0_2 l0_3).bind fun t427 => (live_In.l0 k ([] : List (List Int)) t427 (t427.length : Int) 0)) else (some ([] : List (List Int))))
theorem live_In.mono_l : ∀ k, (∀ y0 y1 y2 y3, LeO (live_In.l0 k y0 y1 y2 y3) (live_In.l0 (k + 1) y0 y1 y2 y3))
 | 0 => fun _ _ _ _ r h => by simp [live_In.l0] at h
 | k + 1 => by
  have ih0 := live_In.mono_l k
  ·intro y0 y1 y2 y3
   unfold live_In.l0
   repeat' first | (with_reducible exact ih0 _ _ _ _) | (with_reducible exact ir_Check.mono _ _ _ _ _) | (with_reducible exact live_set_list.mono _ _) | (with_reducible exact live_sets.mono _ _ _ _ _) | (with_reducible exact LeO.refl _) | (with_reducible exact LeO.none _) | (with_reducible refine LeO.ite ?_ ?_) | (with_reducible refine LeO.bind ?_ (fun _ => ?_)) | exact LeO.none _ | refine LeO.ite ?_ ?_ | refine LeO.bind ?_ (fun _ => ?_)
theorem live_In.mono : ∀ a0 a1 a2 a3 k, LeO (live_In.f k a0 a1 a2 a3) (live_In.f (k + 1) a0 a1 a2 a3) := by
 intro a0 a1 a2 a3 k
 have ih0 := live_In.mono_l k
 unfold live_In.f
 repeat' first | (with_reducible exact ih0 _ _ _ _) | (with_reducible exact ir_Check.mono _ _ _ _ _) | (with_reducible exact live_set_list.mono _ _) | (with_reducible exact live_sets.mono _ _ _ _ _) | (with_reducible exact LeO.refl _) | (with_reducible exact LeO.none _) | (with_reducible refine LeO.ite ?_ ?_) | (with_reducible refine LeO.bind ?_ (fun _ => ?_)) | exact LeO.none _ | refine LeO.ite ?_ ?_ | refine LeO.bind ?_ (fun _ => ?_)
set_option maxHeartbeats 8000000 in
set_option maxRecDepth 100000 in
theorem live_In.calls (k : Nat) (a0_0 : ByteArray) (a0_1 : Int) (a0_2 : Int) (A0_3 : Option Addr) (c0_3 : Nat) (l0_3 : List (List (SIns))) (r : List (List Int)) (w : World) (hL : LaidW w) (hr0_3 : Kd.C (Kd.slice 31 kIns) w A0_3 l0_3.length l0_3) (hc0_3 : l0_3.length ≤ c0_3) (h : live_In.f k a0_0 a0_1 a0_2 l0_3 = some r) :
  Calls Tryd.prog 27 #[.agg #[.string a0_0, .int .i64 a0_1, .int .i64 a0_2, .slice A0_3 l0_3.length c0_3]] w fun e w' => ∃ v0_ : Value, e = .returned (v0_) ∧ Kd.S (Kd.slice 3 (Kd.int .i64)) 29 w' w.heap.size (fun _ => True) v0_ r ∧ Below w.heap.size w w' := by
 have hu34 := Tryd.underlying34
 have HR0_3 := Aside0.mk hr0_3
 have HC0_3 := Aside0.mk hc0_3
 clear hr0_3 hc0_3
 have HB := Aside0.mk (Below.refl w.heap.size w)
 have HLd := Aside0.mk hL
 clear hL
 have H := h; clear h; unfold live_In.f at H
 replace H := qb H; obtain ⟨t426, A2, H⟩ := H
 by_cases c3 : t426 = 0
 ·rw [if_pos c3] at H
  obtain ⟨c3b0, c3b1⟩ := qe c3; clear c3
  replace H := qb H; obtain ⟨t427, A4, H⟩ := H
  have H' := Aside0.mk H
  clear H
  go_enter Tryd.func27, Tryd.ntmps27
  go_wp2_with (first | ((with_reducible refine gate_dst (N := 1) rfl ?_); refine box_event (by rfl) (N := 1) (by rfl) (cs := #[.string a0_0, .int .i64 a0_1, .int .i64 a0_2, .slice A0_3 l0_3.length c0_3]) (t := 34) ?hr ?_; (case hr => first | (go_simp; done) | (go_simp; rfl)); intro gb425 hg w5 hbox hb; have BK425 := Aside0.mk (hbox); have GW425 := qG hg; have GE425 := GW425; replace HB := qH hb; clear hb hbox hg; obtain ⟨hcz6_0, hcz6_1, hcz6_2, hcz6_3, hfz6_0, hfz6_1, hfz6_2, hfz6_3⟩ := bk4 BK425.out) | ((with_reducible refine gate_callee (f := 49) rfl ?_); refine goesL_ (some 7) rfl rfl Tryd.func49 (by kernel_rfl) rfl #[.agg #[.string a0_0, .int .i64 a0_1, .int .i64 a0_2, .slice A0_3 l0_3.length c0_3]] rfl qL ?_; (with_reducible refine (ir_Check.calls k a0_0 a0_1 a0_2 _ _ l0_3 t426 _ ?side1 ?side2 A2.out (hL := ?side99)).mono ?_); (case side1 => exact qCB HR0_3.out); (case side2 => exact HC0_3.out); (case side99 => exact LaidW.below HLd.out qB); rintro e w7 ⟨rfl, hb⟩; refine ⟨_, rfl, ?_⟩; replace BK425 := qW BK425 hb; replace HB := qH hb; (try clear hb); obtain ⟨hcz8_0, hcz8_1, hcz8_2, hcz8_3, hfz8_0, hfz8_1, hfz8_2, hfz8_3⟩ := bk4 BK425.out) | ((with_reducible refine gate_callee (f := 50) rfl ?_); refine goesL_ (some 10) rfl rfl Tryd.func50 (by kernel_rfl) rfl #[.agg #[.string a0_0, .int .i64 a0_1, .int .i64 a0_2, .slice A0_3 l0_3.length c0_3]] rfl qL ?_; (with_reducible refine (live_sets.calls k a0_0 a0_1 a0_2 _ _ l0_3 t427 _ ?side1 ?side2 A4.out (hL := ?side99)).mono ?_); (case side1 => exact qCB HR0_3.out); (case side2 => exact HC0_3.out); (case side99 => exact LaidW.below HLd.out qB); rintro e w9 ⟨v428, rfl, ho0, hb⟩; refine ⟨_, rfl, ?_⟩; have HO429 := Aside0.mk (Kd.R_lower ho0 (below_size qB)); replace BK425 := qW BK425 hb; replace HB := qH hb; (try clear hb); (try clear ho0); obtain ⟨Ao10, co10, eo10⟩ := Kd.R_slice HO429.out; subst eo10))
  go_loopg [3, 12] k (fun kq v3 v12 w' => ∃ (x3_1 : List (List Int)) (x12_1 : Int), v12 = .int .i64 x12_1 ∧ Aside0 (live_In.l0 kq x3_1 t427 (t427.length : Int) x12_1 = some r) ∧ Aside0 (kq ≤ k) ∧ Aside0 (Kd.S (Kd.slice 3 (Kd.int .i64)) 29 w' w.heap.size (fun _ => True) v3 x3_1) ∧ Aside0 (Kd.R (Kd.int .u64) 61 w' w.heap.size (fun _ => True) (.slice Ao10 t427.length co10) t427) ∧ Aside0 (w'.heap[gb425]? = some (.cells #[.string a0_0, .int .i64 a0_1, .int .i64 a0_2, (.slice A0_3 l0_3.length c0_3)] 34 (0, 0))) ∧ Aside0 (Below w.heap.size w w'))
  case atStart => exact ⟨(([] : List (List Int))), (0), qT, H', ⟨Nat.le_refl _⟩, ⟨by first | exact Kd.S_nil _ _ _ _ _ | exact Kd.N_nil _ _ _ _ _ | exact Kd.V_nil _ _ _ _ _ | exact Kd.Q_nil _ _ _ _ _ | exact Kd.R_nil _ _ _ _ _⟩, ⟨qR HO429.out⟩, ⟨qK BK425.out⟩, ⟨qB⟩⟩
  case round =>
   clear H'
   try clear c2; try clear p2; try clear c3; try clear c3b0 c3b1; try clear c4; try clear c5; try clear hcz6_0 hcz6_1 hcz6_2 hcz6_3 hfz6_0 hfz6_1 hfz6_2 hfz6_3; try clear hcz8_0 hcz8_1 hcz8_2 hcz8_3 hfz8_0 hfz8_1 hfz8_2 hfz8_3
   obtain ⟨x3_1, x12_1, rfl, HA, HK1, HO_3, HO_10, BK425, HB⟩ := hrel
   cases gk with
   | zero => exact absurd HA.out (by simp [live_In.l0])
   | succ k1 =>
    have H := HA.out
    clear HA
    simp only [live_In.l0] at H
    by_cases c11 : x12_1 < (t427.length : Int)
    ·rw [if_pos c11] at H
     have c11b0 := decide_eq_true c11
     clear c11
     by_cases c12 : 0 ≤ x12_1
     ·rw [if_pos c12] at H
      have c12b0 := decide_eq_true c12
      clear c12
      by_cases c13 : x12_1 < (t427.length : Int)
      ·rw [if_pos c13] at H
       have c13b0 := decide_eq_true c13
       clear c13
       replace H := qb H; obtain ⟨t431, A14, H⟩ := H
       by_cases c15 : x3_1.length < 5864062014805
       ·rw [if_pos c15] at H
        have LMc15 := Aside0.mk c15
        clear c15
        obtain ⟨y434, hy434⟩ : ∃ y_ : List (List Int), y_ = (x3_1 ++ [t431]) := ⟨_, rfl⟩
        replace H : (live_In.l0 k1 y434 t427 (t427.length : Int) (wrap64 (x12_1 + 1))) = some r := by first | (rw [hy434]; with_reducible exact H) | (have H2_ := (Option.bind_some _ _).symm.trans H; rw [hy434]; with_reducible exact H2_) | (have H2_ := (Option.bind_some _ _).symm.trans H; with_reducible exact H2_) | with_reducible exact H | (rw [hy434]; exact H) | exact H
        have Ny434 := Aside0.mk hy434
        clear hy434
        have H' := Aside0.mk H
        clear H
        have p430 : 0 ≤ (x12_1 : Int) := of_decide_eq_true qA
        have q430 : x12_1 < (t427.length : Int) := of_decide_eq_true qA
        obtain ⟨ad430, e430, hx430_0⟩ := Kd.at_int (Kd.R_reads' HO_10.out).2.2 x12_1 p430 q430
        cases e430
        replace p430 := eq_true p430
        replace q430 := eq_true q430
        go_wp2_with (first | ((with_reducible refine gate_callee (f := 52) rfl ?_); refine goesL_ (some 18) rfl rfl Tryd.func52 (by kernel_rfl) rfl #[.int .u64 (rd t427 x12_1)] rfl qL ?_; (with_reducible refine (live_set_list.calls k1 (rd t427 x12_1) t431 _ A14.out (hL := ?side99)).mono ?_); (case side99 => exact LaidW.below HLd.out qB); rintro e w16 ⟨v432, rfl, ho0, hb⟩; refine ⟨_, rfl, ?_⟩; replace HO_3 := Aside0.mk (Kd.S_elder' (qS HO_3.out) (Kd.R_base ho0) hb); replace HO_10 := Aside0.mk (Kd.R_below (qR HO_10.out) hb); have HO433 := Aside0.mk (Kd.R_lower ho0 (below_size qB)); replace BK425 := qW BK425 hb; replace HB := qH hb; (try clear hb); (try clear ho0); obtain ⟨Ao18, co18, eo18⟩ := Kd.R_slice HO433.out; subst eo18) | ((with_reducible refine gate_builtin (b := .append) (xs := #[.tmp 16, .tmp 19]) rfl ?_); at_builtin; refine Kd.S_append (Kd.slice 3 (Kd.int .i64)) (w0 := w) w.heap.size rfl (.tmp 16) (.tmp 19) 44 29 (.slice none 0 0) 24 rfl Tryd.underlying44 info29 rfl (by decide) (by omega) u3 x3_1 t431 [.slice Ao18 t431.length co18] (fun _ => True) (fun k_ => some k_ = (.slice Ao18 t431.length co18 : Value).ownBlock) rfl rfl ?aP (fun k_ hk_ => ((Kd.R_mono (ok' := fun k_ => ((fun _ => True)) k_ ∧ some k_ ≠ (u3 : Value).ownBlock) (Kd.R_apart' (HO433.out) (Kd.S_typed HO_3.out) (by decide)) (fun k_ hk => ⟨trivial, hk.2⟩))).1 k_ hk_.symm) ?aF ?aO ?aB ?aS ?aL ?_; (case aP => exact Kd.M_row (Kd.R_mono (Kd.R_tight rfl (Kd.R_mono (ok' := fun k_ => ((fun _ => True)) k_ ∧ some k_ ≠ (u3 : Value).ownBlock) (Kd.R_apart' (HO433.out) (Kd.S_typed HO_3.out) (by decide)) (fun k_ hk => ⟨trivial, hk.2⟩))) (fun _ h_ => h_))); (case aB => exact qB); (case aF => exact (fun _ _ => trivial)); (case aO => exact (by (with_reducible repeat (first | apply Kd.S_alloc | apply Kd.S_drewN | apply Kd.S_drew)); exact Kd.S_mono HO_3.out (fun k_ hk => ⟨trivial, fun e_ => hk.2 e_⟩))); (case aS => exact (below_size qB)); (case aL => have := LMc15.out; omega); intro v435 w17 ho hb hg hat; rw [← Ny434.out] at ho; replace HO_10 := Aside0.mk (Kd.R_over' (qR HO_10.out) (Kd.S_typed (qS HO_3.out)) (by decide) hg); replace BK425 := Aside0.mk (blk_grown (qK BK425.out) hg (Kd.S_ne HO_3.out BK425.out (by decide))); replace HB := Aside0.mk (hb); have HO436 := Aside0.mk (ho); clear HO_3 HO433; clear ho hb hg hat))
        go_roundg k1
        case measure => have := HK1.out; omega
        case rel => exact ⟨(y434), (wrap64 (x12_1 + 1)), qT, H', ⟨by have := HK1.out; omega⟩, ⟨qS HO436.out⟩, ⟨qR HO_10.out⟩, ⟨qK BK425.out⟩, ⟨qB⟩⟩
       ·rw [if_neg c15] at H
        exact absurd H (by simp)
      ·rw [if_neg c13] at H
       exact absurd H (by simp)
     ·rw [if_neg c12] at H
      exact absurd H (by simp)
    ·rw [if_neg c11] at H
     have c11b0 := decide_eq_false c11
     clear c11
     obtain rfl := Option.some.inj H
     go_wp2
     go_ret
     exact ⟨_, qE, qS HO_3.out, qB⟩
 ·rw [if_neg c3] at H
  obtain ⟨c3b0, c3b1⟩ := qn c3
  obtain rfl := Option.some.inj H
  go_enter Tryd.func27, Tryd.ntmps27
  go_wp2_with (first | ((with_reducible refine gate_dst (N := 1) rfl ?_); refine box_event (by rfl) (N := 1) (by rfl) (cs := #[.string a0_0, .int .i64 a0_1, .int .i64 a0_2, .slice A0_3 l0_3.length c0_3]) (t := 34) ?hr ?_; (case hr => first | (go_simp; done) | (go_simp; rfl)); intro gb425 hg w19 hbox hb; have BK425 := Aside0.mk (hbox); have GW425 := qG hg; have GE425 := GW425; replace HB := qH hb; clear hb hbox hg; obtain ⟨hcz20_0, hcz20_1, hcz20_2, hcz20_3, hfz20_0, hfz20_1, hfz20_2, hfz20_3⟩ := bk4 BK425.out) | ((with_reducible refine gate_callee (f := 49) rfl ?_); refine goesL_ (some 7) rfl rfl Tryd.func49 (by kernel_rfl) rfl #[.agg #[.string a0_0, .int .i64 a0_1, .int .i64 a0_2, .slice A0_3 l0_3.length c0_3]] rfl qL ?_; (with_reducible refine (ir_Check.calls k a0_0 a0_1 a0_2 _ _ l0_3 t426 _ ?side1 ?side2 A2.out (hL := ?side99)).mono ?_); (case side1 => exact qCB HR0_3.out); (case side2 => exact HC0_3.out); (case side99 => exact LaidW.below HLd.out qB); rintro e w21 ⟨rfl, hb⟩; refine ⟨_, rfl, ?_⟩; replace BK425 := qW BK425 hb; replace HB := qH hb; (try clear hb)))
  go_ret
  exact ⟨_, qE, by first | exact Kd.S_nil _ _ _ _ _ | exact Kd.N_nil _ _ _ _ _ | exact Kd.V_nil _ _ _ _ _ | exact Kd.Q_nil _ _ _ _ _ | exact Kd.R_nil _ _ _ _ _, qB⟩

end Go.Proofs.YtebnnknijbgekaaDoor.Q
