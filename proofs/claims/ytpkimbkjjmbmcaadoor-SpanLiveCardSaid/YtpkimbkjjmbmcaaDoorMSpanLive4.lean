/- SpanLive: parts of the proofs, put together. -/
import Derived.Test.YtpkimbkjjmbmcaaDoorMSpanLive1
import Derived.Test.YtpkimbkjjmbmcaaDoorMSpanLive2
import Derived.Test.YtpkimbkjjmbmcaaDoorMSpanLive3
namespace Go.Proofs.YtpkimbkjjmbmcaaDoor.Q
open Go.RowKit Go.Proofs.YtpkimbkjjmbmcaaDoorW.PrintWords Go.Proofs.YtpkimbkjjmbmcaaDoorW.PrintLast Go.Proofs.YtpkimbkjjmbmcaaDoorW.PrintMore
attribute [local go_sem] max2_int min2_int max_two min_two max_three min_three max_four min_four
set_option linter.unusedVariables false
set_option linter.unusedSimpArgs false

mutual
def ir_Check.j0 : Nat → Bool → ByteArray → Int → Int → List (List (SIns)) → Option (Int)
 | 0, _, _, _, _, _ => none
 | k + 1, x46, x292000, x292001, x292002, x292003 => if x46 = true then (some 71) else (ir_Check.l0 k 200 x292003 (x292003.length : Int) 0 x292000 x292001 x292002 x292003)
def ir_Check.l0 : Nat → Int → List (List (SIns)) → Int → Int → ByteArray → Int → Int → List (List (SIns)) → Option (Int)
 | 0, _, _, _, _, _, _, _, _ => none
 | k + 1, x3, x48, x49, x50, x292000, x292001, x292002, x292003 => if x50 < x49 then (if 0 ≤ x50 then (if x50 < (x48.length : Int) then (if ((rd_LIns x48 x50).length : Int) = 0 then (some 71) else (if ((rd_LIns x48 x50).length : Int) > x3 then (some 71) else (ir_Check.l0 k (wrap64 (x3 - ((rd_LIns x48 x50).length : Int))) x48 x49 (wrap64 (x50 + 1)) x292000 x292001 x292002 x292003))) else (none)) else (none)) else (ir_Check.l1 k x292003 (x292003.length : Int) 0 x292000 x292001 x292002 x292003)
def ir_Check.l1 : Nat → List (List (SIns)) → Int → Int → ByteArray → Int → Int → List (List (SIns)) → Option (Int)
 | 0, _, _, _, _, _, _, _ => none
 | k + 1, x69, x70, x71, x292000, x292001, x292002, x292003 => if x71 < x70 then (if 0 ≤ x71 then (if x71 < (x69.length : Int) then (ir_Check.l2 k (rd_LIns x69 x71) x69 x70 x71 (rd_LIns x69 x71) ((rd_LIns x69 x71).length : Int) 0 x292000 x292001 x292002 x292003) else (none)) else (none)) else (some 0)
def ir_Check.l2 : Nat → List (SIns) → List (List (SIns)) → Int → Int → List (SIns) → Int → Int → ByteArray → Int → Int → List (List (SIns)) → Option (Int)
 | 0, _, _, _, _, _, _, _, _, _, _, _ => none
 | k + 1, x7, x69, x70, x71, x75, x76, x77, x292000, x292001, x292002, x292003 => if x77 < x76 then (if 0 ≤ x77 then (if x77 < (x75.length : Int) then ((ir_one.f k x292000 x292001 x292002 x292003 ((rd_TIns x75 x77).f0) ((rd_TIns x75 x77).f1) ((rd_TIns x75 x77).f2) ((rd_TIns x75 x77).f3) ((rd_TIns x75 x77).f4) ((rd_TIns x75 x77).f5) (x77 == (wrap64 ((x7.length : Int) - 1)))).bind fun t297 => (if t297 = 0 then (ir_Check.l2 k x7 x69 x70 x71 x75 x76 (wrap64 (x77 + 1)) x292000 x292001 x292002 x292003) else (some t297))) else (none)) else (none)) else (ir_Check.l1 k x69 x70 (wrap64 (x71 + 1)) x292000 x292001 x292002 x292003)
end
def ir_Check.f (k : Nat) (a0_0 : ByteArray) (a0_1 : Int) (a0_2 : Int) (l0_3 : List (List (SIns))) : Option (Int) := (ir_Name.f a0_0).bind fun t292 => (if t292 = true then (if a0_1 < 0 then (ir_Check.j0 k true a0_0 a0_1 a0_2 l0_3) else (if a0_1 > 4 then (ir_Check.j0 k true a0_0 a0_1 a0_2 l0_3) else (if a0_2 < a0_1 then (ir_Check.j0 k true a0_0 a0_1 a0_2 l0_3) else (if a0_2 > 64 then (ir_Check.j0 k true a0_0 a0_1 a0_2 l0_3) else (if (l0_3.length : Int) < 1 then (ir_Check.j0 k true a0_0 a0_1 a0_2 l0_3) else (ir_Check.j0 k (decide ((l0_3.length : Int) > 32)) a0_0 a0_1 a0_2 l0_3)))))) else (some 70))
set_option maxHeartbeats 8000000 in
set_option maxRecDepth 100000 in
theorem ir_Check.calls (k : Nat) (a0_0 : ByteArray) (a0_1 : Int) (a0_2 : Int) (A0_3 : Option Addr) (c0_3 : Nat) (l0_3 : List (List (SIns))) (r : Int) (w : World) (hL : LaidW w) (hr0_3 : Kd.C (Kd.slice 38 kIns) w A0_3 l0_3.length l0_3) (hc0_3 : l0_3.length ≤ c0_3) (h : ir_Check.f k a0_0 a0_1 a0_2 l0_3 = some r) :
 Calls Tryd.prog 78 #[.agg #[.string a0_0, .int .i64 a0_1, .int .i64 a0_2, .slice A0_3 l0_3.length c0_3]] w fun e w' => e = .returned (.int .i64 r) ∧ Below w.heap.size w w' := by
 have hu24 := Tryd.underlying24
 have hu38 := Tryd.underlying38
 have HR0_3 := zA hr0_3
 have HC0_3 := zA hc0_3
 clear hr0_3 hc0_3
 have HB := zA (Below.refl w.heap.size w)
 have HLd := zA hL
 clear hL
 have H := h; clear h; unfold ir_Check.f at H
 replace H := qb H; obtain ⟨t292, A2, H⟩ := H
 by_cases c3 : t292 = true
 ·subst c3
  have H1 : (if a0_1 < 0 then (ir_Check.j0 k true a0_0 a0_1 a0_2 l0_3) else (if a0_1 > 4 then (ir_Check.j0 k true a0_0 a0_1 a0_2 l0_3) else (if a0_2 < a0_1 then (ir_Check.j0 k true a0_0 a0_1 a0_2 l0_3) else (if a0_2 > 64 then (ir_Check.j0 k true a0_0 a0_1 a0_2 l0_3) else (if (l0_3.length : Int) < 1 then (ir_Check.j0 k true a0_0 a0_1 a0_2 l0_3) else (ir_Check.j0 k (decide ((l0_3.length : Int) > 32)) a0_0 a0_1 a0_2 l0_3)))))) = some r := by rw [zC rfl] at H; exact H
  clear H
  have H := H1
  clear H1
  have HC4 := zA H
  clear H
  go_enter Tryd.func78, Tryd.ntmps78
  go_upto_region 3 with (first | ((with_reducible refine gate_dst (N := 1) rfl ?_); (try (refine gate_guard (by rfl) ?_; dsimp only)); refine box_event (by rfl) (N := 1) (by rfl) (cs := #[.string a0_0, .int .i64 a0_1, .int .i64 a0_2, .slice A0_3 l0_3.length c0_3]) (t := 24) ?hr ?_; (case hr => go_simp <;> rfl); intro gb291 hg w5 hbox hb; have BK291 := zA (hbox); have GW291 := qG hg; have GE291 := GW291; replace HB := qH hb; clear hb hbox hg; have z6_0 := bk4 BK291.out) | ((with_reducible refine gate_callee (f := 93) rfl ?_); refine goesL_ (some 13) rfl rfl Tryd.func93 (by kernel_rfl) rfl #[.string a0_0] rfl qL ?_; (with_reducible refine (ir_Name.calls a0_0 true _ A2.out).mono ?_); rintro e w7 ⟨rfl, hb⟩; refine ⟨_, rfl, ?_⟩; replace BK291 := qW BK291 hb; replace HB := qH hb; (try clear hb)))
  (try simp only [Act.put, List.setIfInBounds_toArray, List.set_cons_zero, List.set_cons_succ])
  go_cut [46] (fun v46 wc => ∃ (kq : Nat) (x46_3 : Bool), v46 = .bool x46_3 ∧ Aside0 (ir_Check.j0 kq x46_3 a0_0 a0_1 a0_2 l0_3 = some r) ∧ Aside0 (kq ≤ k) ∧ Aside0 (wc.heap[gb291]? = some (.cells #[.string a0_0, .int .i64 a0_1, .int .i64 a0_2, (.slice A0_3 l0_3.length c0_3)] 24 (0, 0))) ∧ Aside0 (Below w.heap.size w wc))
  case first =>
   have H := HC4.out
   clear HC4
   by_cases c8 : a0_1 < 0
   ·rw [zC c8] at H
    have c8b0 := zF c8
    clear c8
    (first | rw [c8b0] | (simp only [i64_w, i32_w]; rw [c8b0]) | skip)
    have H' := zA H
    clear H
    have z9_0 := bk4 BK291.out
    go_wp2
    go_meet
    case rel => exact ⟨_, (true), qT, H', ⟨qO⟩, ⟨qK BK291.out⟩, ⟨qB⟩⟩
   ·rw [zD c8] at H
    have c8b0 := zG c8
    clear c8
    (first | rw [c8b0] | (simp only [i64_w, i32_w]; rw [c8b0]) | skip)
    by_cases c10 : a0_1 > 4
    ·rw [zC c10] at H
     have c10b0 : decide (4 < a0_1) = true := zF c10
     clear c10
     have H' := zA H
     clear H
     have z11_0 := bk4 BK291.out
     go_wp2
     go_meet
     case rel => exact ⟨_, (true), qT, H', ⟨qO⟩, ⟨qK BK291.out⟩, ⟨qB⟩⟩
    ·rw [zD c10] at H
     have c10b0 : decide (4 < a0_1) = false := zG c10
     clear c10
     by_cases c12 : a0_2 < a0_1
     ·rw [zC c12] at H
      have c12b0 := zF c12
      clear c12
      have H' := zA H
      clear H
      have z13_0 := bk4 BK291.out
      go_wp2
      go_meet
      case rel => exact ⟨_, (true), qT, H', ⟨qO⟩, ⟨qK BK291.out⟩, ⟨qB⟩⟩
     ·rw [zD c12] at H
      have c12b0 := zG c12
      clear c12
      by_cases c14 : a0_2 > 64
      ·rw [zC c14] at H
       have c14b0 : decide (64 < a0_2) = true := zF c14
       clear c14
       have H' := zA H
       clear H
       have z15_0 := bk4 BK291.out
       go_wp2
       go_meet
       case rel => exact ⟨_, (true), qT, H', ⟨qO⟩, ⟨qK BK291.out⟩, ⟨qB⟩⟩
      ·rw [zD c14] at H
       have c14b0 : decide (64 < a0_2) = false := zG c14
       clear c14
       by_cases c16 : (l0_3.length : Int) < 1
       ·rw [zC c16] at H
        have c16b0 := zF c16
        have c16b1 : decide (l0_3.length < 1) = true := zF (by omega)
        clear c16
        have H' := zA H
        clear H
        have z17_0 := bk4 BK291.out
        go_wp2
        go_meet
        case rel => exact ⟨_, (true), qT, H', ⟨qO⟩, ⟨qK BK291.out⟩, ⟨qB⟩⟩
       ·rw [zD c16] at H
        have c16b0 := zG c16
        have c16b1 : decide (l0_3.length < 1) = false := zG (by omega)
        clear c16
        have H' := zA H
        clear H
        have z18_0 := bk4 BK291.out
        go_wp2
        go_meet
        case rel => exact ⟨_, (decide ((l0_3.length : Int) > 32)), qT, H', ⟨qO⟩, ⟨qK BK291.out⟩, ⟨qB⟩⟩
  case rest =>
   clear HC4
   obtain ⟨kq, x46_3, rfl, HA, HJ3, BK291, HB⟩ := hcut
   cases kq with
   | zero => exact absurd HA.out (by simp [ir_Check.j0])
   | succ kj3 =>
    have H := HA.out
    clear HA
    simp only [ir_Check.j0] at H
    by_cases c19 : x46_3 = true
    ·subst c19
     have H1 : (some 71) = some r := by rw [zC rfl] at H; exact H
     clear H
     have H := H1
     clear H1
     obtain rfl := zI H
     go_wp2
     go_ret
     exact ⟨qE, qB⟩
    ·replace c19 := Bool.eq_false_iff.mpr c19
     subst c19
     have H1 : (ir_Check.l0 kj3 200 l0_3 (l0_3.length : Int) 0 a0_0 a0_1 a0_2 l0_3) = some r := by rw [zD (show ¬ (false = true) by decide)] at H; exact H
     clear H
     have H := H1
     clear H1
     have H' := zA H
     clear H
     have z20_0 := bk4 BK291.out
     go_wp2
     go_loopg [3, 50] kj3 (fun kq v3 v50 w' => ∃ (x3_2 : Int) (x50_2 : Int), v3 = .int .i64 x3_2 ∧ v50 = .int .i64 x50_2 ∧ Aside0 (ir_Check.l0 kq x3_2 l0_3 (l0_3.length : Int) x50_2 a0_0 a0_1 a0_2 l0_3 = some r) ∧ Aside0 (kq ≤ kj3) ∧ Aside0 (w'.heap[gb291]? = some (.cells #[.string a0_0, .int .i64 a0_1, .int .i64 a0_2, (.slice A0_3 l0_3.length c0_3)] 24 (0, 0))) ∧ Aside0 (Below w.heap.size w w'))
     case atStart => exact ⟨(200), (0), qT, qT, H', ⟨Nat.le_refl _⟩, ⟨qK BK291.out⟩, ⟨qB⟩⟩
     case round =>
      clear H'
      obtain ⟨x3_2, x50_2, rfl, rfl, HA, HK2, BK291, HB⟩ := hrel
      cases gk with
      | zero => exact absurd HA.out (by simp [ir_Check.l0])
      | succ k2 =>
       have H := HA.out
       clear HA
       simp only [ir_Check.l0] at H
       by_cases c21 : x50_2 < (l0_3.length : Int)
       ·rw [zC c21] at H
        have c21b0 := zF c21
        clear c21
        by_cases c22 : 0 ≤ x50_2
        ·rw [zC c22] at H
         have c22b0 := zF c22
         clear c22
         by_cases c23 : x50_2 < (l0_3.length : Int)
         ·rw [zC c23] at H
          have c23b0 := zF c23
          clear c23
          by_cases c24 : ((rd_LIns l0_3 x50_2).length : Int) = 0
          ·rw [zC c24] at H
           obtain ⟨c24b0, c24b1⟩ := qe c24; clear c24
           obtain rfl := zI H
           have p293 : 0 ≤ (x50_2 : Int) := zB qA
           have q293 : x50_2 < (l0_3.length : Int) := zB qA
           obtain ⟨ad293, A293_0, c293_0, e293, hx293_0, hl293_0, hi293_0⟩ := at_LIns HR0_3.out x50_2 p293 q293
           cases e293
           replace hx293_0 := (HB.out.cell (zE w _ hx293_0)).trans hx293_0
           have HR293_0 := zA hi293_0
           have HC293_0 := zA hl293_0
           clear hi293_0 hl293_0
           replace p293 := eq_true p293
           replace q293 := eq_true q293
           go_wp2
           go_ret
           exact ⟨qE, qB⟩
          ·rw [zD c24] at H
           obtain ⟨c24b0, c24b1⟩ := qn c24
           have c24b2 : ¬ ((rd_LIns l0_3 x50_2) = []) := fun h_ => c24 (by rw [h_]; rfl)
           by_cases c25 : ((rd_LIns l0_3 x50_2).length : Int) > x3_2
           ·rw [zC c25] at H
            have c25b0 : decide (x3_2 < ((rd_LIns l0_3 x50_2).length : Int)) = true := zF c25
            clear c25
            obtain rfl := zI H
            have p293 : 0 ≤ (x50_2 : Int) := zB qA
            have q293 : x50_2 < (l0_3.length : Int) := zB qA
            obtain ⟨ad293, A293_0, c293_0, e293, hx293_0, hl293_0, hi293_0⟩ := at_LIns HR0_3.out x50_2 p293 q293
            cases e293
            replace hx293_0 := (HB.out.cell (zE w _ hx293_0)).trans hx293_0
            have HR293_0 := zA hi293_0
            have HC293_0 := zA hl293_0
            clear hi293_0 hl293_0
            replace p293 := eq_true p293
            replace q293 := eq_true q293
            go_wp2
            go_ret
            exact ⟨qE, qB⟩
           ·rw [zD c25] at H
            have c25b0 : decide (x3_2 < ((rd_LIns l0_3 x50_2).length : Int)) = false := zG c25
            clear c25
            have H' := zA H
            clear H
            have p293 : 0 ≤ (x50_2 : Int) := zB qA
            have q293 : x50_2 < (l0_3.length : Int) := zB qA
            obtain ⟨ad293, A293_0, c293_0, e293, hx293_0, hl293_0, hi293_0⟩ := at_LIns HR0_3.out x50_2 p293 q293
            cases e293
            replace hx293_0 := (HB.out.cell (zE w _ hx293_0)).trans hx293_0
            have HR293_0 := zA hi293_0
            have HC293_0 := zA hl293_0
            clear hi293_0 hl293_0
            replace p293 := eq_true p293
            replace q293 := eq_true q293
            go_wp2
            go_roundg k2
            case measure => have := HJ3.out; have := HK2.out; omega
            case rel => exact ⟨(wrap64 (x3_2 - ((rd_LIns l0_3 x50_2).length : Int))), (wrap64 (x50_2 + 1)), qT, qT, H', ⟨by have := HJ3.out; have := HK2.out; omega⟩, ⟨qK BK291.out⟩, ⟨qB⟩⟩
         ·rw [zD c23] at H
          exact absurd H (by simp)
        ·rw [zD c22] at H
         exact absurd H (by simp)
       ·rw [zD c21] at H
        have c21b0 := zG c21
        clear c21
        have H' := zA H
        clear H
        have z26_0 := bk4 BK291.out
        go_wp2
        go_loopg [71] k2 (fun kq v71 w' => ∃ (x71_3 : Int), v71 = .int .i64 x71_3 ∧ Aside0 (ir_Check.l1 kq l0_3 (l0_3.length : Int) x71_3 a0_0 a0_1 a0_2 l0_3 = some r) ∧ Aside0 (kq ≤ k2) ∧ Aside0 (w'.heap[gb291]? = some (.cells #[.string a0_0, .int .i64 a0_1, .int .i64 a0_2, (.slice A0_3 l0_3.length c0_3)] 24 (0, 0))) ∧ Aside0 (Below w.heap.size w w'))
        case atStart => exact ⟨(0), qT, H', ⟨Nat.le_refl _⟩, ⟨qK BK291.out⟩, ⟨qB⟩⟩
        case round =>
         clear H'
         obtain ⟨x71_3, rfl, HA, HK3, BK291, HB⟩ := hrel
         cases gk with
         | zero => exact absurd HA.out (by simp [ir_Check.l1])
         | succ k3 =>
          have H := HA.out
          clear HA
          simp only [ir_Check.l1] at H
          by_cases c27 : x71_3 < (l0_3.length : Int)
          ·rw [zC c27] at H
           have c27b0 := zF c27
           clear c27
           by_cases c28 : 0 ≤ x71_3
           ·rw [zC c28] at H
            have c28b0 := zF c28
            clear c28
            by_cases c29 : x71_3 < (l0_3.length : Int)
            ·rw [zC c29] at H
             have c29b0 := zF c29
             clear c29
             have H' := zA H
             clear H
             have p294 : 0 ≤ (x71_3 : Int) := zB qA
             have q294 : x71_3 < (l0_3.length : Int) := zB qA
             obtain ⟨ad294, A294_0, c294_0, e294, hx294_0, hl294_0, hi294_0⟩ := at_LIns HR0_3.out x71_3 p294 q294
             cases e294
             replace hx294_0 := (HB.out.cell (zE w _ hx294_0)).trans hx294_0
             have HR294_0 := zA hi294_0
             have HC294_0 := zA hl294_0
             clear hi294_0 hl294_0
             replace p294 := eq_true p294
             replace q294 := eq_true q294
             go_wp2
             go_loopg [77] k3 (fun kq v77 w' => ∃ (x77_4 : Int), v77 = .int .i64 x77_4 ∧ Aside0 (ir_Check.l2 kq (rd_LIns l0_3 x71_3) l0_3 (l0_3.length : Int) x71_3 (rd_LIns l0_3 x71_3) ((rd_LIns l0_3 x71_3).length : Int) x77_4 a0_0 a0_1 a0_2 l0_3 = some r) ∧ Aside0 (kq ≤ k3) ∧ Aside0 (w'.heap[gb291]? = some (.cells #[.string a0_0, .int .i64 a0_1, .int .i64 a0_2, (.slice (some ad294) l0_3.length c0_3)] 24 (0, 0))) ∧ Aside0 (Below w.heap.size w w'))
             case atStart => exact ⟨(0), qT, H', ⟨Nat.le_refl _⟩, ⟨qK BK291.out⟩, ⟨qB⟩⟩
             case round =>
              clear H'
              obtain ⟨x77_4, rfl, HA, HK4, BK291, HB⟩ := hrel
              cases gk with
              | zero => exact absurd HA.out (by simp [ir_Check.l2])
              | succ k4 =>
               have H := HA.out
               clear HA
               simp only [ir_Check.l2] at H
               by_cases c30 : x77_4 < ((rd_LIns l0_3 x71_3).length : Int)
               ·rw [zC c30] at H
                have c30b0 := zF c30
                clear c30
                by_cases c31 : 0 ≤ x77_4
                ·rw [zC c31] at H
                 have c31b0 := zF c31
                 clear c31
                 by_cases c32 : x77_4 < ((rd_LIns l0_3 x71_3).length : Int)
                 ·rw [zC c32] at H
                  have c32b0 := zF c32
                  clear c32
                  replace H := qb H; obtain ⟨t297, A33, H⟩ := H
                  by_cases c34 : t297 = 0
                  ·rw [zC c34] at H
                   obtain ⟨c34b0, c34b1⟩ := qe c34; clear c34
                   have H' := zA H
                   clear H
                   have p295 : 0 ≤ (x77_4 : Int) := zB qA
                   have q295 : x77_4 < ((rd_LIns l0_3 x71_3).length : Int) := zB qA
                   obtain ⟨ad295, A295_5, c295_5, e295, hx295_0, hx295_1, hx295_2, hx295_3, hx295_4, hx295_5, hl295_5, hi295_5⟩ := at_TIns HR294_0.out x77_4 p295 q295
                   cases e295
                   replace hx295_0 := (HB.out.cell (zE w _ hx295_0)).trans hx295_0
                   replace hx295_1 := (HB.out.cell (zE w _ hx295_1)).trans hx295_1
                   replace hx295_2 := (HB.out.cell (zE w _ hx295_2)).trans hx295_2
                   replace hx295_3 := (HB.out.cell (zE w _ hx295_3)).trans hx295_3
                   replace hx295_4 := (HB.out.cell (zE w _ hx295_4)).trans hx295_4
                   replace hx295_5 := (HB.out.cell (zE w _ hx295_5)).trans hx295_5
                   have HR295_5 := zA hi295_5
                   have HC295_5 := zA hl295_5
                   clear hi295_5 hl295_5
                   replace p295 := eq_true p295
                   replace q295 := eq_true q295
                   go_wp2_with (first | ((with_reducible refine gate_dst (N := 9) rfl ?_); (try (refine gate_guard (by rfl) ?_; dsimp only)); refine box_event (by rfl) (N := 9) (by rfl) (cs := #[.int .i64 0, .int .i64 0, .int .i64 0, .int .i64 0, .string (⟨#[]⟩ : ByteArray), .slice none 0 0]) (t := 38) ?hr ?_; (case hr => go_simp <;> rfl); intro gb296 hg w35 hbox hb; have BK296 := zA (hbox); have GW296 := qG hg; have GE296 := GW296; replace HB := qH hb; have NB291_296 := zA ((by rw [hg]; exact Nat.ne_of_lt (blk_lt (g := gb291) (o := .cells #[.string a0_0, .int .i64 a0_1, .int .i64 a0_2, .slice (some ad294) l0_3.length c0_3] 24 (0, 0)) (qK BK291.out)) : gb291 ≠ gb296)); have NB296_291 := zA ((by rw [hg]; exact Nat.ne_of_gt (blk_lt (g := gb291) (o := .cells #[.string a0_0, .int .i64 a0_1, .int .i64 a0_2, .slice (some ad294) l0_3.length c0_3] 24 (0, 0)) (qK BK291.out)) : gb296 ≠ gb291)); replace BK291 := qW BK291 hb; clear hb hbox hg; have hnb36 := NB296_291.out; have hnc36 := NB291_296.out; have z37_0 := bk6 BK296.out; have z38_0 := bk4 BK291.out) | ((with_reducible refine gate_callee (f := 118) rfl ?_); refine goesL_ (some 89) rfl rfl Tryd.func118 (by kernel_rfl) rfl #[.agg #[.string a0_0, .int .i64 a0_1, .int .i64 a0_2, .slice (some ad294) l0_3.length c0_3], .agg #[.int .i64 ((rd_TIns (rd_LIns l0_3 x71_3) x77_4).f0), .int .i64 ((rd_TIns (rd_LIns l0_3 x71_3) x77_4).f1), .int .i64 ((rd_TIns (rd_LIns l0_3 x71_3) x77_4).f2), .int .i64 ((rd_TIns (rd_LIns l0_3 x71_3) x77_4).f3), .string ((rd_TIns (rd_LIns l0_3 x71_3) x77_4).f4), .slice A295_5 ((rd_TIns (rd_LIns l0_3 x71_3) x77_4).f5).length c295_5], .bool (x77_4 == (wrap64 (((rd_LIns l0_3 x71_3).length : Int) - 1)))] rfl qL ?_; (with_reducible refine (ir_one.calls k4 a0_0 a0_1 a0_2 _ _ l0_3 ((rd_TIns (rd_LIns l0_3 x71_3) x77_4).f0) ((rd_TIns (rd_LIns l0_3 x71_3) x77_4).f1) ((rd_TIns (rd_LIns l0_3 x71_3) x77_4).f2) ((rd_TIns (rd_LIns l0_3 x71_3) x77_4).f3) ((rd_TIns (rd_LIns l0_3 x71_3) x77_4).f4) _ _ ((rd_TIns (rd_LIns l0_3 x71_3) x77_4).f5) (x77_4 == (wrap64 (((rd_LIns l0_3 x71_3).length : Int) - 1))) t297 _ ?side1 ?side2 ?side3 ?side4 A33.out (hL := ?side99)).mono ?_); (case side1 => exact Kd.C_below HR0_3.out qB); (case side2 => exact HC0_3.out); (case side3 => exact Kd.C_below HR295_5.out qB); (case side4 => exact HC295_5.out); (case side99 => exact LaidW.below HLd.out qB); rintro e w39 ⟨rfl, hb⟩; refine ⟨_, rfl, ?_⟩; replace BK291 := zA (blk_below (g := gb291) (o := .cells #[.string a0_0, .int .i64 a0_1, .int .i64 a0_2, .slice (some ad294) l0_3.length c0_3] 24 (0, 0)) (by (with_reducible repeat (first | refine blk_drewN ?_ _ | refine blk_drew ?_ | refine blk_alloc ?_ _)); refine blk_far ?_ NB291_296.out _; (with_reducible repeat (first | refine blk_drewN ?_ _ | refine blk_drew ?_ | refine blk_alloc ?_ _)); refine blk_far ?_ NB291_296.out _; (with_reducible repeat (first | refine blk_drewN ?_ _ | refine blk_drew ?_ | refine blk_alloc ?_ _)); refine blk_far ?_ NB291_296.out _; (with_reducible repeat (first | refine blk_drewN ?_ _ | refine blk_drew ?_ | refine blk_alloc ?_ _)); refine blk_far ?_ NB291_296.out _; (with_reducible repeat (first | refine blk_drewN ?_ _ | refine blk_drew ?_ | refine blk_alloc ?_ _)); refine blk_far ?_ NB291_296.out _; (with_reducible repeat (first | refine blk_drewN ?_ _ | refine blk_drew ?_ | refine blk_alloc ?_ _)); refine blk_far ?_ NB291_296.out _; (with_reducible repeat (first | refine blk_drewN ?_ _ | refine blk_drew ?_ | refine blk_alloc ?_ _)); exact BK291.out) hb); replace BK296 := zA (blk_below (g := gb296) (o := .cells #[.int .i64 ((rd_TIns (rd_LIns l0_3 x71_3) x77_4).f0), .int .i64 ((rd_TIns (rd_LIns l0_3 x71_3) x77_4).f1), .int .i64 ((rd_TIns (rd_LIns l0_3 x71_3) x77_4).f2), .int .i64 ((rd_TIns (rd_LIns l0_3 x71_3) x77_4).f3), .string ((rd_TIns (rd_LIns l0_3 x71_3) x77_4).f4), .slice A295_5 ((rd_TIns (rd_LIns l0_3 x71_3) x77_4).f5).length c295_5] 38 (0, 0)) (by (with_reducible repeat (first | refine blk_drewN ?_ _ | refine blk_drew ?_ | refine blk_alloc ?_ _)); refine blk_put (cs := #[.int .i64 ((rd_TIns (rd_LIns l0_3 x71_3) x77_4).f0), .int .i64 ((rd_TIns (rd_LIns l0_3 x71_3) x77_4).f1), .int .i64 ((rd_TIns (rd_LIns l0_3 x71_3) x77_4).f2), .int .i64 ((rd_TIns (rd_LIns l0_3 x71_3) x77_4).f3), .string ((rd_TIns (rd_LIns l0_3 x71_3) x77_4).f4), .slice none 0 0]) ?_ 5 _ rfl; (with_reducible repeat (first | refine blk_drewN ?_ _ | refine blk_drew ?_ | refine blk_alloc ?_ _)); refine blk_put (cs := #[.int .i64 ((rd_TIns (rd_LIns l0_3 x71_3) x77_4).f0), .int .i64 ((rd_TIns (rd_LIns l0_3 x71_3) x77_4).f1), .int .i64 ((rd_TIns (rd_LIns l0_3 x71_3) x77_4).f2), .int .i64 ((rd_TIns (rd_LIns l0_3 x71_3) x77_4).f3), .string (⟨#[]⟩ : ByteArray), .slice none 0 0]) ?_ 4 _ rfl; (with_reducible repeat (first | refine blk_drewN ?_ _ | refine blk_drew ?_ | refine blk_alloc ?_ _)); refine blk_put (cs := #[.int .i64 ((rd_TIns (rd_LIns l0_3 x71_3) x77_4).f0), .int .i64 ((rd_TIns (rd_LIns l0_3 x71_3) x77_4).f1), .int .i64 ((rd_TIns (rd_LIns l0_3 x71_3) x77_4).f2), .int .i64 0, .string (⟨#[]⟩ : ByteArray), .slice none 0 0]) ?_ 3 _ rfl; (with_reducible repeat (first | refine blk_drewN ?_ _ | refine blk_drew ?_ | refine blk_alloc ?_ _)); refine blk_put (cs := #[.int .i64 ((rd_TIns (rd_LIns l0_3 x71_3) x77_4).f0), .int .i64 ((rd_TIns (rd_LIns l0_3 x71_3) x77_4).f1), .int .i64 0, .int .i64 0, .string (⟨#[]⟩ : ByteArray), .slice none 0 0]) ?_ 2 _ rfl; (with_reducible repeat (first | refine blk_drewN ?_ _ | refine blk_drew ?_ | refine blk_alloc ?_ _)); refine blk_put (cs := #[.int .i64 ((rd_TIns (rd_LIns l0_3 x71_3) x77_4).f0), .int .i64 0, .int .i64 0, .int .i64 0, .string (⟨#[]⟩ : ByteArray), .slice none 0 0]) ?_ 1 _ rfl; (with_reducible repeat (first | refine blk_drewN ?_ _ | refine blk_drew ?_ | refine blk_alloc ?_ _)); refine blk_put (cs := #[.int .i64 0, .int .i64 0, .int .i64 0, .int .i64 0, .string (⟨#[]⟩ : ByteArray), .slice none 0 0]) ?_ 0 _ rfl; (with_reducible repeat (first | refine blk_drewN ?_ _ | refine blk_drew ?_ | refine blk_alloc ?_ _)); exact BK296.out) hb); replace HB := qH hb))
                   go_roundg k4
                   case measure => have := HJ3.out; have := HK2.out; have := HK3.out; have := HK4.out; omega
                   case rel => exact ⟨(wrap64 (x77_4 + 1)), qT, H', ⟨by have := HJ3.out; have := HK2.out; have := HK3.out; have := HK4.out; omega⟩, ⟨qK BK291.out⟩, ⟨qB⟩⟩
                  ·rw [zD c34] at H
                   obtain ⟨c34b0, c34b1⟩ := qn c34
                   obtain rfl := zI H
                   have p295 : 0 ≤ (x77_4 : Int) := zB qA
                   have q295 : x77_4 < ((rd_LIns l0_3 x71_3).length : Int) := zB qA
                   obtain ⟨ad295, A295_5, c295_5, e295, hx295_0, hx295_1, hx295_2, hx295_3, hx295_4, hx295_5, hl295_5, hi295_5⟩ := at_TIns HR294_0.out x77_4 p295 q295
                   cases e295
                   replace hx295_0 := (HB.out.cell (zE w _ hx295_0)).trans hx295_0
                   replace hx295_1 := (HB.out.cell (zE w _ hx295_1)).trans hx295_1
                   replace hx295_2 := (HB.out.cell (zE w _ hx295_2)).trans hx295_2
                   replace hx295_3 := (HB.out.cell (zE w _ hx295_3)).trans hx295_3
                   replace hx295_4 := (HB.out.cell (zE w _ hx295_4)).trans hx295_4
                   replace hx295_5 := (HB.out.cell (zE w _ hx295_5)).trans hx295_5
                   have HR295_5 := zA hi295_5
                   have HC295_5 := zA hl295_5
                   clear hi295_5 hl295_5
                   replace p295 := eq_true p295
                   replace q295 := eq_true q295
                   go_wp2_with (first | ((with_reducible refine gate_dst (N := 9) rfl ?_); (try (refine gate_guard (by rfl) ?_; dsimp only)); refine box_event (by rfl) (N := 9) (by rfl) (cs := #[.int .i64 0, .int .i64 0, .int .i64 0, .int .i64 0, .string (⟨#[]⟩ : ByteArray), .slice none 0 0]) (t := 38) ?hr ?_; (case hr => go_simp <;> rfl); intro gb296 hg w40 hbox hb; have BK296 := zA (hbox); have GW296 := qG hg; have GE296 := GW296; replace HB := qH hb; have NB291_296 := zA ((by rw [hg]; exact Nat.ne_of_lt (blk_lt (g := gb291) (o := .cells #[.string a0_0, .int .i64 a0_1, .int .i64 a0_2, .slice (some ad294) l0_3.length c0_3] 24 (0, 0)) (qK BK291.out)) : gb291 ≠ gb296)); have NB296_291 := zA ((by rw [hg]; exact Nat.ne_of_gt (blk_lt (g := gb291) (o := .cells #[.string a0_0, .int .i64 a0_1, .int .i64 a0_2, .slice (some ad294) l0_3.length c0_3] 24 (0, 0)) (qK BK291.out)) : gb296 ≠ gb291)); replace BK291 := qW BK291 hb; clear hb hbox hg; have hnb41 := NB296_291.out; have hnc41 := NB291_296.out; have z42_0 := bk6 BK296.out; have z43_0 := bk4 BK291.out) | ((with_reducible refine gate_callee (f := 118) rfl ?_); refine goesL_ (some 89) rfl rfl Tryd.func118 (by kernel_rfl) rfl #[.agg #[.string a0_0, .int .i64 a0_1, .int .i64 a0_2, .slice (some ad294) l0_3.length c0_3], .agg #[.int .i64 ((rd_TIns (rd_LIns l0_3 x71_3) x77_4).f0), .int .i64 ((rd_TIns (rd_LIns l0_3 x71_3) x77_4).f1), .int .i64 ((rd_TIns (rd_LIns l0_3 x71_3) x77_4).f2), .int .i64 ((rd_TIns (rd_LIns l0_3 x71_3) x77_4).f3), .string ((rd_TIns (rd_LIns l0_3 x71_3) x77_4).f4), .slice A295_5 ((rd_TIns (rd_LIns l0_3 x71_3) x77_4).f5).length c295_5], .bool (x77_4 == (wrap64 (((rd_LIns l0_3 x71_3).length : Int) - 1)))] rfl qL ?_; (with_reducible refine (ir_one.calls k4 a0_0 a0_1 a0_2 _ _ l0_3 ((rd_TIns (rd_LIns l0_3 x71_3) x77_4).f0) ((rd_TIns (rd_LIns l0_3 x71_3) x77_4).f1) ((rd_TIns (rd_LIns l0_3 x71_3) x77_4).f2) ((rd_TIns (rd_LIns l0_3 x71_3) x77_4).f3) ((rd_TIns (rd_LIns l0_3 x71_3) x77_4).f4) _ _ ((rd_TIns (rd_LIns l0_3 x71_3) x77_4).f5) (x77_4 == (wrap64 (((rd_LIns l0_3 x71_3).length : Int) - 1))) t297 _ ?side1 ?side2 ?side3 ?side4 A33.out (hL := ?side99)).mono ?_); (case side1 => exact Kd.C_below HR0_3.out qB); (case side2 => exact HC0_3.out); (case side3 => exact Kd.C_below HR295_5.out qB); (case side4 => exact HC295_5.out); (case side99 => exact LaidW.below HLd.out qB); rintro e w44 ⟨rfl, hb⟩; refine ⟨_, rfl, ?_⟩; replace BK291 := zA (blk_below (g := gb291) (o := .cells #[.string a0_0, .int .i64 a0_1, .int .i64 a0_2, .slice (some ad294) l0_3.length c0_3] 24 (0, 0)) (by (with_reducible repeat (first | refine blk_drewN ?_ _ | refine blk_drew ?_ | refine blk_alloc ?_ _)); refine blk_far ?_ NB291_296.out _; (with_reducible repeat (first | refine blk_drewN ?_ _ | refine blk_drew ?_ | refine blk_alloc ?_ _)); refine blk_far ?_ NB291_296.out _; (with_reducible repeat (first | refine blk_drewN ?_ _ | refine blk_drew ?_ | refine blk_alloc ?_ _)); refine blk_far ?_ NB291_296.out _; (with_reducible repeat (first | refine blk_drewN ?_ _ | refine blk_drew ?_ | refine blk_alloc ?_ _)); refine blk_far ?_ NB291_296.out _; (with_reducible repeat (first | refine blk_drewN ?_ _ | refine blk_drew ?_ | refine blk_alloc ?_ _)); refine blk_far ?_ NB291_296.out _; (with_reducible repeat (first | refine blk_drewN ?_ _ | refine blk_drew ?_ | refine blk_alloc ?_ _)); refine blk_far ?_ NB291_296.out _; (with_reducible repeat (first | refine blk_drewN ?_ _ | refine blk_drew ?_ | refine blk_alloc ?_ _)); exact BK291.out) hb); replace BK296 := zA (blk_below (g := gb296) (o := .cells #[.int .i64 ((rd_TIns (rd_LIns l0_3 x71_3) x77_4).f0), .int .i64 ((rd_TIns (rd_LIns l0_3 x71_3) x77_4).f1), .int .i64 ((rd_TIns (rd_LIns l0_3 x71_3) x77_4).f2), .int .i64 ((rd_TIns (rd_LIns l0_3 x71_3) x77_4).f3), .string ((rd_TIns (rd_LIns l0_3 x71_3) x77_4).f4), .slice A295_5 ((rd_TIns (rd_LIns l0_3 x71_3) x77_4).f5).length c295_5] 38 (0, 0)) (by (with_reducible repeat (first | refine blk_drewN ?_ _ | refine blk_drew ?_ | refine blk_alloc ?_ _)); refine blk_put (cs := #[.int .i64 ((rd_TIns (rd_LIns l0_3 x71_3) x77_4).f0), .int .i64 ((rd_TIns (rd_LIns l0_3 x71_3) x77_4).f1), .int .i64 ((rd_TIns (rd_LIns l0_3 x71_3) x77_4).f2), .int .i64 ((rd_TIns (rd_LIns l0_3 x71_3) x77_4).f3), .string ((rd_TIns (rd_LIns l0_3 x71_3) x77_4).f4), .slice none 0 0]) ?_ 5 _ rfl; (with_reducible repeat (first | refine blk_drewN ?_ _ | refine blk_drew ?_ | refine blk_alloc ?_ _)); refine blk_put (cs := #[.int .i64 ((rd_TIns (rd_LIns l0_3 x71_3) x77_4).f0), .int .i64 ((rd_TIns (rd_LIns l0_3 x71_3) x77_4).f1), .int .i64 ((rd_TIns (rd_LIns l0_3 x71_3) x77_4).f2), .int .i64 ((rd_TIns (rd_LIns l0_3 x71_3) x77_4).f3), .string (⟨#[]⟩ : ByteArray), .slice none 0 0]) ?_ 4 _ rfl; (with_reducible repeat (first | refine blk_drewN ?_ _ | refine blk_drew ?_ | refine blk_alloc ?_ _)); refine blk_put (cs := #[.int .i64 ((rd_TIns (rd_LIns l0_3 x71_3) x77_4).f0), .int .i64 ((rd_TIns (rd_LIns l0_3 x71_3) x77_4).f1), .int .i64 ((rd_TIns (rd_LIns l0_3 x71_3) x77_4).f2), .int .i64 0, .string (⟨#[]⟩ : ByteArray), .slice none 0 0]) ?_ 3 _ rfl; (with_reducible repeat (first | refine blk_drewN ?_ _ | refine blk_drew ?_ | refine blk_alloc ?_ _)); refine blk_put (cs := #[.int .i64 ((rd_TIns (rd_LIns l0_3 x71_3) x77_4).f0), .int .i64 ((rd_TIns (rd_LIns l0_3 x71_3) x77_4).f1), .int .i64 0, .int .i64 0, .string (⟨#[]⟩ : ByteArray), .slice none 0 0]) ?_ 2 _ rfl; (with_reducible repeat (first | refine blk_drewN ?_ _ | refine blk_drew ?_ | refine blk_alloc ?_ _)); refine blk_put (cs := #[.int .i64 ((rd_TIns (rd_LIns l0_3 x71_3) x77_4).f0), .int .i64 0, .int .i64 0, .int .i64 0, .string (⟨#[]⟩ : ByteArray), .slice none 0 0]) ?_ 1 _ rfl; (with_reducible repeat (first | refine blk_drewN ?_ _ | refine blk_drew ?_ | refine blk_alloc ?_ _)); refine blk_put (cs := #[.int .i64 0, .int .i64 0, .int .i64 0, .int .i64 0, .string (⟨#[]⟩ : ByteArray), .slice none 0 0]) ?_ 0 _ rfl; (with_reducible repeat (first | refine blk_drewN ?_ _ | refine blk_drew ?_ | refine blk_alloc ?_ _)); exact BK296.out) hb); replace HB := qH hb))
                   go_ret
                   exact ⟨qE, qB⟩
                 ·rw [zD c32] at H
                  exact absurd H (by simp)
                ·rw [zD c31] at H
                 exact absurd H (by simp)
               ·rw [zD c30] at H
                have c30b0 := zG c30
                clear c30
                have H' := zA H
                clear H
                go_wp2
                go_roundg k4
                case measure => have := HJ3.out; have := HK2.out; have := HK3.out; have := HK4.out; omega
                case rel => exact ⟨(wrap64 (x71_3 + 1)), qT, H', ⟨by have := HJ3.out; have := HK2.out; have := HK3.out; have := HK4.out; omega⟩, ⟨qK BK291.out⟩, ⟨qB⟩⟩
            ·rw [zD c29] at H
             exact absurd H (by simp)
           ·rw [zD c28] at H
            exact absurd H (by simp)
          ·rw [zD c27] at H
           have c27b0 := zG c27
           clear c27
           obtain rfl := zI H
           go_wp2
           go_ret
           exact ⟨qE, qB⟩
 ·replace c3 := Bool.eq_false_iff.mpr c3
  subst c3
  have H1 : (some 70) = some r := by rw [zD (show ¬ (false = true) by decide)] at H; exact H
  clear H
  have H := H1
  clear H1
  obtain rfl := zI H
  go_enter Tryd.func78, Tryd.ntmps78
  go_wp2_with (first | ((with_reducible refine gate_dst (N := 1) rfl ?_); (try (refine gate_guard (by rfl) ?_; dsimp only)); refine box_event (by rfl) (N := 1) (by rfl) (cs := #[.string a0_0, .int .i64 a0_1, .int .i64 a0_2, .slice A0_3 l0_3.length c0_3]) (t := 24) ?hr ?_; (case hr => go_simp <;> rfl); intro gb291 hg w45 hbox hb; have BK291 := zA (hbox); have GW291 := qG hg; have GE291 := GW291; replace HB := qH hb; clear hb hbox hg; have z46_0 := bk4 BK291.out) | ((with_reducible refine gate_callee (f := 93) rfl ?_); refine goesL_ (some 13) rfl rfl Tryd.func93 (by kernel_rfl) rfl #[.string a0_0] rfl qL ?_; (with_reducible refine (ir_Name.calls a0_0 false _ A2.out).mono ?_); rintro e w47 ⟨rfl, hb⟩; refine ⟨_, rfl, ?_⟩; replace BK291 := qW BK291 hb; replace HB := qH hb; (try clear hb)))
  go_ret
  exact ⟨qE, qB⟩

def ir_Def.f (a0_0 : Int) (a0_1 : Int) (a0_2 : Int) (a0_3 : Int) (a0_4 : ByteArray) (l0_5 : List Int) : Option (Int) := (ir_shape.f a0_0).bind fun t326 => (if t326.toList = ([] : List UInt8) then (some (-1)) else (if 0 < (t326.size : Int) then (if (bt t326 0) = 114 then (some a0_1) else (some (-1))) else (none)))
set_option maxHeartbeats 8000000 in
set_option maxRecDepth 100000 in
theorem ir_Def.calls (a0_0 : Int) (a0_1 : Int) (a0_2 : Int) (a0_3 : Int) (a0_4 : ByteArray) (A0_5 : Option Addr) (c0_5 : Nat) (l0_5 : List Int) (r : Int) (w : World) (hL : LaidW w) (hr0_5 : Kd.C (Kd.int .i64) w A0_5 l0_5.length l0_5) (hc0_5 : l0_5.length ≤ c0_5) (h : ir_Def.f a0_0 a0_1 a0_2 a0_3 a0_4 l0_5 = some r) :
 Calls Tryd.prog 46 #[.agg #[.int .i64 a0_0, .int .i64 a0_1, .int .i64 a0_2, .int .i64 a0_3, .string a0_4, .slice A0_5 l0_5.length c0_5]] w fun e w' => e = .returned (.int .i64 r) ∧ Below w.heap.size w w' := by
 have hu38 := Tryd.underlying38
 have HR0_5 := zA hr0_5
 have HC0_5 := zA hc0_5
 clear hr0_5 hc0_5
 have HB := zA (Below.refl w.heap.size w)
 have HLd := zA hL
 clear hL
 have H := h; clear h; unfold ir_Def.f at H
 replace H := qb H; obtain ⟨t326, A2, H⟩ := H
 by_cases c3 : t326.toList = ([] : List UInt8)
 ·rw [zC c3] at H
  obtain ⟨c3b0, c3b1⟩ := qe c3; clear c3
  obtain rfl := zI H
  go_enter Tryd.func46, Tryd.ntmps46
  go_wp2_with (first | ((with_reducible refine gate_dst (N := 1) rfl ?_); refine box_event (by rfl) (N := 1) (by rfl) (cs := #[.int .i64 a0_0, .int .i64 a0_1, .int .i64 a0_2, .int .i64 a0_3, .string a0_4, .slice A0_5 l0_5.length c0_5]) (t := 38) ?hr ?_; (case hr => go_simp <;> rfl); intro gb325 hg w4 hbox hb; have BK325 := zA (hbox); have GW325 := qG hg; have GE325 := GW325; replace HB := qH hb; clear hb hbox hg; have z5_0 := bk6 BK325.out) | ((with_reducible refine gate_callee (f := 85) rfl ?_); refine goesL_ (some 6) rfl rfl Tryd.func85 (by kernel_rfl) rfl #[.int .i64 a0_0] rfl qL ?_; (with_reducible refine (ir_shape.calls a0_0 t326 _ A2.out (hL := ?side99)).mono ?_); (case side99 => exact LaidW.below HLd.out qB); rintro e w' ⟨rfl, ⟨nd, rfl⟩⟩; refine ⟨_, rfl, ?_⟩))
  go_ret
  exact ⟨qE, qB⟩
 ·rw [zD c3] at H
  obtain ⟨c3b0, c3b1⟩ := qn c3
  by_cases c6 : 0 < (t326.size : Int)
  ·rw [zC c6] at H
   have c6b0 := zF c6
   have c6b1 : decide (0 < t326.size) = true := zF (by omega)
   clear c6
   by_cases c8 : (bt t326 0) = 114
   ·rw [zC c8] at H
    obtain ⟨c8b0, c8b1⟩ := qe c8; clear c8
    obtain rfl := zI H
    go_enter Tryd.func46, Tryd.ntmps46
    go_wp2_with (first | ((with_reducible refine gate_dst (N := 1) rfl ?_); refine box_event (by rfl) (N := 1) (by rfl) (cs := #[.int .i64 a0_0, .int .i64 a0_1, .int .i64 a0_2, .int .i64 a0_3, .string a0_4, .slice A0_5 l0_5.length c0_5]) (t := 38) ?hr ?_; (case hr => go_simp <;> rfl); intro gb325 hg w9 hbox hb; have BK325 := zA (hbox); have GW325 := qG hg; have GE325 := GW325; replace HB := qH hb; clear hb hbox hg; have z10_0 := bk6 BK325.out) | ((with_reducible refine gate_callee (f := 85) rfl ?_); refine goesL_ (some 6) rfl rfl Tryd.func85 (by kernel_rfl) rfl #[.int .i64 a0_0] rfl qL ?_; (with_reducible refine (ir_shape.calls a0_0 t326 _ A2.out (hL := ?side99)).mono ?_); (case side99 => exact LaidW.below HLd.out qB); rintro e w' ⟨rfl, ⟨nd, rfl⟩⟩; refine ⟨_, rfl, ?_⟩; have p7 : 0 ≤ (0 : Int) := (by omega); have q7 : 0 < t326.size := (by have : (0 : Int) < (t326.size : Int) := zB qA; omega); have hx7 : ∀ h : 0 < t326.size, ((t326[0]'h).toNat : Int) = bt t326 0 := bt_at t326 0; clear p7; have qi7 : (0 < (t326.size : Int)) = True := eq_true (zB qA); replace q7 := eq_true q7))
    go_ret
    exact ⟨qE, qB⟩
   ·rw [zD c8] at H
    obtain ⟨c8b0, c8b1⟩ := qn c8
    obtain rfl := zI H
    go_enter Tryd.func46, Tryd.ntmps46
    go_wp2_with (first | ((with_reducible refine gate_dst (N := 1) rfl ?_); refine box_event (by rfl) (N := 1) (by rfl) (cs := #[.int .i64 a0_0, .int .i64 a0_1, .int .i64 a0_2, .int .i64 a0_3, .string a0_4, .slice A0_5 l0_5.length c0_5]) (t := 38) ?hr ?_; (case hr => go_simp <;> rfl); intro gb325 hg w11 hbox hb; have BK325 := zA (hbox); have GW325 := qG hg; have GE325 := GW325; replace HB := qH hb; clear hb hbox hg; have z12_0 := bk6 BK325.out) | ((with_reducible refine gate_callee (f := 85) rfl ?_); refine goesL_ (some 6) rfl rfl Tryd.func85 (by kernel_rfl) rfl #[.int .i64 a0_0] rfl qL ?_; (with_reducible refine (ir_shape.calls a0_0 t326 _ A2.out (hL := ?side99)).mono ?_); (case side99 => exact LaidW.below HLd.out qB); rintro e w' ⟨rfl, ⟨nd, rfl⟩⟩; refine ⟨_, rfl, ?_⟩; have p7 : 0 ≤ (0 : Int) := (by omega); have q7 : 0 < t326.size := (by have : (0 : Int) < (t326.size : Int) := zB qA; omega); have hx7 : ∀ h : 0 < t326.size, ((t326[0]'h).toNat : Int) = bt t326 0 := bt_at t326 0; clear p7; have qi7 : (0 < (t326.size : Int)) = True := eq_true (zB qA); replace q7 := eq_true q7))
    go_ret
    exact ⟨qE, qB⟩
  ·rw [zD c6] at H
   exact absurd H (by simp)

def ir_Uses.j0 : Nat → List Int → ByteArray → Int → Int → Int → Int → ByteArray → List Int → Option (List Int)
 | 0, _, _, _, _, _, _, _, _ => none
 | k + 1, x3, x4, x312000, x312001, x312002, x312003, x312004, x312005 => if 2 < (x4.size : Int) then (if (bt x4 2) = 114 then (if x3.length < 17592186044416 then ((some (x3 ++ [x312003] : List Int)).bind fun y316 => (if x312000 = 11 then (if y316.length + x312005.length < 17592186044416 then (some (y316 ++ x312005)) else (none)) else (some y316))) else (none)) else (if x312000 = 11 then (if x3.length + x312005.length < 17592186044416 then (some (x3 ++ x312005)) else (none)) else (some x3))) else (none)
def ir_Uses.f (k : Nat) (a0_0 : Int) (a0_1 : Int) (a0_2 : Int) (a0_3 : Int) (a0_4 : ByteArray) (l0_5 : List Int) : Option (List Int) := (ir_shape.f a0_0).bind fun t312 => (if t312.toList = ([] : List UInt8) then (some ([] : List Int)) else (if 1 < (t312.size : Int) then (if (bt t312 1) = 114 then (if ([] : List Int).length < 17592186044416 then (ir_Uses.j0 k (([] : List Int) ++ [a0_2]) t312 a0_0 a0_1 a0_2 a0_3 a0_4 l0_5) else (none)) else (ir_Uses.j0 k ([] : List Int) t312 a0_0 a0_1 a0_2 a0_3 a0_4 l0_5)) else (none)))
set_option maxHeartbeats 8000000 in
set_option maxRecDepth 100000 in
theorem ir_Uses.calls (k : Nat) (a0_0 : Int) (a0_1 : Int) (a0_2 : Int) (a0_3 : Int) (a0_4 : ByteArray) (A0_5 : Option Addr) (c0_5 : Nat) (l0_5 : List Int) (r : List Int) (w : World) (hL : LaidW w) (hr0_5 : Kd.C (Kd.int .i64) w A0_5 l0_5.length l0_5) (hc0_5 : l0_5.length ≤ c0_5) (h : ir_Uses.f k a0_0 a0_1 a0_2 a0_3 a0_4 l0_5 = some r) :
 Calls Tryd.prog 45 #[.agg #[.int .i64 a0_0, .int .i64 a0_1, .int .i64 a0_2, .int .i64 a0_3, .string a0_4, .slice A0_5 l0_5.length c0_5]] w fun e w' => ∃ v0_ : Value, e = .returned (v0_) ∧ Kd.R (Kd.int .i64) 3 w' w.heap.size (fun _ => True) v0_ r ∧ Below w.heap.size w w' := by
 have hu38 := Tryd.underlying38
 have HR0_5 := zA hr0_5
 have HC0_5 := zA hc0_5
 clear hr0_5 hc0_5
 have HB := zA (Below.refl w.heap.size w)
 have HLd := zA hL
 clear hL
 have H := h; clear h; unfold ir_Uses.f at H
 replace H := qb H; obtain ⟨t312, A2, H⟩ := H
 by_cases c3 : t312.toList = ([] : List UInt8)
 ·rw [zC c3] at H
  obtain ⟨c3b0, c3b1⟩ := qe c3; clear c3
  obtain rfl := zI H
  go_enter Tryd.func45, Tryd.ntmps45
  go_wp2_with (first | ((with_reducible refine gate_dst (N := 1) rfl ?_); refine box_event (by rfl) (N := 1) (by rfl) (cs := #[.int .i64 a0_0, .int .i64 a0_1, .int .i64 a0_2, .int .i64 a0_3, .string a0_4, .slice A0_5 l0_5.length c0_5]) (t := 38) ?hr ?_; (case hr => go_simp <;> rfl); intro gb311 hg w4 hbox hb; have BK311 := zA (hbox); have GW311 := qG hg; have GE311 := GW311; replace HB := qH hb; clear hb hbox hg; have z5_0 := bk6 BK311.out) | ((with_reducible refine gate_callee (f := 85) rfl ?_); refine goesL_ (some 7) rfl rfl Tryd.func85 (by kernel_rfl) rfl #[.int .i64 a0_0] rfl qL ?_; (with_reducible refine (ir_shape.calls a0_0 t312 _ A2.out (hL := ?side99)).mono ?_); (case side99 => exact LaidW.below HLd.out qB); rintro e w' ⟨rfl, ⟨nd, rfl⟩⟩; refine ⟨_, rfl, ?_⟩))
  go_ret
  exact ⟨_, qE, by first | exact Kd.R_nil _ _ _ _ _ | exact Kd.N_nil _ _ _ _ _ | exact Kd.V_nil _ _ _ _ _ | exact Kd.Q_nil _ _ _ _ _ | exact Kd.S_nil _ _ _ _ _, qB⟩
 ·rw [zD c3] at H
  obtain ⟨c3b0, c3b1⟩ := qn c3
  by_cases c6 : 1 < (t312.size : Int)
  ·rw [zC c6] at H
   have c6b0 := zF c6
   have c6b1 : decide (1 < t312.size) = true := zF (by omega)
   clear c6
   have HC8 := zA H
   clear H
   go_enter Tryd.func45, Tryd.ntmps45
   go_upto_if 12 with (first | ((with_reducible refine gate_dst (N := 1) rfl ?_); refine box_event (by rfl) (N := 1) (by rfl) (cs := #[.int .i64 a0_0, .int .i64 a0_1, .int .i64 a0_2, .int .i64 a0_3, .string a0_4, .slice A0_5 l0_5.length c0_5]) (t := 38) ?hr ?_; (case hr => go_simp <;> rfl); intro gb311 hg w9 hbox hb; have BK311 := zA (hbox); have GW311 := qG hg; have GE311 := GW311; replace HB := qH hb; clear hb hbox hg; have z10_0 := bk6 BK311.out) | ((with_reducible refine gate_callee (f := 85) rfl ?_); refine goesL_ (some 7) rfl rfl Tryd.func85 (by kernel_rfl) rfl #[.int .i64 a0_0] rfl qL ?_; (with_reducible refine (ir_shape.calls a0_0 t312 _ A2.out (hL := ?side99)).mono ?_); (case side99 => exact LaidW.below HLd.out qB); rintro e w' ⟨rfl, ⟨nd, rfl⟩⟩; refine ⟨_, rfl, ?_⟩; have p7 : 0 ≤ (1 : Int) := (by omega); have q7 : 1 < t312.size := (by have : (1 : Int) < (t312.size : Int) := zB qA; omega); have hx7 : ∀ h : 1 < t312.size, ((t312[1]'h).toNat : Int) = bt t312 1 := bt_at t312 1; clear p7; have qi7 : (1 < (t312.size : Int)) = True := eq_true (zB qA); replace q7 := eq_true q7))
   (try simp only [Act.put, List.setIfInBounds_toArray, List.set_cons_zero, List.set_cons_succ])
   go_cut [3] (fun v3 wc => ∃ (kq : Nat) (x3_7 : List Int), Aside0 (ir_Uses.j0 kq x3_7 t312 a0_0 a0_1 a0_2 a0_3 a0_4 l0_5 = some r) ∧ Aside0 (kq ≤ k) ∧ Aside0 (Kd.R (Kd.int .i64) 3 wc w.heap.size (fun _ => True) v3 x3_7) ∧ Aside0 (wc.heap[gb311]? = some (.cells #[.int .i64 a0_0, .int .i64 a0_1, .int .i64 a0_2, .int .i64 a0_3, .string a0_4, (.slice A0_5 l0_5.length c0_5)] 38 (0, 0))) ∧ Aside0 (Below w.heap.size w wc))
   case first =>
    have H := HC8.out
    clear HC8
    by_cases c11 : (bt t312 1) = 114
    ·rw [zC c11] at H
     obtain ⟨c11b0, c11b1⟩ := qe c11; clear c11
     (first | rw [c11b0] | (simp only [i64_w, i32_w]; rw [c11b0]) | skip)
     by_cases c12 : ([] : List Int).length < 17592186044416
     ·rw [zC c12] at H
      have LMc12 := zA c12
      clear c12
      obtain ⟨y313, hy313⟩ : ∃ y_ : List Int, y_ = (([] : List Int) ++ [a0_2]) := ⟨_, rfl⟩
      replace H : (ir_Uses.j0 k y313 t312 a0_0 a0_1 a0_2 a0_3 a0_4 l0_5) = some r := by (try rw [hy313]); first | with_reducible exact H | exact (zJ _ _).symm.trans H | exact H
      have Ny313 := zA hy313
      clear hy313
      have H' := zA H
      clear H
      have z13_0 := bk6 BK311.out
      go_wp2_with (first | ((with_reducible refine gate_builtin (b := .append) (xs := #[.tmp 13, .tmp 16]) rfl ?_); at_builtin; refine Kd.R_append (Kd.int .i64) (w0 := w) w.heap.size rfl (.tmp 13) (.tmp 16) 35 3 (.int .i64 0) 8 rfl Tryd.underlying35 info3 rfl (by decide) (by omega) (.slice none 0 0) ([] : List Int) a0_2 [.int .i64 a0_2] (fun _ => True) (fun _ => False) rfl rfl ?aP (fun _ hk => hk.elim) ?aF ?aO ?aB ?aS ?aL ?_; (case aP => exact rfl); (case aB => exact qB); (case aF => exact (fun _ _ => trivial)); (case aO => exact ((Kd.R_nil _ _ _ _ (fun _ => True)))); (case aS => exact (below_size qB)); (case aL => have := LMc12.out; omega); intro v314 w14 ho hb hg hat; rw [← Ny313.out] at ho; replace BK311 := zA (blk_grown (qK BK311.out) hg (by simp [Value.ownBlock])); replace HB := zA (hb); have HO315 := zA (ho); clear ho hb hg hat))
      go_meet
      case rel => exact ⟨_, (y313), H', ⟨qO⟩, ⟨qR HO315.out⟩, ⟨qK BK311.out⟩, ⟨qB⟩⟩
     ·rw [zD c12] at H
      exact absurd H (by simp)
    ·rw [zD c11] at H
     obtain ⟨c11b0, c11b1⟩ := qn c11
     (first | rw [c11b0] | (simp only [i64_w, i32_w]; rw [c11b0]) | skip)
     have H' := zA H
     clear H
     go_wp2
     go_meet
     case rel => exact ⟨_, (([] : List Int)), H', ⟨qO⟩, ⟨by first | exact Kd.R_nil _ _ _ _ _ | exact Kd.N_nil _ _ _ _ _ | exact Kd.V_nil _ _ _ _ _ | exact Kd.Q_nil _ _ _ _ _ | exact Kd.S_nil _ _ _ _ _⟩, ⟨qK BK311.out⟩, ⟨qB⟩⟩
   case rest =>
    clear HC8
    obtain ⟨kq, x3_7, HA, HJ7, HO_3, BK311, HB⟩ := hcut
    cases kq with
    | zero => exact absurd HA.out (by simp [ir_Uses.j0])
    | succ kj7 =>
     have H := HA.out
     clear HA
     simp only [ir_Uses.j0] at H
     by_cases c15 : 2 < (t312.size : Int)
     ·rw [zC c15] at H
      have c15b0 := zF c15
      have c15b1 : decide (2 < t312.size) = true := zF (by omega)
      clear c15
      by_cases c17 : (bt t312 2) = 114
      ·rw [zC c17] at H
       obtain ⟨c17b0, c17b1⟩ := qe c17; clear c17
       by_cases c18 : x3_7.length < 17592186044416
       ·rw [zC c18] at H
        have LMc18 := zA c18
        clear c18
        obtain ⟨y316, hy316⟩ : ∃ y_ : List Int, y_ = (x3_7 ++ [a0_3]) := ⟨_, rfl⟩
        replace H : (if a0_0 = 11 then (if y316.length + l0_5.length < 17592186044416 then (some (y316 ++ l0_5)) else (none)) else (some y316)) = some r := by (try rw [hy316]); first | with_reducible exact H | exact (zJ _ _).symm.trans H | exact H
        have Ny316 := zA hy316
        clear hy316
        by_cases c19 : a0_0 = 11
        ·rw [zC c19] at H
         obtain ⟨c19b0, c19b1⟩ := qe c19; clear c19
         by_cases c20 : y316.length + l0_5.length < 17592186044416
         ·rw [zC c20] at H
          have LMc20 := zA c20
          clear c20
          obtain ⟨y319, hy319⟩ : ∃ y_ : List Int, y_ = (y316 ++ l0_5) := ⟨_, rfl⟩
          replace H : (some y319) = some r := by (try rw [hy319]); first | with_reducible exact H | exact (zJ _ _).symm.trans H | exact H
          have Ny319 := zA hy319
          clear hy319
          obtain rfl := zI H
          have p16 : 0 ≤ (2 : Int) := (by omega)
          have q16 : 2 < t312.size := (by have : (2 : Int) < (t312.size : Int) := zB qA; omega)
          have hx16 : ∀ h : 2 < t312.size, ((t312[2]'h).toNat : Int) = bt t312 2 := bt_at t312 2
          clear p16
          have qi16 : (2 < (t312.size : Int)) = True := eq_true (zB qA)
          replace q16 := eq_true q16
          have z21_0 := bk6 BK311.out
          go_wp2_with (first | ((with_reducible refine gate_builtin (b := .append) (xs := #[.tmp 21, .tmp 24]) rfl ?_); at_builtin; refine Kd.R_append (Kd.int .i64) (w0 := w) w.heap.size rfl (.tmp 21) (.tmp 24) 35 3 (.int .i64 0) 8 rfl Tryd.underlying35 info3 rfl (by decide) (by omega) u3 x3_7 a0_3 [.int .i64 a0_3] (fun _ => True) (fun _ => False) rfl rfl ?aP (fun _ hk => hk.elim) ?aF ?aO ?aB ?aS ?aL ?_; (case aP => exact rfl); (case aB => exact qB); (case aF => exact (fun _ _ => trivial)); (case aO => exact (qR HO_3.out)); (case aS => exact (below_size qB)); (case aL => have := LMc18.out; omega); intro v317 w22 ho hb hg hat; rw [← Ny316.out] at ho; replace BK311 := zA (blk_grown (qK BK311.out) hg (Kd.R_ne HO_3.out BK311.out (by decide))); replace HB := zA (hb); have HO318 := zA (ho); clear HO_3; clear ho hb hg hat; have z23_0 := bk6 BK311.out) | ((with_reducible refine gate_builtin (b := .append) (xs := #[.tmp 29, .tmp 31]) rfl ?_); at_builtin; refine Kd.R_append_rows (Kd.int .i64) (w0 := w) w.heap.size rfl (.tmp 29) (.tmp 31) 35 3 (.int .i64 0) 8 rfl Tryd.underlying35 info3 rfl (by decide) (by omega) v317 y316 l0_5 _ _ _ (fun _ => True) (fun _ => False) rfl rfl ?aO ?aR (fun _ _ h => h) (fun _ h => h.elim) ?aF ?aB ?aS ?aL ?_; (case aR => exact qCB HR0_5.out); (case aB => exact qB); (case aF => exact (fun _ _ => trivial)); (case aO => exact (qR HO318.out)); (case aS => exact (below_size qB)); (case aL => have := LMc20.out; omega); intro v320 w24 ho hb hg hat; rw [← Ny319.out] at ho; replace BK311 := zA (blk_grown (qK BK311.out) hg (Kd.R_ne HO318.out BK311.out (by decide))); replace HB := zA (hb); have HO321 := zA (ho); clear HO318; clear ho hb hg hat))
          go_ret
          exact ⟨_, qE, qR HO321.out, qB⟩
         ·rw [zD c20] at H
          exact absurd H (by simp)
        ·rw [zD c19] at H
         obtain ⟨c19b0, c19b1⟩ := qn c19
         obtain rfl := zI H
         have p16 : 0 ≤ (2 : Int) := (by omega)
         have q16 : 2 < t312.size := (by have : (2 : Int) < (t312.size : Int) := zB qA; omega)
         have hx16 : ∀ h : 2 < t312.size, ((t312[2]'h).toNat : Int) = bt t312 2 := bt_at t312 2
         clear p16
         have qi16 : (2 < (t312.size : Int)) = True := eq_true (zB qA)
         replace q16 := eq_true q16
         have z25_0 := bk6 BK311.out
         go_wp2_with (first | ((with_reducible refine gate_builtin (b := .append) (xs := #[.tmp 21, .tmp 24]) rfl ?_); at_builtin; refine Kd.R_append (Kd.int .i64) (w0 := w) w.heap.size rfl (.tmp 21) (.tmp 24) 35 3 (.int .i64 0) 8 rfl Tryd.underlying35 info3 rfl (by decide) (by omega) u3 x3_7 a0_3 [.int .i64 a0_3] (fun _ => True) (fun _ => False) rfl rfl ?aP (fun _ hk => hk.elim) ?aF ?aO ?aB ?aS ?aL ?_; (case aP => exact rfl); (case aB => exact qB); (case aF => exact (fun _ _ => trivial)); (case aO => exact (qR HO_3.out)); (case aS => exact (below_size qB)); (case aL => have := LMc18.out; omega); intro v317 w26 ho hb hg hat; rw [← Ny316.out] at ho; replace BK311 := zA (blk_grown (qK BK311.out) hg (Kd.R_ne HO_3.out BK311.out (by decide))); replace HB := zA (hb); have HO318 := zA (ho); clear HO_3; clear ho hb hg hat; have z27_0 := bk6 BK311.out))
         go_ret
         exact ⟨_, qE, qR HO318.out, qB⟩
       ·rw [zD c18] at H
        exact absurd H (by simp)
      ·rw [zD c17] at H
       obtain ⟨c17b0, c17b1⟩ := qn c17
       by_cases c28 : a0_0 = 11
       ·rw [zC c28] at H
        obtain ⟨c28b0, c28b1⟩ := qe c28; clear c28
        by_cases c29 : x3_7.length + l0_5.length < 17592186044416
        ·rw [zC c29] at H
         have LMc29 := zA c29
         clear c29
         obtain ⟨y322, hy322⟩ : ∃ y_ : List Int, y_ = (x3_7 ++ l0_5) := ⟨_, rfl⟩
         replace H : (some y322) = some r := by (try rw [hy322]); first | with_reducible exact H | exact (zJ _ _).symm.trans H | exact H
         have Ny322 := zA hy322
         clear hy322
         obtain rfl := zI H
         have p16 : 0 ≤ (2 : Int) := (by omega)
         have q16 : 2 < t312.size := (by have : (2 : Int) < (t312.size : Int) := zB qA; omega)
         have hx16 : ∀ h : 2 < t312.size, ((t312[2]'h).toNat : Int) = bt t312 2 := bt_at t312 2
         clear p16
         have qi16 : (2 < (t312.size : Int)) = True := eq_true (zB qA)
         replace q16 := eq_true q16
         have z30_0 := bk6 BK311.out
         go_wp2_with (first | ((with_reducible refine gate_builtin (b := .append) (xs := #[.tmp 29, .tmp 31]) rfl ?_); at_builtin; refine Kd.R_append_rows (Kd.int .i64) (w0 := w) w.heap.size rfl (.tmp 29) (.tmp 31) 35 3 (.int .i64 0) 8 rfl Tryd.underlying35 info3 rfl (by decide) (by omega) u3 x3_7 l0_5 _ _ _ (fun _ => True) (fun _ => False) rfl rfl ?aO ?aR (fun _ _ h => h) (fun _ h => h.elim) ?aF ?aB ?aS ?aL ?_; (case aR => exact qCB HR0_5.out); (case aB => exact qB); (case aF => exact (fun _ _ => trivial)); (case aO => exact (qR HO_3.out)); (case aS => exact (below_size qB)); (case aL => have := LMc29.out; omega); intro v323 w31 ho hb hg hat; rw [← Ny322.out] at ho; replace BK311 := zA (blk_grown (qK BK311.out) hg (Kd.R_ne HO_3.out BK311.out (by decide))); replace HB := zA (hb); have HO324 := zA (ho); clear HO_3; clear ho hb hg hat))
         go_ret
         exact ⟨_, qE, qR HO324.out, qB⟩
        ·rw [zD c29] at H
         exact absurd H (by simp)
       ·rw [zD c28] at H
        obtain ⟨c28b0, c28b1⟩ := qn c28
        obtain rfl := zI H
        have p16 : 0 ≤ (2 : Int) := (by omega)
        have q16 : 2 < t312.size := (by have : (2 : Int) < (t312.size : Int) := zB qA; omega)
        have hx16 : ∀ h : 2 < t312.size, ((t312[2]'h).toNat : Int) = bt t312 2 := bt_at t312 2
        clear p16
        have qi16 : (2 < (t312.size : Int)) = True := eq_true (zB qA)
        replace q16 := eq_true q16
        have z32_0 := bk6 BK311.out
        go_wp2
        go_ret
        exact ⟨_, qE, qR HO_3.out, qB⟩
     ·rw [zD c15] at H
      exact absurd H (by simp)
  ·rw [zD c6] at H
   exact absurd H (by simp)

def live_set_with.f (a0 : Int) (a1 : Int) : Option (Int) := if 0 ≤ (IntKind.u64.wrap (a1)) then (some (Go.bits .or .u64 a0 (shl .u64 1 (IntKind.u64.wrap (a1))))) else (none)
set_option maxHeartbeats 8000000 in
set_option maxRecDepth 100000 in
theorem live_set_with.calls (a0 : Int) (a1 : Int) (r : Int) (w : World) (h : live_set_with.f a0 a1 = some r) :
 Calls Tryd.prog 187 #[.int .u64 a0, .int .i64 a1] w fun e w' => e = .returned (.int .u64 r) ∧ Drawn0 w w' := by
 have H := h; clear h; unfold live_set_with.f at H
 obtain ⟨ji3, hji3⟩ : ∃ j_ : Int, (IntKind.u64.wrap (a1)) = j_ := ⟨_, rfl⟩
 replace H : (if 0 ≤ (ji3) then (some (Go.bits .or .u64 a0 (shl .u64 1 (ji3)))) else (none)) = some r := by first | (rw [hji3] at H; exact H) | (simp only [hji3] at H ⊢; exact H)
 by_cases c4 : 0 ≤ (ji3)
 ·rw [zC c4] at H
  have c4b0 := eq_true c4
  have c4b1 := zF c4
  clear c4
  obtain ⟨ji5, hji5⟩ : ∃ j_ : Int, (shl .u64 1 (ji3)) = j_ := ⟨_, rfl⟩
  replace H : (some (Go.bits .or .u64 a0 (ji5))) = some r := by first | (rw [hji5] at H; exact H) | (simp only [hji5] at H ⊢; exact H)
  have hji5_ : (IntKind.u64.wrap (1 * 2 ^ min (ji3).toNat 64)) = ji5 := hji5
  have hji5z : (ji3) ≤ 64 → (IntKind.u64.wrap (1 * 2 ^ (ji3).toNat)) = ji5 := shl_small hji5
  have hji5u : (IntKind.u64.wrap (2 ^ min (ji3).toNat 64)) = ji5 := by have h_ := hji5_; rw [Int.one_mul] at h_; exact h_
  have hji5v : (ji3) ≤ 64 → (IntKind.u64.wrap (2 ^ (ji3).toNat)) = ji5 := fun hle_ => by have h_ := hji5z hle_; rw [Int.one_mul] at h_; exact h_
  obtain rfl := zI H
  go_enter Tryd.func187, Tryd.ntmps187
  go_wp2
  go_ret
  exact ⟨by first | rfl | (simp; done) | (simp only [← hji3, ← hji5] <;> (first | rfl | simp)) | (simp [*]; done), qD⟩
 ·rw [zD c4] at H
  exact absurd H (by simp)

def live_set_each.l0 : Nat → Int → List Int → Int → Int → Option (Int)
 | 0, _, _, _, _ => none
 | k + 1, x0, x9, x10, x11 => if x11 < x10 then (if 0 ≤ x11 then (if x11 < (x9.length : Int) then ((live_set_with.f x0 (rd x9 x11)).bind fun t328 => (live_set_each.l0 k t328 x9 x10 (wrap64 (x11 + 1)))) else (none)) else (none)) else (some x0)
def live_set_each.f (k : Nat) (a0 : Int) (l1 : List Int) (a2 : Bool) : Option (Int) := live_set_each.l0 k a0 l1 (l1.length : Int) 0
set_option maxHeartbeats 8000000 in
set_option maxRecDepth 100000 in
theorem live_set_each.calls (k : Nat) (a0 : Int) (A1 : Option Addr) (c1 : Nat) (l1 : List Int) (a2 : Bool) (r : Int) (w : World) (hr1 : Kd.C (Kd.int .i64) w A1 l1.length l1) (hc1 : l1.length ≤ c1) (h : live_set_each.f k a0 l1 a2 = some r) :
 Calls Tryd.prog 186 #[.int .u64 a0, .slice A1 l1.length c1, .func (.func 187) #[] #[]] w fun e w' => e = .returned (.int .u64 r) ∧ Drawn0 w w' := by
 have HR1 := zA hr1
 have HC1 := zA hc1
 clear hr1 hc1
 have H := h; clear h; unfold live_set_each.f at H
 have H' := zA H
 clear H
 go_enter Tryd.func186, Tryd.ntmps186
 go_wp2
 go_loopg [0, 11] k (fun kq v0 v11 w' => ∃ (x0_1 : Int) (x11_1 : Int), v0 = .int .u64 x0_1 ∧ v11 = .int .i64 x11_1 ∧ Aside0 (live_set_each.l0 kq x0_1 l1 (l1.length : Int) x11_1 = some r) ∧ Aside0 (kq ≤ k) ∧ Drawn0 w w')
 case atStart => exact ⟨(a0), (0), qT, qT, H', ⟨Nat.le_refl _⟩, qD⟩
 case round =>
  clear H'
  obtain ⟨x0_1, x11_1, rfl, rfl, HA, HK1, ⟨m1, rfl⟩⟩ := hrel
  cases gk with
  | zero => exact absurd HA.out (by simp [live_set_each.l0])
  | succ k1 =>
   have H := HA.out
   clear HA
   simp only [live_set_each.l0] at H
   by_cases c4 : x11_1 < (l1.length : Int)
   ·rw [zC c4] at H
    have c4b0 := zF c4
    clear c4
    by_cases c5 : 0 ≤ x11_1
    ·rw [zC c5] at H
     have c5b0 := zF c5
     clear c5
     by_cases c6 : x11_1 < (l1.length : Int)
     ·rw [zC c6] at H
      have c6b0 := zF c6
      clear c6
      replace H := qb H; obtain ⟨t328, A7, H⟩ := H
      have H' := zA H
      clear H
      have p327 : 0 ≤ (x11_1 : Int) := zB qA
      have q327 : x11_1 < (l1.length : Int) := zB qA
      obtain ⟨ad327, e327, hx327_0⟩ := Kd.at_int HR1.out x11_1 p327 q327
      cases e327
      replace p327 := eq_true p327
      replace q327 := eq_true q327
      go_wp2_with (first | (go_at_call 187; (with_reducible refine (live_set_with.calls x0_1 (rd l1 x11_1) t328 _ A7.out).mono ?_); rintro e w' ⟨rfl, ⟨nd, rfl⟩⟩))
      go_roundg k1
      case measure => have := HK1.out; omega
      case rel => exact ⟨(t328), (wrap64 (x11_1 + 1)), qT, qT, H', ⟨by have := HK1.out; omega⟩, qD⟩
     ·rw [zD c6] at H
      exact absurd H (by simp)
    ·rw [zD c5] at H
     exact absurd H (by simp)
   ·rw [zD c4] at H
    have c4b0 := zG c4
    clear c4
    obtain rfl := zI H
    go_wp2
    go_ret
    exact ⟨by first | rfl | (simp; done) | (simp [*]; done), qD⟩

def live_set_without.f (a0 : Int) (a1 : Int) : Option (Int) := if 0 ≤ (IntKind.u64.wrap (a1)) then (some (Go.bits .andNot .u64 a0 (shl .u64 1 (IntKind.u64.wrap (a1))))) else (none)
set_option maxHeartbeats 8000000 in
set_option maxRecDepth 100000 in
theorem live_set_without.calls (a0 : Int) (a1 : Int) (r : Int) (w : World) (h : live_set_without.f a0 a1 = some r) :
 Calls Tryd.prog 185 #[.int .u64 a0, .int .i64 a1] w fun e w' => e = .returned (.int .u64 r) ∧ Drawn0 w w' := by
 have H := h; clear h; unfold live_set_without.f at H
 obtain ⟨ji3, hji3⟩ : ∃ j_ : Int, (IntKind.u64.wrap (a1)) = j_ := ⟨_, rfl⟩
 replace H : (if 0 ≤ (ji3) then (some (Go.bits .andNot .u64 a0 (shl .u64 1 (ji3)))) else (none)) = some r := by first | (rw [hji3] at H; exact H) | (simp only [hji3] at H ⊢; exact H)
 by_cases c4 : 0 ≤ (ji3)
 ·rw [zC c4] at H
  have c4b0 := eq_true c4
  have c4b1 := zF c4
  clear c4
  obtain ⟨ji5, hji5⟩ : ∃ j_ : Int, (shl .u64 1 (ji3)) = j_ := ⟨_, rfl⟩
  replace H : (some (Go.bits .andNot .u64 a0 (ji5))) = some r := by first | (rw [hji5] at H; exact H) | (simp only [hji5] at H ⊢; exact H)
  have hji5_ : (IntKind.u64.wrap (1 * 2 ^ min (ji3).toNat 64)) = ji5 := hji5
  have hji5z : (ji3) ≤ 64 → (IntKind.u64.wrap (1 * 2 ^ (ji3).toNat)) = ji5 := shl_small hji5
  have hji5u : (IntKind.u64.wrap (2 ^ min (ji3).toNat 64)) = ji5 := by have h_ := hji5_; rw [Int.one_mul] at h_; exact h_
  have hji5v : (ji3) ≤ 64 → (IntKind.u64.wrap (2 ^ (ji3).toNat)) = ji5 := fun hle_ => by have h_ := hji5z hle_; rw [Int.one_mul] at h_; exact h_
  obtain rfl := zI H
  go_enter Tryd.func185, Tryd.ntmps185
  go_wp2
  go_ret
  exact ⟨by first | rfl | (simp; done) | (simp only [← hji3, ← hji5] <;> (first | rfl | simp)) | (simp [*]; done), qD⟩
 ·rw [zD c4] at H
  exact absurd H (by simp)

def live_through.f (k : Nat) (a0_0 : Int) (a0_1 : Int) (a0_2 : Int) (a0_3 : Int) (a0_4 : ByteArray) (l0_5 : List Int) (a1 : Int) : Option (Int) := (ir_Def.f a0_0 a0_1 a0_2 a0_3 a0_4 l0_5).bind fun t330 => (if t330 ≥ 0 then ((live_set_without.f a1 t330).bind fun t331 => ((ir_Uses.f k a0_0 a0_1 a0_2 a0_3 a0_4 l0_5).bind fun t332 => ((live_set_each.f k t331 t332 false).bind fun t335 => (some t335)))) else ((ir_Uses.f k a0_0 a0_1 a0_2 a0_3 a0_4 l0_5).bind fun t336 => ((live_set_each.f k a1 t336 false).bind fun t339 => (some t339))))
set_option maxHeartbeats 8000000 in
set_option maxRecDepth 100000 in
theorem live_through.calls (k : Nat) (a0_0 : Int) (a0_1 : Int) (a0_2 : Int) (a0_3 : Int) (a0_4 : ByteArray) (A0_5 : Option Addr) (c0_5 : Nat) (l0_5 : List Int) (a1 : Int) (r : Int) (w : World) (hL : LaidW w) (hr0_5 : Kd.C (Kd.int .i64) w A0_5 l0_5.length l0_5) (hc0_5 : l0_5.length ≤ c0_5) (h : live_through.f k a0_0 a0_1 a0_2 a0_3 a0_4 l0_5 a1 = some r) :
 Calls Tryd.prog 155 #[.agg #[.int .i64 a0_0, .int .i64 a0_1, .int .i64 a0_2, .int .i64 a0_3, .string a0_4, .slice A0_5 l0_5.length c0_5], .int .u64 a1] w fun e w' => e = .returned (.int .u64 r) ∧ Below w.heap.size w w' := by
 have hu38 := Tryd.underlying38
 have HR0_5 := zA hr0_5
 have HC0_5 := zA hc0_5
 clear hr0_5 hc0_5
 have HB := zA (Below.refl w.heap.size w)
 have HLd := zA hL
 clear hL
 have H := h; clear h; unfold live_through.f at H
 replace H := qb H; obtain ⟨t330, A3, H⟩ := H
 by_cases c4 : t330 ≥ 0
 ·rw [zC c4] at H
  have c4b0 : decide (0 ≤ t330) = true := zF c4
  clear c4
  replace H := qb H; obtain ⟨t331, A5, H⟩ := H
  replace H := qb H; obtain ⟨t332, A6, H⟩ := H
  replace H := qb H; obtain ⟨t335, A7, H⟩ := H
  obtain rfl := zI H
  go_enter Tryd.func155, Tryd.ntmps155
  go_wp2_with (first | ((with_reducible refine gate_dst (N := 2) rfl ?_); refine box_event (by rfl) (N := 2) (by rfl) (cs := #[.int .i64 a0_0, .int .i64 a0_1, .int .i64 a0_2, .int .i64 a0_3, .string a0_4, .slice A0_5 l0_5.length c0_5]) (t := 38) ?hr ?_; (case hr => go_simp <;> rfl); intro gb329 hg w8 hbox hb; have BK329 := zA (hbox); have GW329 := qG hg; have GE329 := GW329; replace HB := qH hb; clear hb hbox hg; have z9_0 := bk6 BK329.out) | ((with_reducible refine gate_callee (f := 46) rfl ?_); refine goesL_ (some 7) rfl rfl Tryd.func46 (by kernel_rfl) rfl #[.agg #[.int .i64 a0_0, .int .i64 a0_1, .int .i64 a0_2, .int .i64 a0_3, .string a0_4, .slice A0_5 l0_5.length c0_5]] rfl qL ?_; (with_reducible refine (ir_Def.calls a0_0 a0_1 a0_2 a0_3 a0_4 _ _ l0_5 t330 _ ?side1 ?side2 A3.out (hL := ?side99)).mono ?_); (case side1 => exact qCB HR0_5.out); (case side2 => exact HC0_5.out); (case side99 => exact LaidW.below HLd.out qB); rintro e w10 ⟨rfl, hb⟩; refine ⟨_, rfl, ?_⟩; replace BK329 := qW BK329 hb; replace HB := qH hb; (try clear hb)) | ((with_reducible refine gate_callee (f := 185) rfl ?_); refine goesL_ (some 12) rfl rfl Tryd.func185 (by kernel_rfl) rfl #[.int .u64 a1, .int .i64 t330] rfl qL ?_; (with_reducible refine (live_set_without.calls a1 t330 t331 _ A5.out).mono ?_); rintro e w' ⟨rfl, ⟨nd, rfl⟩⟩; refine ⟨_, rfl, ?_⟩; have z11_0 := bk6 BK329.out) | ((with_reducible refine gate_callee (f := 45) rfl ?_); refine goesL_ (some 15) rfl rfl Tryd.func45 (by kernel_rfl) rfl #[.agg #[.int .i64 a0_0, .int .i64 a0_1, .int .i64 a0_2, .int .i64 a0_3, .string a0_4, .slice A0_5 l0_5.length c0_5]] rfl qL ?_; (with_reducible refine (ir_Uses.calls k a0_0 a0_1 a0_2 a0_3 a0_4 _ _ l0_5 t332 _ ?side1 ?side2 A6.out (hL := ?side99)).mono ?_); (case side1 => repeat (first | exact (Kd.C_below HR0_5.out qB) | (with_reducible refine Kd.C_alloc ?_ _) | (with_reducible refine Kd.C_drewN ?_ _) | (with_reducible refine Kd.C_drew ?_))); (case side2 => exact HC0_5.out); (case side99 => exact LaidW.below HLd.out qB); rintro e w12 ⟨v333, rfl, ho0, hb⟩; refine ⟨_, rfl, ?_⟩; have HO334 := zA (Kd.R_lower ho0 (below_size qB)); replace BK329 := qW BK329 hb; replace HB := qH hb; (try clear hb); (try clear ho0); obtain ⟨Ao13, co13, eo13⟩ := Kd.R_slice HO334.out; subst eo13) | ((with_reducible refine gate_callee (f := 186) rfl ?_); refine goesL_ (some 16) rfl rfl Tryd.func186 (by kernel_rfl) rfl #[.int .u64 t331, .slice Ao13 t332.length co13, .func (.func 187) #[] #[]] rfl qL ?_; (with_reducible refine (live_set_each.calls k t331 _ _ t332 false t335 _ ?side1 ?side2 A7.out).mono ?_); (case side1 => repeat (first | exact (Kd.R_reads' HO334.out).2.2 | (with_reducible refine Kd.C_alloc ?_ _) | (with_reducible refine Kd.C_drewN ?_ _) | (with_reducible refine Kd.C_drew ?_))); (case side2 => exact (Kd.R_reads' HO334.out).2.1); rintro e w' ⟨rfl, ⟨nd, rfl⟩⟩; refine ⟨_, rfl, ?_⟩))
  go_ret
  exact ⟨qE, qB⟩
 ·rw [zD c4] at H
  have c4b0 : decide (0 ≤ t330) = false := zG c4
  clear c4
  replace H := qb H; obtain ⟨t336, A14, H⟩ := H
  replace H := qb H; obtain ⟨t339, A15, H⟩ := H
  obtain rfl := zI H
  go_enter Tryd.func155, Tryd.ntmps155
  go_wp2_with (first | ((with_reducible refine gate_dst (N := 2) rfl ?_); refine box_event (by rfl) (N := 2) (by rfl) (cs := #[.int .i64 a0_0, .int .i64 a0_1, .int .i64 a0_2, .int .i64 a0_3, .string a0_4, .slice A0_5 l0_5.length c0_5]) (t := 38) ?hr ?_; (case hr => go_simp <;> rfl); intro gb329 hg w16 hbox hb; have BK329 := zA (hbox); have GW329 := qG hg; have GE329 := GW329; replace HB := qH hb; clear hb hbox hg; have z17_0 := bk6 BK329.out) | ((with_reducible refine gate_callee (f := 46) rfl ?_); refine goesL_ (some 7) rfl rfl Tryd.func46 (by kernel_rfl) rfl #[.agg #[.int .i64 a0_0, .int .i64 a0_1, .int .i64 a0_2, .int .i64 a0_3, .string a0_4, .slice A0_5 l0_5.length c0_5]] rfl qL ?_; (with_reducible refine (ir_Def.calls a0_0 a0_1 a0_2 a0_3 a0_4 _ _ l0_5 t330 _ ?side1 ?side2 A3.out (hL := ?side99)).mono ?_); (case side1 => exact qCB HR0_5.out); (case side2 => exact HC0_5.out); (case side99 => exact LaidW.below HLd.out qB); rintro e w18 ⟨rfl, hb⟩; refine ⟨_, rfl, ?_⟩; replace BK329 := qW BK329 hb; replace HB := qH hb; (try clear hb); have z19_0 := bk6 BK329.out) | ((with_reducible refine gate_callee (f := 45) rfl ?_); refine goesL_ (some 15) rfl rfl Tryd.func45 (by kernel_rfl) rfl #[.agg #[.int .i64 a0_0, .int .i64 a0_1, .int .i64 a0_2, .int .i64 a0_3, .string a0_4, .slice A0_5 l0_5.length c0_5]] rfl qL ?_; (with_reducible refine (ir_Uses.calls k a0_0 a0_1 a0_2 a0_3 a0_4 _ _ l0_5 t336 _ ?side1 ?side2 A14.out (hL := ?side99)).mono ?_); (case side1 => exact qCB HR0_5.out); (case side2 => exact HC0_5.out); (case side99 => exact LaidW.below HLd.out qB); rintro e w20 ⟨v337, rfl, ho0, hb⟩; refine ⟨_, rfl, ?_⟩; have HO338 := zA (Kd.R_lower ho0 (below_size qB)); replace BK329 := qW BK329 hb; replace HB := qH hb; (try clear hb); (try clear ho0); obtain ⟨Ao21, co21, eo21⟩ := Kd.R_slice HO338.out; subst eo21) | ((with_reducible refine gate_callee (f := 186) rfl ?_); refine goesL_ (some 16) rfl rfl Tryd.func186 (by kernel_rfl) rfl #[.int .u64 a1, .slice Ao21 t336.length co21, .func (.func 187) #[] #[]] rfl qL ?_; (with_reducible refine (live_set_each.calls k a1 _ _ t336 false t339 _ ?side1 ?side2 A15.out).mono ?_); (case side1 => repeat (first | exact (Kd.R_reads' HO338.out).2.2 | (with_reducible refine Kd.C_alloc ?_ _) | (with_reducible refine Kd.C_drewN ?_ _) | (with_reducible refine Kd.C_drew ?_))); (case side2 => exact (Kd.R_reads' HO338.out).2.1); rintro e w' ⟨rfl, ⟨nd, rfl⟩⟩; refine ⟨_, rfl, ?_⟩))
  go_ret
  exact ⟨qE, qB⟩

mutual
def live_ahead.l0 : Nat → List Int → Int → Int → Int → List Int → Int → Int → ByteArray → Int → Int → List (List (SIns)) → Option (Int)
 | 0, _, _, _, _, _, _, _, _, _, _, _ => none
 | k + 1, x1, x2, x3, x9, x16, x17, x18, x341000, x341001, x341002, x341003 => if x18 < x17 then (if 0 ≤ x18 then (if x18 < (x16.length : Int) then (if 0 ≤ (rd x16 x18) then (if (rd x16 x18) < (x1.length : Int) then (live_ahead.l0 k x1 x2 x3 (Go.bits .or .u64 x9 (rd x1 (rd x16 x18))) x16 x17 (wrap64 (x18 + 1)) x341000 x341001 x341002 x341003) else (none)) else (none)) else (none)) else (none)) else (if 0 ≤ x2 then (if x2 < (x341003.length : Int) then (live_ahead.l1 k x2 x3 x9 (wrap64 (((rd_LIns x341003 x2).length : Int) - 1)) x341000 x341001 x341002 x341003) else (none)) else (none))
def live_ahead.l1 : Nat → Int → Int → Int → Int → ByteArray → Int → Int → List (List (SIns)) → Option (Int)
 | 0, _, _, _, _, _, _, _, _ => none
 | k + 1, x2, x3, x9, x12, x341000, x341001, x341002, x341003 => if x12 ≥ x3 then (if 0 ≤ x2 then (if x2 < (x341003.length : Int) then (if 0 ≤ x12 then (if x12 < ((rd_LIns x341003 x2).length : Int) then ((live_through.f k ((rd_TIns (rd_LIns x341003 x2) x12).f0) ((rd_TIns (rd_LIns x341003 x2) x12).f1) ((rd_TIns (rd_LIns x341003 x2) x12).f2) ((rd_TIns (rd_LIns x341003 x2) x12).f3) ((rd_TIns (rd_LIns x341003 x2) x12).f4) ((rd_TIns (rd_LIns x341003 x2) x12).f5) x9).bind fun t349 => (live_ahead.l1 k x2 x3 t349 (wrap64 (x12 - 1)) x341000 x341001 x341002 x341003)) else (none)) else (none)) else (none)) else (none)) else (some x9)
end
def live_ahead.f (k : Nat) (a0_0 : ByteArray) (a0_1 : Int) (a0_2 : Int) (l0_3 : List (List (SIns))) (l1 : List Int) (a2 : Int) (a3 : Int) : Option (Int) := (flow_Succs.f k l0_3 a2).bind fun t341 => (live_ahead.l0 k l1 a2 a3 0 t341 (t341.length : Int) 0 a0_0 a0_1 a0_2 l0_3)
set_option maxHeartbeats 8000000 in
set_option maxRecDepth 100000 in
theorem live_ahead.calls (k : Nat) (a0_0 : ByteArray) (a0_1 : Int) (a0_2 : Int) (A0_3 : Option Addr) (c0_3 : Nat) (l0_3 : List (List (SIns))) (A1 : Option Addr) (c1 : Nat) (l1 : List Int) (a2 : Int) (a3 : Int) (r : Int) (w : World) (hL : LaidW w) (hr0_3 : Kd.C (Kd.slice 38 kIns) w A0_3 l0_3.length l0_3) (hc0_3 : l0_3.length ≤ c0_3) (hr1 : Kd.C (Kd.int .u64) w A1 l1.length l1) (hc1 : l1.length ≤ c1) (h : live_ahead.f k a0_0 a0_1 a0_2 l0_3 l1 a2 a3 = some r) :
 Calls Tryd.prog 119 #[.agg #[.string a0_0, .int .i64 a0_1, .int .i64 a0_2, .slice A0_3 l0_3.length c0_3], .slice A1 l1.length c1, .int .i64 a2, .int .i64 a3] w fun e w' => e = .returned (.int .u64 r) ∧ Below w.heap.size w w' := by
 have hu24 := Tryd.underlying24
 have hu38 := Tryd.underlying38
 have HR0_3 := zA hr0_3
 have HC0_3 := zA hc0_3
 clear hr0_3 hc0_3
 have HR1 := zA hr1
 have HC1 := zA hc1
 clear hr1 hc1
 have HB := zA (Below.refl w.heap.size w)
 have HLd := zA hL
 clear hL
 have H := h; clear h; unfold live_ahead.f at H
 replace H := qb H; obtain ⟨t341, A5, H⟩ := H
 have H' := zA H
 clear H
 go_enter Tryd.func119, Tryd.ntmps119
 go_wp2_with (first | ((with_reducible refine gate_dst (N := 4) rfl ?_); refine box_event (by rfl) (N := 4) (by rfl) (cs := #[.string a0_0, .int .i64 a0_1, .int .i64 a0_2, .slice A0_3 l0_3.length c0_3]) (t := 24) ?hr ?_; (case hr => go_simp <;> rfl); intro gb340 hg w6 hbox hb; have BK340 := zA (hbox); have GW340 := qG hg; have GE340 := GW340; replace HB := qH hb; clear hb hbox hg; have z7_0 := bk4 BK340.out) | ((with_reducible refine gate_callee (f := 81) rfl ?_); refine goesL_ (some 16) rfl rfl Tryd.func81 (by kernel_rfl) rfl #[.slice A0_3 l0_3.length c0_3, .int .i64 a2] rfl qL ?_; (with_reducible refine (flow_Succs.calls k _ _ l0_3 a2 t341 _ ?side1 ?side2 A5.out).mono ?_); (case side1 => exact qCB HR0_3.out); (case side2 => exact HC0_3.out); rintro e w8 ⟨v342, rfl, ho0, hb⟩; refine ⟨_, rfl, ?_⟩; have HO343 := zA (Kd.R_lower ho0 (below_size qB)); replace BK340 := qW BK340 hb; replace HB := qH hb; (try clear hb); (try clear ho0); obtain ⟨Ao9, co9, eo9⟩ := Kd.R_slice HO343.out; subst eo9))
 go_loopg [9, 18] k (fun kq v9 v18 w' => ∃ (x9_1 : Int) (x18_1 : Int), v9 = .int .u64 x9_1 ∧ v18 = .int .i64 x18_1 ∧ Aside0 (live_ahead.l0 kq l1 a2 a3 x9_1 t341 (t341.length : Int) x18_1 a0_0 a0_1 a0_2 l0_3 = some r) ∧ Aside0 (kq ≤ k) ∧ Aside0 (Kd.R (Kd.int .i64) 3 w' w.heap.size (fun _ => True) (.slice Ao9 t341.length co9) t341) ∧ Aside0 (w'.heap[gb340]? = some (.cells #[.string a0_0, .int .i64 a0_1, .int .i64 a0_2, (.slice A0_3 l0_3.length c0_3)] 24 (0, 0))) ∧ Aside0 (Below w.heap.size w w'))
 case atStart => exact ⟨(0), (0), qT, qT, H', ⟨Nat.le_refl _⟩, ⟨qR HO343.out⟩, ⟨qK BK340.out⟩, ⟨qB⟩⟩
 case round =>
  clear H'
  obtain ⟨x9_1, x18_1, rfl, rfl, HA, HK1, HO_16, BK340, HB⟩ := hrel
  cases gk with
  | zero => exact absurd HA.out (by simp [live_ahead.l0])
  | succ k1 =>
   have H := HA.out
   clear HA
   simp only [live_ahead.l0] at H
   by_cases c10 : x18_1 < (t341.length : Int)
   ·rw [zC c10] at H
    have c10b0 := zF c10
    clear c10
    by_cases c11 : 0 ≤ x18_1
    ·rw [zC c11] at H
     have c11b0 := zF c11
     clear c11
     by_cases c12 : x18_1 < (t341.length : Int)
     ·rw [zC c12] at H
      have c12b0 := zF c12
      clear c12
      by_cases c13 : 0 ≤ (rd t341 x18_1)
      ·rw [zC c13] at H
       have c13b0 := zF c13
       clear c13
       by_cases c14 : (rd t341 x18_1) < (l1.length : Int)
       ·rw [zC c14] at H
        have c14b0 := zF c14
        clear c14
        have H' := zA H
        clear H
        have p344 : 0 ≤ (x18_1 : Int) := zB qA
        have q344 : x18_1 < (t341.length : Int) := zB qA
        obtain ⟨ad344, e344, hx344_0⟩ := Kd.at_int (Kd.R_reads' HO_16.out).2.2 x18_1 p344 q344
        cases e344
        replace p344 := eq_true p344
        replace q344 := eq_true q344
        have p345 : 0 ≤ ((rd t341 x18_1) : Int) := zB qA
        have q345 : (rd t341 x18_1) < (l1.length : Int) := zB qA
        obtain ⟨ad345, e345, hx345_0⟩ := Kd.at_int HR1.out (rd t341 x18_1) p345 q345
        cases e345
        replace hx345_0 := (HB.out.cell (zE w _ hx345_0)).trans hx345_0
        replace p345 := eq_true p345
        replace q345 := eq_true q345
        go_wp2
        go_roundg k1
        case measure => have := HK1.out; omega
        case rel => exact ⟨(Go.bits .or .u64 x9_1 (rd l1 (rd t341 x18_1))), (wrap64 (x18_1 + 1)), qT, qT, H', ⟨by have := HK1.out; omega⟩, ⟨qR HO_16.out⟩, ⟨qK BK340.out⟩, ⟨qB⟩⟩
       ·rw [zD c14] at H
        exact absurd H (by simp)
      ·rw [zD c13] at H
       exact absurd H (by simp)
     ·rw [zD c12] at H
      exact absurd H (by simp)
    ·rw [zD c11] at H
     exact absurd H (by simp)
   ·rw [zD c10] at H
    have c10b0 := zG c10
    clear c10
    by_cases c15 : 0 ≤ a2
    ·rw [zC c15] at H
     have c15b0 := zF c15
     clear c15
     by_cases c16 : a2 < (l0_3.length : Int)
     ·rw [zC c16] at H
      have c16b0 := zF c16
      clear c16
      have H' := zA H
      clear H
      have z17_0 := bk4 BK340.out
      have p346 : 0 ≤ (a2 : Int) := zB qA
      have q346 : a2 < (l0_3.length : Int) := zB qA
      obtain ⟨ad346, A346_0, c346_0, e346, hx346_0, hl346_0, hi346_0⟩ := at_LIns HR0_3.out a2 p346 q346
      cases e346
      replace hx346_0 := (HB.out.cell (zE w _ hx346_0)).trans hx346_0
      have HR346_0 := zA hi346_0
      have HC346_0 := zA hl346_0
      clear hi346_0 hl346_0
      replace p346 := eq_true p346
      replace q346 := eq_true q346
      go_wp2
      go_loopg [9, 12] k1 (fun kq v9 v12 w' => ∃ (x9_2 : Int) (x12_2 : Int), v9 = .int .u64 x9_2 ∧ v12 = .int .i64 x12_2 ∧ Aside0 (live_ahead.l1 kq a2 a3 x9_2 x12_2 a0_0 a0_1 a0_2 l0_3 = some r) ∧ Aside0 (kq ≤ k1) ∧ Aside0 (w'.heap[gb340]? = some (.cells #[.string a0_0, .int .i64 a0_1, .int .i64 a0_2, (.slice (some ad346) l0_3.length c0_3)] 24 (0, 0))) ∧ Aside0 (Below w.heap.size w w'))
      case atStart => exact ⟨(x9_1), (wrap64 (((rd_LIns l0_3 a2).length : Int) - 1)), qT, qT, H', ⟨Nat.le_refl _⟩, ⟨qK BK340.out⟩, ⟨qB⟩⟩
      case round =>
       clear H'
       obtain ⟨x9_2, x12_2, rfl, rfl, HA, HK2, BK340, HB⟩ := hrel
       cases gk with
       | zero => exact absurd HA.out (by simp [live_ahead.l1])
       | succ k2 =>
        have H := HA.out
        clear HA
        simp only [live_ahead.l1] at H
        by_cases c18 : x12_2 ≥ a3
        ·rw [zC c18] at H
         have c18b0 : decide (a3 ≤ x12_2) = true := zF c18
         clear c18
         by_cases c19 : 0 ≤ a2
         ·rw [zC c19] at H
          have c19b0 := zF c19
          clear c19
          by_cases c20 : a2 < (l0_3.length : Int)
          ·rw [zC c20] at H
           have c20b0 := zF c20
           clear c20
           by_cases c21 : 0 ≤ x12_2
           ·rw [zC c21] at H
            have c21b0 := zF c21
            clear c21
            by_cases c22 : x12_2 < ((rd_LIns l0_3 a2).length : Int)
            ·rw [zC c22] at H
             have c22b0 := zF c22
             clear c22
             replace H := qb H; obtain ⟨t349, A23, H⟩ := H
             have H' := zA H
             clear H
             have z24_0 := bk4 BK340.out
             have p347 : 0 ≤ (a2 : Int) := zB qA
             have q347 : a2 < (l0_3.length : Int) := zB qA
             obtain ⟨ad347, A347_0, c347_0, e347, hx347_0, hl347_0, hi347_0⟩ := at_LIns HR0_3.out a2 p347 q347
             obtain rfl : ad346 = ad347 := (by injection e347)
             replace hx347_0 := (HB.out.cell (zE w _ hx347_0)).trans hx347_0
             have HR347_0 := zA hi347_0
             have HC347_0 := zA hl347_0
             clear hi347_0 hl347_0
             replace p347 := eq_true p347
             replace q347 := eq_true q347
             have p348 : 0 ≤ (x12_2 : Int) := zB qA
             have q348 : x12_2 < ((rd_LIns l0_3 a2).length : Int) := zB qA
             obtain ⟨ad348, A348_5, c348_5, e348, hx348_0, hx348_1, hx348_2, hx348_3, hx348_4, hx348_5, hl348_5, hi348_5⟩ := at_TIns HR347_0.out x12_2 p348 q348
             cases e348
             replace hx348_0 := (HB.out.cell (zE w _ hx348_0)).trans hx348_0
             replace hx348_1 := (HB.out.cell (zE w _ hx348_1)).trans hx348_1
             replace hx348_2 := (HB.out.cell (zE w _ hx348_2)).trans hx348_2
             replace hx348_3 := (HB.out.cell (zE w _ hx348_3)).trans hx348_3
             replace hx348_4 := (HB.out.cell (zE w _ hx348_4)).trans hx348_4
             replace hx348_5 := (HB.out.cell (zE w _ hx348_5)).trans hx348_5
             have HR348_5 := zA hi348_5
             have HC348_5 := zA hl348_5
             clear hi348_5 hl348_5
             replace p348 := eq_true p348
             replace q348 := eq_true q348
             go_wp2_with (first | ((with_reducible refine gate_callee (f := 155) rfl ?_); refine goesL_ (some 50) rfl rfl Tryd.func155 (by kernel_rfl) rfl #[.agg #[.int .i64 ((rd_TIns (rd_LIns l0_3 a2) x12_2).f0), .int .i64 ((rd_TIns (rd_LIns l0_3 a2) x12_2).f1), .int .i64 ((rd_TIns (rd_LIns l0_3 a2) x12_2).f2), .int .i64 ((rd_TIns (rd_LIns l0_3 a2) x12_2).f3), .string ((rd_TIns (rd_LIns l0_3 a2) x12_2).f4), .slice A348_5 ((rd_TIns (rd_LIns l0_3 a2) x12_2).f5).length c348_5], .int .u64 x9_2] rfl qL ?_; (with_reducible refine (live_through.calls k2 ((rd_TIns (rd_LIns l0_3 a2) x12_2).f0) ((rd_TIns (rd_LIns l0_3 a2) x12_2).f1) ((rd_TIns (rd_LIns l0_3 a2) x12_2).f2) ((rd_TIns (rd_LIns l0_3 a2) x12_2).f3) ((rd_TIns (rd_LIns l0_3 a2) x12_2).f4) _ _ ((rd_TIns (rd_LIns l0_3 a2) x12_2).f5) x9_2 t349 _ ?side1 ?side2 A23.out (hL := ?side99)).mono ?_); (case side1 => exact qCB HR348_5.out); (case side2 => exact HC348_5.out); (case side99 => exact LaidW.below HLd.out qB); rintro e w25 ⟨rfl, hb⟩; refine ⟨_, rfl, ?_⟩; replace BK340 := qW BK340 hb; replace HB := qH hb; (try clear hb)))
             go_roundg k2
             case measure => have := HK1.out; have := HK2.out; omega
             case rel => exact ⟨(t349), (wrap64 (x12_2 - 1)), qT, qT, H', ⟨by have := HK1.out; have := HK2.out; omega⟩, ⟨qK BK340.out⟩, ⟨qB⟩⟩
            ·rw [zD c22] at H
             exact absurd H (by simp)
           ·rw [zD c21] at H
            exact absurd H (by simp)
          ·rw [zD c20] at H
           exact absurd H (by simp)
         ·rw [zD c19] at H
          exact absurd H (by simp)
        ·rw [zD c18] at H
         have c18b0 : decide (a3 ≤ x12_2) = false := zG c18
         clear c18
         obtain rfl := zI H
         go_wp2
         go_ret
         exact ⟨qE, qB⟩
     ·rw [zD c16] at H
      exact absurd H (by simp)
    ·rw [zD c15] at H
     exact absurd H (by simp)

mutual
def live_sets.l0 : Nat → List Int → Bool → ByteArray → Int → Int → List (List (SIns)) → Option (List Int)
 | 0, _, _, _, _, _, _ => none
 | k + 1, x3, x4, x351000, x351001, x351002, x351003 => if x4 = true then (live_sets.l1 k x3 false (wrap64 ((x351003.length : Int) - 1)) x351000 x351001 x351002 x351003) else (some x3)
def live_sets.l1 : Nat → List Int → Bool → Int → ByteArray → Int → Int → List (List (SIns)) → Option (List Int)
 | 0, _, _, _, _, _, _, _ => none
 | k + 1, x3, x4, x5, x351000, x351001, x351002, x351003 => if x5 ≥ 0 then ((live_ahead.f k x351000 x351001 x351002 x351003 x3 x5 0).bind fun t354 => (if x4 = true then (if 0 ≤ x5 then (if x5 < (x3.length : Int) then (live_sets.l1 k (x3.set (x5 : Int).toNat t354) true (wrap64 (x5 - 1)) x351000 x351001 x351002 x351003) else (none)) else (none)) else (if 0 ≤ x5 then (if x5 < (x3.length : Int) then (live_sets.l1 k (x3.set (x5 : Int).toNat t354) (t354 != (rd x3 x5)) (wrap64 (x5 - 1)) x351000 x351001 x351002 x351003) else (none)) else (none)))) else (live_sets.l0 k x3 x4 x351000 x351001 x351002 x351003)
end
def live_sets.f (k : Nat) (a0_0 : ByteArray) (a0_1 : Int) (a0_2 : Int) (l0_3 : List (List (SIns))) : Option (List Int) := if 0 ≤ (l0_3.length : Int) then (if ((l0_3.length : Int) : Int).toNat ≤ 35184372088832 then (live_sets.l0 k (List.replicate ((l0_3.length : Int) : Int).toNat 0) true a0_0 a0_1 a0_2 l0_3) else (none)) else (none)
set_option maxHeartbeats 8000000 in
set_option maxRecDepth 100000 in
theorem live_sets.calls (k : Nat) (a0_0 : ByteArray) (a0_1 : Int) (a0_2 : Int) (A0_3 : Option Addr) (c0_3 : Nat) (l0_3 : List (List (SIns))) (r : List Int) (w : World) (hL : LaidW w) (hr0_3 : Kd.C (Kd.slice 38 kIns) w A0_3 l0_3.length l0_3) (hc0_3 : l0_3.length ≤ c0_3) (h : live_sets.f k a0_0 a0_1 a0_2 l0_3 = some r) :
 Calls Tryd.prog 79 #[.agg #[.string a0_0, .int .i64 a0_1, .int .i64 a0_2, .slice A0_3 l0_3.length c0_3]] w fun e w' => ∃ v0_ : Value, e = .returned (v0_) ∧ Kd.R (Kd.int .u64) 121 w' w.heap.size (fun _ => True) v0_ r ∧ Below w.heap.size w w' := by
 have hu24 := Tryd.underlying24
 have HR0_3 := zA hr0_3
 have HC0_3 := zA hc0_3
 clear hr0_3 hc0_3
 have HB := zA (Below.refl w.heap.size w)
 have HLd := zA hL
 clear hL
 have H := h; clear h; unfold live_sets.f at H
 by_cases c2 : 0 ≤ (l0_3.length : Int)
 ·rw [zC c2] at H
  have c2b0 := eq_true c2
  have c2b1 := zF c2
  clear c2
  by_cases c3 : ((l0_3.length : Int) : Int).toNat ≤ 35184372088832
  ·rw [zC c3] at H
   have c3b0 := eq_true c3
   have c3b1 := zF c3
   clear c3
   obtain ⟨y351, hy351⟩ : ∃ y_ : List Int, y_ = (List.replicate ((l0_3.length : Int) : Int).toNat 0) := ⟨_, rfl⟩
   replace H : (live_sets.l0 k y351 true a0_0 a0_1 a0_2 l0_3) = some r := by (try rw [hy351]); first | with_reducible exact H | exact (zJ _ _).symm.trans H | exact H
   have Ny351 := zA hy351
   clear hy351
   have H' := zA H
   clear H
   go_enter Tryd.func79, Tryd.ntmps79
   go_wp2_with (first | ((with_reducible refine gate_dst (N := 1) rfl ?_); refine box_event (by rfl) (N := 1) (by rfl) (cs := #[.string a0_0, .int .i64 a0_1, .int .i64 a0_2, .slice A0_3 l0_3.length c0_3]) (t := 24) ?hr ?_; (case hr => go_simp <;> rfl); intro gb350 hg w4 hbox hb; have BK350 := zA (hbox); have GW350 := qG hg; have GE350 := GW350; replace HB := qH hb; clear hb hbox hg; have z5_0 := bk4 BK350.out) | ((with_reducible refine gate_dst (N := 10) rfl ?_); refine Kd.R_make (Kd.int .u64) _ 121 rfl (N := 10) rfl 122 _ _ rfl (l0_3.length : Int) rfl rfl Tryd.underlying122 (.int .u64 0) 8 info121 rfl (by decide) (by omega) 0 (ok := fun _ => True) (okp := fun _ => True) rfl (fun _ hk => hk) trivial (zB qA) (Nat.le_trans (Nat.mul_le_mul_right _ (zB qA : (l0_3.length : Int).toNat ≤ 35184372088832)) (by omega)) (Below.refl _ _) (Nat.le_refl _) ?_; intro v352 w6 ho7 hb hg_ hnew_; clear hg_ hnew_; (first | rw [← Ny351.out] at ho7 | (simp only [Int.reduceToNat] at ho7; rw [← Ny351.out] at ho7)); have HO353 := zA (Kd.R_lower ho7 (below_size qB)); replace BK350 := qW BK350 hb; replace HB := qH hb; clear hb ho7))
   go_loopg [4] k (fun kq v4 w' => ∃ (x3_1 : List Int) (x4_1 : Bool), v4 = .bool x4_1 ∧ Aside0 (live_sets.l0 kq x3_1 x4_1 a0_0 a0_1 a0_2 l0_3 = some r) ∧ Aside0 (kq ≤ k) ∧ Aside0 (Kd.R (Kd.int .u64) 121 w' w.heap.size (fun _ => True) v352 x3_1) ∧ Aside0 (w'.heap[gb350]? = some (.cells #[.string a0_0, .int .i64 a0_1, .int .i64 a0_2, (.slice A0_3 l0_3.length c0_3)] 24 (0, 0))) ∧ Aside0 (Below w.heap.size w w'))
   case atStart => exact ⟨(y351), (true), qT, H', ⟨Nat.le_refl _⟩, ⟨qR HO353.out⟩, ⟨qK BK350.out⟩, ⟨qB⟩⟩
   case round =>
    clear H'
    obtain ⟨x3_1, x4_1, rfl, HA, HK1, HO_3, BK350, HB⟩ := hrel
    cases gk with
    | zero => exact absurd HA.out (by simp [live_sets.l0])
    | succ k1 =>
     have H := HA.out
     clear HA
     simp only [live_sets.l0] at H
     by_cases c8 : x4_1 = true
     ·subst c8
      have H1 : (live_sets.l1 k1 x3_1 false (wrap64 ((l0_3.length : Int) - 1)) a0_0 a0_1 a0_2 l0_3) = some r := by rw [zC rfl] at H; exact H
      clear H
      have H := H1
      clear H1
      have H' := zA H
      clear H
      have z9_0 := bk4 BK350.out
      go_wp2
      go_loopg [4, 5] k1 (fun kq v4 v5 w' => ∃ (x3_2 : List Int) (x4_2 : Bool) (x5_2 : Int), v4 = .bool x4_2 ∧ v5 = .int .i64 x5_2 ∧ Aside0 (live_sets.l1 kq x3_2 x4_2 x5_2 a0_0 a0_1 a0_2 l0_3 = some r) ∧ Aside0 (kq ≤ k1) ∧ Aside0 (Kd.R (Kd.int .u64) 121 w' w.heap.size (fun _ => True) v352 x3_2) ∧ Aside0 (w'.heap[gb350]? = some (.cells #[.string a0_0, .int .i64 a0_1, .int .i64 a0_2, (.slice A0_3 l0_3.length c0_3)] 24 (0, 0))) ∧ Aside0 (Below w.heap.size w w'))
      case atStart => exact ⟨(x3_1), (false), (wrap64 ((l0_3.length : Int) - 1)), qT, qT, H', ⟨Nat.le_refl _⟩, ⟨qR HO_3.out⟩, ⟨qK BK350.out⟩, ⟨qB⟩⟩
      case round =>
       clear H'
       obtain ⟨x3_2, x4_2, x5_2, rfl, rfl, HA, HK2, HO_3, BK350, HB⟩ := hrel
       cases gk with
       | zero => exact absurd HA.out (by simp [live_sets.l1])
       | succ k2 =>
        have H := HA.out
        clear HA
        simp only [live_sets.l1] at H
        by_cases c10 : x5_2 ≥ 0
        ·rw [zC c10] at H
         have c10b0 : decide (0 ≤ x5_2) = true := zF c10
         clear c10
         replace H := qb H; obtain ⟨t354, A11, H⟩ := H
         by_cases c12 : x4_2 = true
         ·subst c12
          have H1 : (if 0 ≤ x5_2 then (if x5_2 < (x3_2.length : Int) then (live_sets.l1 k2 (x3_2.set (x5_2 : Int).toNat t354) true (wrap64 (x5_2 - 1)) a0_0 a0_1 a0_2 l0_3) else (none)) else (none)) = some r := by rw [zC rfl] at H; exact H
          clear H
          have H := H1
          clear H1
          by_cases c13 : 0 ≤ x5_2
          ·rw [zC c13] at H
           have c13b0 := zF c13
           clear c13
           by_cases c14 : x5_2 < (x3_2.length : Int)
           ·rw [zC c14] at H
            have c14b0 := zF c14
            clear c14
            obtain ⟨y355, hy355⟩ : ∃ y_ : List Int, y_ = (x3_2.set (x5_2 : Int).toNat t354) := ⟨_, rfl⟩
            replace H : (live_sets.l1 k2 y355 true (wrap64 (x5_2 - 1)) a0_0 a0_1 a0_2 l0_3) = some r := by (try rw [hy355]); first | with_reducible exact H | exact (zJ _ _).symm.trans H | exact H
            have Ny355 := zA hy355
            clear hy355
            have H' := zA H
            clear H
            have z16_0 := bk4 BK350.out
            obtain ⟨Ao17, co17, eo17⟩ := Kd.R_slice HO_3.out
            subst eo17
            go_wp2_with (first | ((with_reducible refine gate_callee (f := 119) rfl ?_); refine goesL_ (some 23) rfl rfl Tryd.func119 (by kernel_rfl) rfl #[.agg #[.string a0_0, .int .i64 a0_1, .int .i64 a0_2, .slice A0_3 l0_3.length c0_3], .slice Ao17 x3_2.length co17, .int .i64 x5_2, .int .i64 0] rfl qL ?_; (with_reducible refine (live_ahead.calls k2 a0_0 a0_1 a0_2 _ _ l0_3 _ _ x3_2 x5_2 0 t354 _ ?side1 ?side2 ?side3 ?side4 A11.out (hL := ?side99)).mono ?_); (case side1 => exact qCB HR0_3.out); (case side2 => exact HC0_3.out); (case side3 => repeat (first | exact (Kd.R_reads' HO_3.out).2.2 | (with_reducible refine Kd.C_alloc ?_ _) | (with_reducible refine Kd.C_drewN ?_ _) | (with_reducible refine Kd.C_drew ?_))); (case side4 => exact (Kd.R_reads' HO_3.out).2.1); (case side99 => exact LaidW.below HLd.out qB); rintro e w18 ⟨rfl, hb⟩; refine ⟨_, rfl, ?_⟩; replace HO_3 := zA (Kd.R_below (qR HO_3.out) hb); replace BK350 := qW BK350 hb; replace HB := qH hb; (try clear hb); have p15 : 0 ≤ (x5_2 : Int) := zB qA; have q15 : (x5_2 : Int) < ((x3_2.length : Int) : Int) := zB qA; obtain ⟨go15, co15, eo15, gb15, gl15, cl15, HG15⟩ := Kd.R_form HO_3.out (by omega); (first | cases eo15 | (injection eo15 with ea_ en_ ec_; (first | subst ea_ | (injection ea_ with ea_; subst ea_)); subst ec_; clear en_)); have GB15 := zA gb15; have GG15 := zA HG15; clear gb15 gl15 HG15; obtain ⟨hx15_0, hf15_0⟩ := Kd.R_celln 0 HO_3.out (x5_2 : Int) p15 q15; replace p15 := eq_true p15; replace q15 := eq_true q15; obtain ⟨hy19_, hz19_⟩ := Kd.R_celln 0 HO_3.out (x5_2 : Int) (zB qA) (zB qA); have HP19 := Kd.R_putg HO_3.out (x5_2 : Int) t354) | ((with_reducible refine gate_store (t := 121) (p := 36) rfl ?_); refine store_event (t := 121) (p := 36) (v := ?vo_w20) (w1 := (w18.setCell ⟨go15, (x5_2 : Int).toNat, none⟩ (.int .u64 t354))) (by rfl) (by rfl) (by rfl) ?hr ?_; (case hr => go_simp <;> rfl); intro w20 hw; have hg : w18.grownBy w20 (some go15) := (by rw [hw]; exact HP19.2); have hp_ : Kd.R (Kd.int .u64) 121 w20 w.heap.size (fun _ => True) (.slice (some ⟨go15, 0, none⟩) x3_2.length co17) y355 := (by rw [hw, Ny355.out]; exact HP19.1); clear HP19; replace BK350 := zA (blk_grown (qK BK350.out) hg (Kd.R_ne HO_3.out BK350.out (by decide))); replace HO_3 := zA (hp_); replace HB := zA ((by rw [hw]; exact below_set (HB.out) GB15.out : Below w.heap.size w w20)); clear hg hw hp_))
            go_roundg k2
            case measure => have := HK1.out; have := HK2.out; omega
            case rel => exact ⟨(y355), (true), (wrap64 (x5_2 - 1)), qT, qT, H', ⟨by have := HK1.out; have := HK2.out; omega⟩, ⟨qR HO_3.out⟩, ⟨qK BK350.out⟩, ⟨qB⟩⟩
           ·rw [zD c14] at H
            exact absurd H (by simp)
          ·rw [zD c13] at H
           exact absurd H (by simp)
         ·replace c12 := Bool.eq_false_iff.mpr c12
          subst c12
          have H1 : (if 0 ≤ x5_2 then (if x5_2 < (x3_2.length : Int) then (live_sets.l1 k2 (x3_2.set (x5_2 : Int).toNat t354) (t354 != (rd x3_2 x5_2)) (wrap64 (x5_2 - 1)) a0_0 a0_1 a0_2 l0_3) else (none)) else (none)) = some r := by rw [zD (show ¬ (false = true) by decide)] at H; exact H
          clear H
          have H := H1
          clear H1
          by_cases c21 : 0 ≤ x5_2
          ·rw [zC c21] at H
           have c21b0 := zF c21
           clear c21
           by_cases c22 : x5_2 < (x3_2.length : Int)
           ·rw [zC c22] at H
            have c22b0 := zF c22
            clear c22
            obtain ⟨y357, hy357⟩ : ∃ y_ : List Int, y_ = (x3_2.set (x5_2 : Int).toNat t354) := ⟨_, rfl⟩
            replace H : (live_sets.l1 k2 y357 (t354 != (rd x3_2 x5_2)) (wrap64 (x5_2 - 1)) a0_0 a0_1 a0_2 l0_3) = some r := by (try rw [hy357]); first | with_reducible exact H | exact (zJ _ _).symm.trans H | exact H
            have Ny357 := zA hy357
            clear hy357
            have H' := zA H
            clear H
            have z24_0 := bk4 BK350.out
            obtain ⟨Ao25, co25, eo25⟩ := Kd.R_slice HO_3.out
            subst eo25
            go_wp2_with (first | ((with_reducible refine gate_callee (f := 119) rfl ?_); refine goesL_ (some 23) rfl rfl Tryd.func119 (by kernel_rfl) rfl #[.agg #[.string a0_0, .int .i64 a0_1, .int .i64 a0_2, .slice A0_3 l0_3.length c0_3], .slice Ao25 x3_2.length co25, .int .i64 x5_2, .int .i64 0] rfl qL ?_; (with_reducible refine (live_ahead.calls k2 a0_0 a0_1 a0_2 _ _ l0_3 _ _ x3_2 x5_2 0 t354 _ ?side1 ?side2 ?side3 ?side4 A11.out (hL := ?side99)).mono ?_); (case side1 => exact qCB HR0_3.out); (case side2 => exact HC0_3.out); (case side3 => repeat (first | exact (Kd.R_reads' HO_3.out).2.2 | (with_reducible refine Kd.C_alloc ?_ _) | (with_reducible refine Kd.C_drewN ?_ _) | (with_reducible refine Kd.C_drew ?_))); (case side4 => exact (Kd.R_reads' HO_3.out).2.1); (case side99 => exact LaidW.below HLd.out qB); rintro e w26 ⟨rfl, hb⟩; refine ⟨_, rfl, ?_⟩; replace HO_3 := zA (Kd.R_below (qR HO_3.out) hb); replace BK350 := qW BK350 hb; replace HB := qH hb; (try clear hb); have p356 : 0 ≤ (x5_2 : Int) := zB qA; have q356 : x5_2 < (x3_2.length : Int) := zB qA; obtain ⟨ad356, e356, hx356_0⟩ := Kd.at_int (Kd.R_reads' HO_3.out).2.2 x5_2 p356 q356; cases e356; replace p356 := eq_true p356; replace q356 := eq_true q356; have p23 : 0 ≤ (x5_2 : Int) := zB qA; have q23 : (x5_2 : Int) < ((x3_2.length : Int) : Int) := zB qA; obtain ⟨go23, co23, eo23, gb23, gl23, cl23, HG23⟩ := Kd.R_form HO_3.out (by omega); (first | cases eo23 | (injection eo23 with ea_ en_ ec_; (first | subst ea_ | (injection ea_ with ea_; subst ea_)); subst ec_; clear en_)); have GB23 := zA gb23; have GG23 := zA HG23; clear gb23 gl23 HG23; (first | simp only [add_plain] at hx356_0 | skip); obtain ⟨hx23_0, hf23_0⟩ := Kd.R_celln 0 HO_3.out (x5_2 : Int) p23 q23; replace p23 := eq_true p23; replace q23 := eq_true q23; obtain ⟨hy27_, hz27_⟩ := Kd.R_celln 0 HO_3.out (x5_2 : Int) (zB qA) (zB qA); have HP27 := Kd.R_putg HO_3.out (x5_2 : Int) t354) | ((with_reducible refine gate_store (t := 121) (p := 36) rfl ?_); refine store_event (t := 121) (p := 36) (v := ?vo_w28) (w1 := (w26.setCell ⟨go23, (x5_2 : Int).toNat, none⟩ (.int .u64 t354))) (by rfl) (by rfl) (by rfl) ?hr ?_; (case hr => go_simp <;> rfl); intro w28 hw; have hg : w26.grownBy w28 (some go23) := (by rw [hw]; exact HP27.2); have hp_ : Kd.R (Kd.int .u64) 121 w28 w.heap.size (fun _ => True) (.slice (some ⟨go23, 0, none⟩) x3_2.length co25) y357 := (by rw [hw, Ny357.out]; exact HP27.1); clear HP27; replace BK350 := zA (blk_grown (qK BK350.out) hg (Kd.R_ne HO_3.out BK350.out (by decide))); replace HO_3 := zA (hp_); replace HB := zA ((by rw [hw]; exact below_set (HB.out) GB23.out : Below w.heap.size w w28)); clear hg hw hp_))
            go_roundg k2
            case measure => have := HK1.out; have := HK2.out; omega
            case rel => exact ⟨(y357), ((t354 != (rd x3_2 x5_2))), (wrap64 (x5_2 - 1)), qT, qT, H', ⟨by have := HK1.out; have := HK2.out; omega⟩, ⟨qR HO_3.out⟩, ⟨qK BK350.out⟩, ⟨qB⟩⟩
           ·rw [zD c22] at H
            exact absurd H (by simp)
          ·rw [zD c21] at H
           exact absurd H (by simp)
        ·rw [zD c10] at H
         have c10b0 : decide (0 ≤ x5_2) = false := zG c10
         clear c10
         have H' := zA H
         clear H
         go_wp2
         go_roundg k2
         case measure => have := HK1.out; have := HK2.out; omega
         case rel => exact ⟨(x3_2), (x4_2), qT, H', ⟨by have := HK1.out; have := HK2.out; omega⟩, ⟨qR HO_3.out⟩, ⟨qK BK350.out⟩, ⟨qB⟩⟩
     ·replace c8 := Bool.eq_false_iff.mpr c8
      subst c8
      have H1 : (some x3_1) = some r := by rw [zD (show ¬ (false = true) by decide)] at H; exact H
      clear H
      have H := H1
      clear H1
      obtain rfl := zI H
      go_wp2
      go_ret
      exact ⟨_, qE, qR HO_3.out, qB⟩
  ·rw [zD c3] at H
   exact absurd H (by simp)
 ·rw [zD c2] at H
  exact absurd H (by simp)

def live_Check.f (k : Nat) (a0_0 : ByteArray) (a0_1 : Int) (a0_2 : Int) (l0_3 : List (List (SIns))) : Option (Int) := (ir_Check.f k a0_0 a0_1 a0_2 l0_3).bind fun t359 => (if t359 = 0 then ((live_sets.f k a0_0 a0_1 a0_2 l0_3).bind fun t360 => (if 0 < (t360.length : Int) then (if 0 ≤ (IntKind.u64.wrap (a0_1)) then (if (shr .u64 (rd t360 0) (IntKind.u64.wrap (a0_1))) = 0 then (some 0) else (some 110)) else (none)) else (none))) else (some t359))
def live_Check.T4 : Bool × List (List Nat × List Nat) := (true, [([], []), ([0], [0]), ([1], [1]), ([2], [2]), ([], []), ([4], [4]), ([5], [5]), ([3, 6], [3, 6]), ([7], [7])])
def live_Check.B4 : List Nat := [0, 1, 3, 7, 0, 16, 48, 127, 255]
theorem live_Check.tab4 : rtab .any (opsOf Tryd.f39 4) = live_Check.T4 := by kernel_rfl
theorem live_Check.bits4 : waitsOk live_Check.T4.2 live_Check.B4 = true := by kernel_rfl
theorem live_Check.one_value {P : Program} {ops : Array Oper} {Q : Exit → Act → World → Prop} {oi : Oper} {N : Option Tmp} {a : Act} {w : World} {K : Act → World → Prop} (v : Value) (hw : Region.wanted oi (yielded ops a.tmps) = true) (hN : oi.dst = N) (hrun : (execOp a.eval oi).run P w = .ok (.value v) w) (h : K (a.put N v) w) :
 if Region.wanted oi (yielded ops a.tmps) = true then Oper.wp P oi a w K Q else K (a.put N undef) w := by
 rw [zC hw]
 unfold Oper.wp
 rw [hrun, Oper.upon_value, hN]
 exact h
set_option maxHeartbeats 8000000 in
set_option maxRecDepth 100000 in
theorem live_Check.calls (k : Nat) (a0_0 : ByteArray) (a0_1 : Int) (a0_2 : Int) (A0_3 : Option Addr) (c0_3 : Nat) (l0_3 : List (List (SIns))) (r : Int) (w : World) (hL : LaidW w) (hr0_3 : Kd.C (Kd.slice 38 kIns) w A0_3 l0_3.length l0_3) (hc0_3 : l0_3.length ≤ c0_3) (h : live_Check.f k a0_0 a0_1 a0_2 l0_3 = some r) :
 Calls Tryd.prog 39 #[.agg #[.string a0_0, .int .i64 a0_1, .int .i64 a0_2, .slice A0_3 l0_3.length c0_3]] w fun e w' => e = .returned (.int .i64 r) ∧ Below w.heap.size w w' := by
 have hu24 := Tryd.underlying24
 have HR0_3 := zA hr0_3
 have HC0_3 := zA hc0_3
 clear hr0_3 hc0_3
 have HB := zA (Below.refl w.heap.size w)
 have HLd := zA hL
 clear hL
 have H := h; clear h; unfold live_Check.f at H
 replace H := qb H; obtain ⟨t359, A2, H⟩ := H
 by_cases c3 : t359 = 0
 ·rw [zC c3] at H
  obtain ⟨c3b0, c3b1⟩ := qe c3; clear c3
  replace H := qb H; obtain ⟨t360, A4, H⟩ := H
  by_cases c5 : 0 < (t360.length : Int)
  ·rw [zC c5] at H
   have c5b0 := zF c5
   have c5b1 : decide (0 < t360.length) = true := zF (by omega)
   clear c5
   obtain ⟨ji6, hji6⟩ : ∃ j_ : Int, (IntKind.u64.wrap (a0_1)) = j_ := ⟨_, rfl⟩
   replace H : (if 0 ≤ (ji6) then (if (shr .u64 (rd t360 0) (ji6)) = 0 then (some 0) else (some 110)) else (none)) = some r := by first | (rw [hji6] at H; exact H) | (simp only [hji6] at H ⊢; exact H)
   (try rw [hji6] at A2)
   (try rw [hji6] at A4)
   by_cases c7 : 0 ≤ (ji6)
   ·rw [zC c7] at H
    have c7b0 := eq_true c7
    have c7b1 := zF c7
    clear c7
    obtain ⟨ji8, hji8⟩ : ∃ j_ : Int, (shr .u64 (rd t360 0) (ji6)) = j_ := ⟨_, rfl⟩
    replace H : (if (ji8) = 0 then (some 0) else (some 110)) = some r := by first | (rw [hji8] at H; exact H) | (simp only [hji8] at H ⊢; exact H)
    (try rw [hji8] at A2)
    (try rw [hji8] at A4)
    have hji8_ : ((rd t360 0) / 2 ^ min (ji6).toNat 64) = ji8 := hji8
    have hji8z : (ji6) ≤ 64 → ((rd t360 0) / 2 ^ (ji6).toNat) = ji8 := shr_small hji8
    by_cases c9 : (ji8) = 0
    ·rw [zC c9] at H
     obtain ⟨c9b0, c9b1⟩ := qe c9; clear c9
     obtain rfl := zI H
     go_enter Tryd.func39, Tryd.ntmps39
     try go_wp2_with (first | ((with_reducible refine gate_dst (N := 1) rfl ?_); refine box_event (by rfl) (N := 1) (by rfl) (cs := #[.string a0_0, .int .i64 a0_1, .int .i64 a0_2, .slice A0_3 l0_3.length c0_3]) (t := 24) ?hr ?_; (case hr => go_simp <;> rfl); intro gb358 hg w10 hbox hb; have BK358 := zA (hbox); have GW358 := qG hg; have GE358 := GW358; replace HB := qH hb; clear hb hbox hg; have z11_0 := bk4 BK358.out) | ((with_reducible refine gate_callee (f := 78) rfl ?_); refine goesL_ (some 5) rfl rfl Tryd.func78 (by kernel_rfl) rfl #[.agg #[.string a0_0, .int .i64 a0_1, .int .i64 a0_2, .slice A0_3 l0_3.length c0_3]] rfl qL ?_; (with_reducible refine (ir_Check.calls k a0_0 a0_1 a0_2 _ _ l0_3 t359 _ ?side1 ?side2 A2.out (hL := ?side99)).mono ?_); (case side1 => exact qCB HR0_3.out); (case side2 => exact HC0_3.out); (case side99 => exact LaidW.below HLd.out qB); rintro e w12 ⟨rfl, hb⟩; refine ⟨_, rfl, ?_⟩; replace BK358 := qW BK358 hb; replace HB := qH hb; (try clear hb)))
     have n0_ := zA (blk_drew BK358.out)
     have n1_ := zA (below_drew1 HB.out)
     clear BK358
     clear HB
     have BK358 := n0_
     have HB := n1_
     clear n0_ n1_
     refine start_ (n := 9) (S := fun w' => w'.cell? ⟨gb358, 0, none⟩ = some (.string a0_0) ∧ w'.cell? ⟨gb358, 1, none⟩ = some (.int .i64 a0_1) ∧ w'.cell? ⟨gb358, 2, none⟩ = some (.int .i64 a0_2) ∧ w'.cell? ⟨gb358, 3, none⟩ = some (.slice A0_3 l0_3.length c0_3)) (ds := []) (bA 9 0) (by kernel_rfl) rfl rfl ⟨(blk_cell BK358.out 0).trans rfl, (blk_cell BK358.out 1).trans rfl, (blk_cell BK358.out 2).trans rfl, (blk_cell BK358.out 3).trans rfl⟩ (fun hHeld => ?_); refine with_tabW live_Check.tab4 live_Check.bits4 (fun HT_ HW_ => ?_)
     generalize w12.drew = w13 at BK358 HB hHeld ⊢
     refine pu_ (i := 4) (N := some 13) (bA 9 16) ?_
     refine tk_ (i := 0) (N := some 9) (bA 9 17) ?_
     refine tk_ (i := 5) (N := some 14) (bA 9 49) ?_
     refine pu_ (i := 6) (N := some 15) (bA 9 113) ?_
     refine one_ (i := 1) (N := some 10) (bA 9 115) rfl rfl (one_of HT_.out (by kernel_rfl)) (by decide) (fun K hK => ?_)
     refine goes_ Tryd.func79 (by kernel_rfl) rfl #[.agg #[.string a0_0, .int .i64 a0_1, .int .i64 a0_2, .slice A0_3 l0_3.length c0_3]] (by rfl) rfl rfl qL ?_
     with_reducible refine (live_sets.calls k a0_0 a0_1 a0_2 _ _ l0_3 t360 _ ?side1 ?side2 A4.out (hL := ?side99)).mono ?_
     (case side1 => exact qCB HR0_3.out)
     (case side2 => exact HC0_3.out)
     (case side99 => exact LaidW.below HLd.out qB)
     rintro e w14 ⟨v361, rfl, ho0, hb⟩
     refine ⟨_, rfl, ?_⟩
     have n0_ := zA (Kd.R_lower ho0 (below_size qB))
     have n1_ := qW BK358 hb
     have n2_ := qH hb
     clear BK358
     clear HB
     have HO362 := n0_
     have BK358 := n1_
     have HB := n2_
     clear n0_ n1_ n2_
     (try clear hb)
     (try clear hb2)
     (try clear hk)
     (try clear hi)
     (try clear ho0)
     obtain ⟨Ao15, co15, eo15⟩ := Kd.R_slice HO362.out
     (first | subst eo15 | (injection eo15 with f1_ f2_ f3_; have f4_ := f1_.symm; have f5_ := f3_.symm; clear f1_ f2_ f3_; subst f4_; subst f5_))
     have p363 : 0 ≤ (0 : Int) := (by omega)
     have q363 : 0 < (t360.length : Int) := zB qA
     obtain ⟨ad363, e363, hx363_0⟩ := Kd.at_int (Kd.R_reads' HO362.out).2.2 0 p363 q363
     cases e363
     have qi363 : (0 < t360.length) = True := eq_true (by omega)
     (try rw [show ((0 : Int)).toNat = 0 from rfl] at hx363_0)
     (try rw [Addr.add_zero'] at hx363_0)
     replace p363 := eq_true p363
     replace q363 := eq_true q363
     refine hK.out _ _ ⟨(blk_cell BK358.out 0).trans rfl, (blk_cell BK358.out 1).trans rfl, (blk_cell BK358.out 2).trans rfl, (blk_cell BK358.out 3).trans rfl⟩ (fun hHeld => ?_)
     clear hK K
     refine norm_ (a' := ?_) ?_ ?_
     rotate_left
     ·show Act.put _ (some 10) _ = _
      simp only [Act.put, List.setIfInBounds_toArray, List.set_cons_zero, List.set_cons_succ, i64_w, i32_w]
      rfl
     refine pu_ (i := 2) (N := some 11) (bA 9 119) ?_
     refine one_ (i := 3) (N := some 12) (bA 9 127) rfl rfl (one_of HT_.out (by kernel_rfl)) (by decide) (fun K hK => ?_)
     refine live_Check.one_value (.int .u64 (rd t360 0)) rfl rfl (by first | (go_simp; done) | (go_simp; with_reducible rfl)) ?_
     refine hK.out _ _ ⟨(blk_cell BK358.out 0).trans rfl, (blk_cell BK358.out 1).trans rfl, (blk_cell BK358.out 2).trans rfl, (blk_cell BK358.out 3).trans rfl⟩ (fun hHeld => ?_)
     clear hK K
     refine norm_ (a' := ?_) ?_ ?_
     rotate_left
     ·show Act.put _ (some 12) _ = _
      simp only [Act.put, List.setIfInBounds_toArray, List.set_cons_zero, List.set_cons_succ, i64_w, i32_w]
      rfl
     refine pu_ (i := 7) (N := some 16) (bA 9 255) ?_
     refine pu_ (i := 8) (N := some 17) (bA 9 511) ?_
     refine done_ (done_of HT_.out (by kernel_rfl)) ?_
     try go_wp2
     go_ret
     exact ⟨by first | rfl | (simp [errW_none, errW_some] <;> rfl) | (simp only [← hji6, ← hji8]; first | rfl | (simp [errW_none, errW_some] <;> rfl)) | (simp [*, errW_none, errW_some] <;> rfl), qB⟩
    ·rw [zD c9] at H
     obtain ⟨c9b0, c9b1⟩ := qn c9
     obtain rfl := zI H
     go_enter Tryd.func39, Tryd.ntmps39
     try go_wp2_with (first | ((with_reducible refine gate_dst (N := 1) rfl ?_); refine box_event (by rfl) (N := 1) (by rfl) (cs := #[.string a0_0, .int .i64 a0_1, .int .i64 a0_2, .slice A0_3 l0_3.length c0_3]) (t := 24) ?hr ?_; (case hr => go_simp <;> rfl); intro gb358 hg w16 hbox hb; have BK358 := zA (hbox); have GW358 := qG hg; have GE358 := GW358; replace HB := qH hb; clear hb hbox hg; have z17_0 := bk4 BK358.out) | ((with_reducible refine gate_callee (f := 78) rfl ?_); refine goesL_ (some 5) rfl rfl Tryd.func78 (by kernel_rfl) rfl #[.agg #[.string a0_0, .int .i64 a0_1, .int .i64 a0_2, .slice A0_3 l0_3.length c0_3]] rfl qL ?_; (with_reducible refine (ir_Check.calls k a0_0 a0_1 a0_2 _ _ l0_3 t359 _ ?side1 ?side2 A2.out (hL := ?side99)).mono ?_); (case side1 => exact qCB HR0_3.out); (case side2 => exact HC0_3.out); (case side99 => exact LaidW.below HLd.out qB); rintro e w18 ⟨rfl, hb⟩; refine ⟨_, rfl, ?_⟩; replace BK358 := qW BK358 hb; replace HB := qH hb; (try clear hb)))
     have n0_ := zA (blk_drew BK358.out)
     have n1_ := zA (below_drew1 HB.out)
     clear BK358
     clear HB
     have BK358 := n0_
     have HB := n1_
     clear n0_ n1_
     refine start_ (n := 9) (S := fun w' => w'.cell? ⟨gb358, 0, none⟩ = some (.string a0_0) ∧ w'.cell? ⟨gb358, 1, none⟩ = some (.int .i64 a0_1) ∧ w'.cell? ⟨gb358, 2, none⟩ = some (.int .i64 a0_2) ∧ w'.cell? ⟨gb358, 3, none⟩ = some (.slice A0_3 l0_3.length c0_3)) (ds := []) (bA 9 0) (by kernel_rfl) rfl rfl ⟨(blk_cell BK358.out 0).trans rfl, (blk_cell BK358.out 1).trans rfl, (blk_cell BK358.out 2).trans rfl, (blk_cell BK358.out 3).trans rfl⟩ (fun hHeld => ?_); refine with_tabW live_Check.tab4 live_Check.bits4 (fun HT_ HW_ => ?_)
     generalize w18.drew = w19 at BK358 HB hHeld ⊢
     refine pu_ (i := 4) (N := some 13) (bA 9 16) ?_
     refine tk_ (i := 0) (N := some 9) (bA 9 17) ?_
     refine tk_ (i := 5) (N := some 14) (bA 9 49) ?_
     refine pu_ (i := 6) (N := some 15) (bA 9 113) ?_
     refine one_ (i := 1) (N := some 10) (bA 9 115) rfl rfl (one_of HT_.out (by kernel_rfl)) (by decide) (fun K hK => ?_)
     refine goes_ Tryd.func79 (by kernel_rfl) rfl #[.agg #[.string a0_0, .int .i64 a0_1, .int .i64 a0_2, .slice A0_3 l0_3.length c0_3]] (by rfl) rfl rfl qL ?_
     with_reducible refine (live_sets.calls k a0_0 a0_1 a0_2 _ _ l0_3 t360 _ ?side1 ?side2 A4.out (hL := ?side99)).mono ?_
     (case side1 => exact qCB HR0_3.out)
     (case side2 => exact HC0_3.out)
     (case side99 => exact LaidW.below HLd.out qB)
     rintro e w20 ⟨v361, rfl, ho0, hb⟩
     refine ⟨_, rfl, ?_⟩
     have n0_ := zA (Kd.R_lower ho0 (below_size qB))
     have n1_ := qW BK358 hb
     have n2_ := qH hb
     clear BK358
     clear HB
     have HO362 := n0_
     have BK358 := n1_
     have HB := n2_
     clear n0_ n1_ n2_
     (try clear hb)
     (try clear hb2)
     (try clear hk)
     (try clear hi)
     (try clear ho0)
     obtain ⟨Ao21, co21, eo21⟩ := Kd.R_slice HO362.out
     (first | subst eo21 | (injection eo21 with f1_ f2_ f3_; have f4_ := f1_.symm; have f5_ := f3_.symm; clear f1_ f2_ f3_; subst f4_; subst f5_))
     have p363 : 0 ≤ (0 : Int) := (by omega)
     have q363 : 0 < (t360.length : Int) := zB qA
     obtain ⟨ad363, e363, hx363_0⟩ := Kd.at_int (Kd.R_reads' HO362.out).2.2 0 p363 q363
     cases e363
     have qi363 : (0 < t360.length) = True := eq_true (by omega)
     (try rw [show ((0 : Int)).toNat = 0 from rfl] at hx363_0)
     (try rw [Addr.add_zero'] at hx363_0)
     replace p363 := eq_true p363
     replace q363 := eq_true q363
     refine hK.out _ _ ⟨(blk_cell BK358.out 0).trans rfl, (blk_cell BK358.out 1).trans rfl, (blk_cell BK358.out 2).trans rfl, (blk_cell BK358.out 3).trans rfl⟩ (fun hHeld => ?_)
     clear hK K
     refine norm_ (a' := ?_) ?_ ?_
     rotate_left
     ·show Act.put _ (some 10) _ = _
      simp only [Act.put, List.setIfInBounds_toArray, List.set_cons_zero, List.set_cons_succ, i64_w, i32_w]
      rfl
     refine pu_ (i := 2) (N := some 11) (bA 9 119) ?_
     refine one_ (i := 3) (N := some 12) (bA 9 127) rfl rfl (one_of HT_.out (by kernel_rfl)) (by decide) (fun K hK => ?_)
     refine live_Check.one_value (.int .u64 (rd t360 0)) rfl rfl (by first | (go_simp; done) | (go_simp; with_reducible rfl)) ?_
     refine hK.out _ _ ⟨(blk_cell BK358.out 0).trans rfl, (blk_cell BK358.out 1).trans rfl, (blk_cell BK358.out 2).trans rfl, (blk_cell BK358.out 3).trans rfl⟩ (fun hHeld => ?_)
     clear hK K
     refine norm_ (a' := ?_) ?_ ?_
     rotate_left
     ·show Act.put _ (some 12) _ = _
      simp only [Act.put, List.setIfInBounds_toArray, List.set_cons_zero, List.set_cons_succ, i64_w, i32_w]
      rfl
     refine pu_ (i := 7) (N := some 16) (bA 9 255) ?_
     refine pu_ (i := 8) (N := some 17) (bA 9 511) ?_
     refine done_ (done_of HT_.out (by kernel_rfl)) ?_
     try go_wp2
     go_ret
     exact ⟨by first | rfl | (simp [errW_none, errW_some] <;> rfl) | (simp only [← hji6, ← hji8]; first | rfl | (simp [errW_none, errW_some] <;> rfl)) | (simp [*, errW_none, errW_some] <;> rfl), qB⟩
   ·rw [zD c7] at H
    exact absurd H (by simp)
  ·rw [zD c5] at H
   exact absurd H (by simp)
 ·rw [zD c3] at H
  obtain ⟨c3b0, c3b1⟩ := qn c3
  obtain rfl := zI H
  go_enter Tryd.func39, Tryd.ntmps39
  go_wp2_with (first | ((with_reducible refine gate_dst (N := 1) rfl ?_); refine box_event (by rfl) (N := 1) (by rfl) (cs := #[.string a0_0, .int .i64 a0_1, .int .i64 a0_2, .slice A0_3 l0_3.length c0_3]) (t := 24) ?hr ?_; (case hr => go_simp <;> rfl); intro gb358 hg w22 hbox hb; have BK358 := zA (hbox); have GW358 := qG hg; have GE358 := GW358; replace HB := qH hb; clear hb hbox hg; have z23_0 := bk4 BK358.out) | ((with_reducible refine gate_callee (f := 78) rfl ?_); refine goesL_ (some 5) rfl rfl Tryd.func78 (by kernel_rfl) rfl #[.agg #[.string a0_0, .int .i64 a0_1, .int .i64 a0_2, .slice A0_3 l0_3.length c0_3]] rfl qL ?_; (with_reducible refine (ir_Check.calls k a0_0 a0_1 a0_2 _ _ l0_3 t359 _ ?side1 ?side2 A2.out (hL := ?side99)).mono ?_); (case side1 => exact qCB HR0_3.out); (case side2 => exact HC0_3.out); (case side99 => exact LaidW.below HLd.out qB); rintro e w24 ⟨rfl, hb⟩; refine ⟨_, rfl, ?_⟩; replace BK358 := qW BK358 hb; replace HB := qH hb; (try clear hb)))
  go_ret
  exact ⟨qE, qB⟩

mutual
def span_Places.l0 : Nat → List (List Int) → Int → List Int → Int → Int → ByteArray → Int → Int → List (List (SIns)) → Option ((List (List Int)))
 | 0, _, _, _, _, _, _, _, _, _ => none
 | k + 1, x3, x4, x16, x17, x18, x369000, x369001, x369002, x369003 => if x18 < x17 then (if 0 ≤ x18 then (if x18 < (x16.length : Int) then (if 0 ≤ (rd x16 x18) then (if (rd x16 x18) < (x369003.length : Int) then (span_Places.l1 k x3 x4 (rd x16 x18) x16 x17 x18 ((rd_LIns x369003 (rd x16 x18)).length : Int) 0 x369000 x369001 x369002 x369003) else (none)) else (none)) else (none)) else (none)) else (some x3)
def span_Places.l1 : Nat → List (List Int) → Int → Int → List Int → Int → Int → Int → Int → ByteArray → Int → Int → List (List (SIns)) → Option ((List (List Int)))
 | 0, _, _, _, _, _, _, _, _, _, _, _, _ => none
 | k + 1, x3, x4, x6, x16, x17, x18, x27, x28, x369000, x369001, x369002, x369003 => if x28 < x27 then (if 0 ≤ x6 then (if x6 < (x3.length : Int) then (if (rd_LInt x3 x6).length < 17592186044416 then (span_Places.l1 k (x3.set (x6 : Int).toNat ((rd_LInt x3 x6) ++ [wrap64 (x4 + 1)])) (wrap64 (x4 + 1)) x6 x16 x17 x18 x27 (wrap64 (x28 + 1)) x369000 x369001 x369002 x369003) else (none)) else (none)) else (none)) else (span_Places.l0 k x3 x4 x16 x17 (wrap64 (x18 + 1)) x369000 x369001 x369002 x369003)
end
def span_Places.f (k : Nat) (a0_0 : ByteArray) (a0_1 : Int) (a0_2 : Int) (l0_3 : List (List (SIns))) : Option ((List (List Int))) := (live_Check.f k a0_0 a0_1 a0_2 l0_3).bind fun t369 => (if t369 = 0 then (if 0 ≤ (l0_3.length : Int) then (if ((l0_3.length : Int) : Int).toNat ≤ 11728124029610 then ((flow_Order.f k l0_3).bind fun t373 => (span_Places.l0 k (List.replicate ((l0_3.length : Int) : Int).toNat []) 0 t373 (t373.length : Int) 0 a0_0 a0_1 a0_2 l0_3)) else (none)) else (none)) else (some ([] : List (List Int))))
set_option maxHeartbeats 8000000 in
set_option maxRecDepth 100000 in
theorem span_Places.calls (k : Nat) (a0_0 : ByteArray) (a0_1 : Int) (a0_2 : Int) (A0_3 : Option Addr) (c0_3 : Nat) (l0_3 : List (List (SIns))) (r : List (List Int)) (w : World) (hL : LaidW w) (hr0_3 : Kd.C (Kd.slice 38 kIns) w A0_3 l0_3.length l0_3) (hc0_3 : l0_3.length ≤ c0_3) (h : span_Places.f k a0_0 a0_1 a0_2 l0_3 = some r) :
 Calls Tryd.prog 13 #[.agg #[.string a0_0, .int .i64 a0_1, .int .i64 a0_2, .slice A0_3 l0_3.length c0_3]] w fun e w' => ∃ v0_ : Value, e = .returned (v0_) ∧ Kd.S (Kd.slice 3 (Kd.int .i64)) 35 w' w.heap.size (fun _ => True) v0_ r ∧ Below w.heap.size w w' := by
 have hu24 := Tryd.underlying24
 have HR0_3 := zA hr0_3
 have HC0_3 := zA hc0_3
 clear hr0_3 hc0_3
 have HB := zA (Below.refl w.heap.size w)
 have HLd := zA hL
 clear hL
 have H := h; clear h; unfold span_Places.f at H
 replace H := qb H; obtain ⟨t369, A2, H⟩ := H
 by_cases c3 : t369 = 0
 ·rw [zC c3] at H
  obtain ⟨c3b0, c3b1⟩ := qe c3; clear c3
  by_cases c4 : 0 ≤ (l0_3.length : Int)
  ·rw [zC c4] at H
   have c4b0 := eq_true c4
   have c4b1 := zF c4
   clear c4
   by_cases c5 : ((l0_3.length : Int) : Int).toNat ≤ 11728124029610
   ·rw [zC c5] at H
    have c5b0 := eq_true c5
    have c5b1 := zF c5
    clear c5
    obtain ⟨y370, hy370⟩ : ∃ y_ : List (List Int), y_ = (List.replicate ((l0_3.length : Int) : Int).toNat []) := ⟨_, rfl⟩
    replace H : ((flow_Order.f k l0_3).bind fun t373 => (span_Places.l0 k y370 0 t373 (t373.length : Int) 0 a0_0 a0_1 a0_2 l0_3)) = some r := by (try rw [hy370]); first | with_reducible exact H | exact (zJ _ _).symm.trans H | exact H
    have Ny370 := zA hy370
    clear hy370
    replace H := qb H; obtain ⟨t373, A6, H⟩ := H
    have H' := zA H
    clear H
    go_enter Tryd.func13, Tryd.ntmps13
    go_wp2_with (first | ((with_reducible refine gate_dst (N := 1) rfl ?_); refine box_event (by rfl) (N := 1) (by rfl) (cs := #[.string a0_0, .int .i64 a0_1, .int .i64 a0_2, .slice A0_3 l0_3.length c0_3]) (t := 24) ?hr ?_; (case hr => go_simp <;> rfl); intro gb368 hg w7 hbox hb; have BK368 := zA (hbox); have GW368 := qG hg; have GE368 := GW368; replace HB := qH hb; clear hb hbox hg; have z8_0 := bk4 BK368.out) | ((with_reducible refine gate_callee (f := 39) rfl ?_); refine goesL_ (some 8) rfl rfl Tryd.func39 (by kernel_rfl) rfl #[.agg #[.string a0_0, .int .i64 a0_1, .int .i64 a0_2, .slice A0_3 l0_3.length c0_3]] rfl qL ?_; (with_reducible refine (live_Check.calls k a0_0 a0_1 a0_2 _ _ l0_3 t369 _ ?side1 ?side2 A2.out (hL := ?side99)).mono ?_); (case side1 => exact qCB HR0_3.out); (case side2 => exact HC0_3.out); (case side99 => exact LaidW.below HLd.out qB); rintro e w9 ⟨rfl, hb⟩; refine ⟨_, rfl, ?_⟩; replace BK368 := qW BK368 hb; replace HB := qH hb; (try clear hb); have z10_0 := bk4 BK368.out) | ((with_reducible refine gate_dst (N := 13) rfl ?_); refine Kd.S_make (Kd.slice 3 (Kd.int .i64)) _ 35 rfl (N := 13) rfl 30 _ _ rfl (l0_3.length : Int) rfl rfl Tryd.underlying30 (.slice none 0 0) 24 info35 rfl (by decide) (by omega) [] (ok := fun _ => True) (okp := fun _ => True) ⟨_, rfl, Kd.R_nil _ _ _ _ _⟩ (fun _ hk => hk) trivial (zB qA) (Nat.le_trans (Nat.mul_le_mul_right _ (zB qA : (l0_3.length : Int).toNat ≤ 11728124029610)) (by omega)) (Below.refl _ _) (Nat.le_refl _) ?_; intro v371 w11 ho12 hb hg_ hnew_; clear hg_ hnew_; (first | rw [← Ny370.out] at ho12 | (simp only [Int.reduceToNat] at ho12; rw [← Ny370.out] at ho12)); have HO372 := zA (Kd.S_lower ho12 (below_size qB)); replace BK368 := qW BK368 hb; replace HB := qH hb; clear hb ho12; have z13_0 := bk4 BK368.out) | ((with_reducible refine gate_callee (f := 40) rfl ?_); refine goesL_ (some 16) rfl rfl Tryd.func40 (by kernel_rfl) rfl #[.slice A0_3 l0_3.length c0_3] rfl qL ?_; (with_reducible refine (flow_Order.calls k _ _ l0_3 t373 _ ?side1 ?side2 A6.out).mono ?_); (case side1 => exact qCB HR0_3.out); (case side2 => exact HC0_3.out); rintro e w14 ⟨v374, rfl, ho0, hb⟩; refine ⟨_, rfl, ?_⟩; replace HO372 := zA (Kd.S_elder' (qS HO372.out) (Kd.R_base ho0) hb); have HO375 := zA (Kd.R_lower ho0 (below_size qB)); replace BK368 := qW BK368 hb; replace HB := qH hb; (try clear hb); (try clear ho0); obtain ⟨Ao15, co15, eo15⟩ := Kd.R_slice HO375.out; subst eo15))
    go_loopg [4, 18] k (fun kq v4 v18 w' => ∃ (x3_1 : List (List Int)) (x4_1 : Int) (x18_1 : Int), v4 = .int .i64 x4_1 ∧ v18 = .int .i64 x18_1 ∧ Aside0 (span_Places.l0 kq x3_1 x4_1 t373 (t373.length : Int) x18_1 a0_0 a0_1 a0_2 l0_3 = some r) ∧ Aside0 (kq ≤ k) ∧ Aside0 (Kd.S (Kd.slice 3 (Kd.int .i64)) 35 w' w.heap.size (fun k_ => some k_ ≠ ((.slice Ao15 t373.length co15) : Value).ownBlock) v371 x3_1) ∧ Aside0 (Kd.R (Kd.int .i64) 3 w' w.heap.size (fun _ => True) (.slice Ao15 t373.length co15) t373) ∧ Aside0 (w'.heap[gb368]? = some (.cells #[.string a0_0, .int .i64 a0_1, .int .i64 a0_2, (.slice A0_3 l0_3.length c0_3)] 24 (0, 0))) ∧ Aside0 (Below w.heap.size w w'))
    case atStart => exact ⟨(y370), (0), (0), qT, qT, H', ⟨Nat.le_refl _⟩, ⟨by (with_reducible repeat (first | apply Kd.S_alloc | apply Kd.S_drewN | apply Kd.S_drew)); exact Kd.S_mono HO372.out (fun _ hk => hk.2)⟩, ⟨qR HO375.out⟩, ⟨qK BK368.out⟩, ⟨qB⟩⟩
    case round =>
     clear H'
     obtain ⟨x3_1, x4_1, x18_1, rfl, rfl, HA, HK1, HO_3, HO_16, BK368, HB⟩ := hrel
     cases gk with
     | zero => exact absurd HA.out (by simp [span_Places.l0])
     | succ k1 =>
      have H := HA.out
      clear HA
      simp only [span_Places.l0] at H
      by_cases c16 : x18_1 < (t373.length : Int)
      ·rw [zC c16] at H
       have c16b0 := zF c16
       clear c16
       by_cases c17 : 0 ≤ x18_1
       ·rw [zC c17] at H
        have c17b0 := zF c17
        clear c17
        by_cases c18 : x18_1 < (t373.length : Int)
        ·rw [zC c18] at H
         have c18b0 := zF c18
         clear c18
         by_cases c19 : 0 ≤ (rd t373 x18_1)
         ·rw [zC c19] at H
          have c19b0 := zF c19
          clear c19
          by_cases c20 : (rd t373 x18_1) < (l0_3.length : Int)
          ·rw [zC c20] at H
           have c20b0 := zF c20
           clear c20
           have H' := zA H
           clear H
           have p376 : 0 ≤ (x18_1 : Int) := zB qA
           have q376 : x18_1 < (t373.length : Int) := zB qA
           obtain ⟨ad376, e376, hx376_0⟩ := Kd.at_int (Kd.R_reads' HO_16.out).2.2 x18_1 p376 q376
           cases e376
           replace p376 := eq_true p376
           replace q376 := eq_true q376
           have z21_0 := bk4 BK368.out
           have p377 : 0 ≤ ((rd t373 x18_1) : Int) := zB qA
           have q377 : (rd t373 x18_1) < (l0_3.length : Int) := zB qA
           obtain ⟨ad377, A377_0, c377_0, e377, hx377_0, hl377_0, hi377_0⟩ := at_LIns HR0_3.out (rd t373 x18_1) p377 q377
           cases e377
           replace hx377_0 := (HB.out.cell (zE w _ hx377_0)).trans hx377_0
           have HR377_0 := zA hi377_0
           have HC377_0 := zA hl377_0
           clear hi377_0 hl377_0
           replace p377 := eq_true p377
           replace q377 := eq_true q377
           go_wp2
           go_loopg [4, 28] k1 (fun kq v4 v28 w' => ∃ (x3_2 : List (List Int)) (x4_2 : Int) (x28_2 : Int), v4 = .int .i64 x4_2 ∧ v28 = .int .i64 x28_2 ∧ Aside0 (span_Places.l1 kq x3_2 x4_2 (rd t373 x18_1) t373 (t373.length : Int) x18_1 ((rd_LIns l0_3 (rd t373 x18_1)).length : Int) x28_2 a0_0 a0_1 a0_2 l0_3 = some r) ∧ Aside0 (kq ≤ k1) ∧ Aside0 (Kd.S (Kd.slice 3 (Kd.int .i64)) 35 w' w.heap.size (fun k_ => some k_ ≠ ((.slice (some ad376) t373.length co15) : Value).ownBlock) v371 x3_2) ∧ Aside0 (Kd.R (Kd.int .i64) 3 w' w.heap.size (fun _ => True) (.slice (some ad376) t373.length co15) t373) ∧ Aside0 (w'.heap[gb368]? = some (.cells #[.string a0_0, .int .i64 a0_1, .int .i64 a0_2, (.slice (some ad377) l0_3.length c0_3)] 24 (0, 0))) ∧ Aside0 (Below w.heap.size w w'))
           case atStart => exact ⟨(x3_1), (x4_1), (0), qT, qT, H', ⟨Nat.le_refl _⟩, ⟨qS HO_3.out⟩, ⟨qR HO_16.out⟩, ⟨qK BK368.out⟩, ⟨qB⟩⟩
           case round =>
            clear H'
            obtain ⟨x3_2, x4_2, x28_2, rfl, rfl, HA, HK2, HO_3, HO_16, BK368, HB⟩ := hrel
            cases gk with
            | zero => exact absurd HA.out (by simp [span_Places.l1])
            | succ k2 =>
             have H := HA.out
             clear HA
             simp only [span_Places.l1] at H
             by_cases c22 : x28_2 < ((rd_LIns l0_3 (rd t373 x18_1)).length : Int)
             ·rw [zC c22] at H
              have c22b0 := zF c22
              clear c22
              by_cases c23 : 0 ≤ (rd t373 x18_1)
              ·rw [zC c23] at H
               have c23b0 := zF c23
               clear c23
               by_cases c24 : (rd t373 x18_1) < (x3_2.length : Int)
               ·rw [zC c24] at H
                have c24b0 := zF c24
                clear c24
                by_cases c25 : (rd_LInt x3_2 (rd t373 x18_1)).length < 17592186044416
                ·rw [zC c25] at H
                 have LMc25 := zA c25
                 clear c25
                 obtain ⟨y379, hy379⟩ : ∃ y_ : List Int, y_ = ((rd_LInt x3_2 (rd t373 x18_1)) ++ [wrap64 (x4_2 + 1)]) := ⟨_, rfl⟩
                 replace H : (span_Places.l1 k2 (x3_2.set ((rd t373 x18_1) : Int).toNat y379) (wrap64 (x4_2 + 1)) (rd t373 x18_1) t373 (t373.length : Int) x18_1 ((rd_LIns l0_3 (rd t373 x18_1)).length : Int) (wrap64 (x28_2 + 1)) a0_0 a0_1 a0_2 l0_3) = some r := by (try rw [hy379]); first | with_reducible exact H | exact (zJ _ _).symm.trans H | exact H
                 have Ny379 := zA hy379
                 clear hy379
                 obtain ⟨y382, hy382⟩ : ∃ y_ : List (List Int), y_ = (x3_2.set ((rd t373 x18_1) : Int).toNat y379) := ⟨_, rfl⟩
                 replace H : (span_Places.l1 k2 y382 (wrap64 (x4_2 + 1)) (rd t373 x18_1) t373 (t373.length : Int) x18_1 ((rd_LIns l0_3 (rd t373 x18_1)).length : Int) (wrap64 (x28_2 + 1)) a0_0 a0_1 a0_2 l0_3) = some r := by (try rw [hy382]); first | with_reducible exact H | exact (zJ _ _).symm.trans H | exact H
                 have Ny382 := zA hy382
                 clear hy382
                 have H' := zA H
                 clear H
                 obtain ⟨Ao27, co27, eo27⟩ := Kd.S_slice HO_3.out
                 subst eo27
                 have p378 : 0 ≤ ((rd t373 x18_1) : Int) := zB qA
                 have q378 : (rd t373 x18_1) < (x3_2.length : Int) := zB qA
                 obtain ⟨ad378, A378_0, c378_0, e378, hx378_0, hl378_0, hi378_0⟩ := at_LInt (Kd.S_reads' HO_3.out).2.2 (rd t373 x18_1) p378 q378
                 cases e378
                 obtain ⟨ce378, hce378, hMe378, hcc378⟩ := Kd.S_get HO_3.out [] (rd t373 x18_1) p378 (by first | exact q378 | exact zB qA | (have e_ := (Kd.S_reads' HO_3.out).1; omega))
                 obtain ⟨ve378_0, rfl, ge378_0⟩ := hMe378
                 have hv378_0 := hcc378 0 _ rfl
                 rw [Nat.add_zero, show ((Kd.slice 3 (Kd.int .i64))).sz = 1 from rfl, Nat.mul_one] at hv378_0
                 replace hv378_0 := zI (hv378_0.symm.trans hx378_0)
                 rw [hv378_0] at ge378_0
                 have HL378_0 := zA (show Kd.R (Kd.int .i64) 3 _ _ _ _ (rd_LInt x3_2 (rd t373 x18_1)) from ge378_0)
                 clear hv378_0 ge378_0
                 have HX378_0 := zA hx378_0
                 clear hcc378 hce378
                 have HR378_0 := zA hi378_0
                 have HC378_0 := zA hl378_0
                 clear hi378_0 hl378_0
                 replace p378 := eq_true p378
                 replace q378 := eq_true q378
                 obtain ⟨go28, co28, eo28, gb28, gl28, cl28, HG28⟩ := Kd.S_form HO_3.out (by have h_ : ((rd t373 x18_1) : Int) < ((x3_2.length : Int) : Int) := zB qA; have h2_ : 0 ≤ ((rd t373 x18_1) : Int) := (zB qA); omega)
                 (first | cases eo28 | (injection eo28 with ea_ en_ ec_; (first | subst ea_ | (injection ea_ with ea_; subst ea_)); subst ec_; clear en_))
                 have GB28 := zA gb28
                 have GG28 := zA HG28
                 clear gb28 gl28 HG28
                 (first | simp only [add_plain] at hx378_0 | skip)
                 obtain ⟨oki28, ce28, hcl28, hM28, hcc28, _, _, hH28⟩ := Kd.S_elem HO_3.out [] ((rd t373 x18_1) : Int) (zB qA) (by have h_ : ((rd t373 x18_1) : Int) < ((x3_2.length : Int) : Int) := zB qA; first | exact h_ | (have e_ := (Kd.S_reads' HO_3.out).1; omega) | simpa using h_)
                 obtain ⟨ve28_0, rfl, ge28_0⟩ := hM28
                 have hv28 := hcc28 0 _ rfl
                 have hX28 := HX378_0.out
                 (try simp only [add_plain] at hX28)
                 (try simp only [Nat.add_zero] at hv28)
                 (try rw [show ((Kd.slice 3 (Kd.int .i64))).sz = 1 from rfl, Nat.mul_one] at hv28)
                 replace hv28 := zI (hv28.symm.trans hX28)
                 subst hv28
                 clear hX28 hcc28 hcl28
                 have UU28 := zA (show Kd.R (Kd.int .i64) 3 _ w.heap.size oki28 (.slice A378_0 (rd_LInt x3_2 (rd t373 x18_1)).length c378_0) (rd_LInt x3_2 (rd t373 x18_1)) from ge28_0)
                 have HH28 := zA hH28
                 have HN28 := zA (Kd.S_reads' HO_3.out).1
                 clear hH28 ge28_0
                 go_wp2_with (first | ((with_reducible refine gate_builtin (b := .append) (xs := #[.tmp 37, .tmp 39]) rfl ?_); at_builtin; refine Kd.R_append (Kd.int .i64) (w0 := w) w.heap.size rfl (.tmp 37) (.tmp 39) 35 3 (.int .i64 0) 8 rfl Tryd.underlying35 info3 rfl (by decide) (by omega) (.slice A378_0 (rd_LInt x3_2 (rd t373 x18_1)).length c378_0) (rd_LInt x3_2 (rd t373 x18_1)) (wrap64 (x4_2 + 1)) [.int .i64 (wrap64 (x4_2 + 1))] (fun k_ => oki28 k_ ∨ ((fun k_ => some k_ ≠ (.slice (some ad376) t373.length co15 : Value).ownBlock)) k_ ∧ wr.heap.size ≤ k_) (fun _ => False) rfl rfl ?aP (fun _ hk => hk.elim) ?aF ?aO ?aB ?aS ?aL ?_; (case aP => exact rfl); (case aB => exact qB); (case aF => exact (fun k_ hk => .inr ⟨Kd.fresh' (Kd.R_lt (qR HO_16.out)) k_ hk, hk⟩)); (case aO => exact (by (with_reducible repeat (first | apply Kd.R_alloc | apply Kd.R_drewN | apply Kd.R_drew)); exact Kd.R_mono UU28.out (fun _ hk => .inl hk))); (case aS => exact (below_size qB)); (case aL => have := LMc25.out; omega); intro v380 w29 ho hb hg hat; rw [← Ny379.out] at ho; replace HO_16 := zA (Kd.R_grown2 (qR HO_16.out) rfl hg (fun k_ e_ => (HL378_0.out.1 k_ e_).1)); replace BK368 := zA (blk_grown (qK BK368.out) hg (Kd.R_ne HL378_0.out BK368.out (by decide))); replace HB := zA (hb); replace HH28 := zA (Kd.H_grown (Kd.H_widen (by repeat (first | exact HH28.out | refine Kd.H_alloc ?_ _ | refine Kd.H_drewN ?_ _ | refine Kd.H_drew ?_))) hg (fun k_ e_ => .inl (UU28.out.1 k_ e_))); have HO381 := zA (ho); clear HO_3 UU28 HL378_0; clear ho hb hg hat; have p26 : 0 ≤ ((rd t373 x18_1) : Int) := zB qA; have q26 : ((rd t373 x18_1) : Int) < ((x3_2.length : Int) : Int) := zB qA; replace p26 := eq_true p26; replace q26 := eq_true q26; obtain ⟨Ao32, co32, eo32⟩ := Kd.R_slice HO381.out; subst eo32; obtain ⟨_, _, hraw30, _, _, hcc30, _⟩ := Kd.H_raw HH28.out (zB qA) (by have h_ : ((rd t373 x18_1) : Int) < ((x3_2.length : Int) : Int) := zB qA; first | exact h_ | (have e_ := (HN28.out); omega) | simpa using h_); obtain ⟨_, hfr30⟩ := Kd.H_at HH28.out (zB qA) (by have h_ : ((rd t373 x18_1) : Int) < ((x3_2.length : Int) : Int) := zB qA; first | exact h_ | (have e_ := (HN28.out); omega) | simpa using h_); have hx30_0 := hcc30 0 _ rfl; have hf30_0 := hfr30 0; (try simp only [Nat.add_zero] at hx30_0 hf30_0); (try rw [show ((Kd.slice 3 (Kd.int .i64))).sz = 1 from rfl, Nat.mul_one] at hx30_0); (try rw [show ((Kd.slice 3 (Kd.int .i64))).sz = 1 from rfl, Nat.mul_one] at hf30_0); have HP30 := Kd.S_seg0 HH28.out (zB qA) (by have h_ : ((rd t373 x18_1) : Int) < ((x3_2.length : Int) : Int) := zB qA; first | exact h_ | (have e_ := (HN28.out); omega) | simpa using h_) (seg := [.slice Ao32 y379.length co32]) (j := 0) (show 1 ≤ 1 from by decide) (x' := y379) (Kd.M_row HO381.out) (fun _ hk => hk); (try simp only [show ((Kd.slice 3 (Kd.int .i64))).sz = 1 from rfl, Nat.mul_one, Nat.add_zero] at HP30); clear hcc30 hfr30) | ((with_reducible refine gate_store (t := 35) (p := 41) rfl ?_); refine store_event (t := 35) (p := 41) (v := ?vo_w31) (w1 := (w29.setCell ⟨go28, ((rd t373 x18_1) : Int).toNat, none⟩ (.slice Ao32 y379.length co32))) (by rfl) (by rfl) (by rfl) ?hr ?_; (case hr => go_simp <;> rfl); intro w31 hw; have hg : w29.grownBy w31 (some go28) := (by rw [hw]; exact HP30.2); have hp_ : Kd.S (Kd.slice 3 (Kd.int .i64)) 35 w31 w.heap.size (fun k_ => some k_ ≠ (.slice (some ad376) t373.length co15 : Value).ownBlock) (.slice (some ⟨go28, 0, none⟩) x3_2.length co27) y382 := (by rw [hw, Ny382.out]; exact HP30.1); clear HP30; replace HO_16 := zA (Kd.R_over' (v := (.slice (some ⟨go28, 0, none⟩) x3_2.length co27)) (qR HO_16.out) (Kd.R_typed hraw30) (by decide) hg); replace BK368 := zA (blk_grown (qK BK368.out) hg (Kd.R_ne hraw30 BK368.out (by decide))); replace HB := zA ((by rw [hw]; exact below_set HB.out GB28.out : Below w.heap.size w w31)); have HO_3 := zA (hp_); clear HO381 HH28; clear hg hw hp_ hraw30))
                 go_roundg k2
                 case measure => have := HK1.out; have := HK2.out; omega
                 case rel => exact ⟨(y382), (wrap64 (x4_2 + 1)), (wrap64 (x28_2 + 1)), qT, qT, H', ⟨by have := HK1.out; have := HK2.out; omega⟩, ⟨qS HO_3.out⟩, ⟨qR HO_16.out⟩, ⟨qK BK368.out⟩, ⟨qB⟩⟩
                ·rw [zD c25] at H
                 exact absurd H (by simp)
               ·rw [zD c24] at H
                exact absurd H (by simp)
              ·rw [zD c23] at H
               exact absurd H (by simp)
             ·rw [zD c22] at H
              have c22b0 := zG c22
              clear c22
              have H' := zA H
              clear H
              go_wp2
              go_roundg k2
              case measure => have := HK1.out; have := HK2.out; omega
              case rel => exact ⟨(x3_2), (x4_2), (wrap64 (x18_1 + 1)), qT, qT, H', ⟨by have := HK1.out; have := HK2.out; omega⟩, ⟨qS HO_3.out⟩, ⟨qR HO_16.out⟩, ⟨qK BK368.out⟩, ⟨qB⟩⟩
          ·rw [zD c20] at H
           exact absurd H (by simp)
         ·rw [zD c19] at H
          exact absurd H (by simp)
        ·rw [zD c18] at H
         exact absurd H (by simp)
       ·rw [zD c17] at H
        exact absurd H (by simp)
      ·rw [zD c16] at H
       have c16b0 := zG c16
       clear c16
       obtain rfl := zI H
       go_wp2
       go_ret
       exact ⟨_, qE, by (with_reducible repeat (first | apply Kd.S_alloc | apply Kd.S_drewN | apply Kd.S_drew)); exact Kd.S_mono HO_3.out (fun _ hk => trivial), qB⟩
   ·rw [zD c5] at H
    exact absurd H (by simp)
  ·rw [zD c4] at H
   exact absurd H (by simp)
 ·rw [zD c3] at H
  obtain ⟨c3b0, c3b1⟩ := qn c3
  obtain rfl := zI H
  go_enter Tryd.func13, Tryd.ntmps13
  go_wp2_with (first | ((with_reducible refine gate_dst (N := 1) rfl ?_); refine box_event (by rfl) (N := 1) (by rfl) (cs := #[.string a0_0, .int .i64 a0_1, .int .i64 a0_2, .slice A0_3 l0_3.length c0_3]) (t := 24) ?hr ?_; (case hr => go_simp <;> rfl); intro gb368 hg w33 hbox hb; have BK368 := zA (hbox); have GW368 := qG hg; have GE368 := GW368; replace HB := qH hb; clear hb hbox hg; have z34_0 := bk4 BK368.out) | ((with_reducible refine gate_callee (f := 39) rfl ?_); refine goesL_ (some 8) rfl rfl Tryd.func39 (by kernel_rfl) rfl #[.agg #[.string a0_0, .int .i64 a0_1, .int .i64 a0_2, .slice A0_3 l0_3.length c0_3]] rfl qL ?_; (with_reducible refine (live_Check.calls k a0_0 a0_1 a0_2 _ _ l0_3 t369 _ ?side1 ?side2 A2.out (hL := ?side99)).mono ?_); (case side1 => exact qCB HR0_3.out); (case side2 => exact HC0_3.out); (case side99 => exact LaidW.below HLd.out qB); rintro e w35 ⟨rfl, hb⟩; refine ⟨_, rfl, ?_⟩; replace BK368 := qW BK368 hb; replace HB := qH hb; (try clear hb)))
  go_ret
  exact ⟨_, qE, by first | exact Kd.S_nil _ _ _ _ _ | exact Kd.N_nil _ _ _ _ _ | exact Kd.V_nil _ _ _ _ _ | exact Kd.Q_nil _ _ _ _ _ | exact Kd.R_nil _ _ _ _ _, qB⟩
def span_Spans_1.f (a0 : Int) (a1 : Int) (l2 : List (SSpan)) : Option ((List (SSpan))) := if 0 ≤ a0 then (if a0 < (l2.length : Int) then (if ((rd_TSpan l2 a0).f0) < 0 then ((some (l2.set (a0 : Int).toNat (⟨a1, a1⟩ : SSpan) : List (SSpan))).bind fun y534 => ((some (y534.set (a0 : Int).toNat (⟨mn ((rd_TSpan y534 a0).f0) a1, (rd_TSpan y534 a0).f1⟩ : SSpan) : List (SSpan))).bind fun y537 => (some (y537.set (a0 : Int).toNat (⟨(rd_TSpan y537 a0).f0, mx ((rd_TSpan y534 a0).f1) a1⟩ : SSpan))))) else ((some (l2.set (a0 : Int).toNat (⟨mn ((rd_TSpan l2 a0).f0) a1, (rd_TSpan l2 a0).f1⟩ : SSpan) : List (SSpan))).bind fun y541 => (some (y541.set (a0 : Int).toNat (⟨(rd_TSpan y541 a0).f0, mx ((rd_TSpan l2 a0).f1) a1⟩ : SSpan))))) else (none)) else (none)
def span_Spans_1.T2 : Bool × List (List Nat × List Nat) := (true, [([], []), ([], []), ([], []), ([], []), ([], []), ([], []), ([4, 5], [4, 5]), ([6], [6]), ([7], [7]), ([], []), ([8, 9], [8, 9]), ([], []), ([], []), ([11, 12], [11, 12]), ([13], [13]), ([14], [14]), ([], []), ([15, 16], [15, 16]), ([0, 1, 0, 1, 4, 5, 6, 7, 8, 9, 10, 15], [0, 1]), ([18, 0, 1, 4, 5, 6, 7, 8, 9, 10, 15], [18]), ([19, 10, 0, 1, 4, 5, 6, 7, 8, 9, 10, 15], [10, 19]), ([2, 3, 0, 1, 2, 3, 4, 5, 6, 7, 8, 9, 10, 11, 12, 13, 14, 15, 16, 17, 18, 19, 20], [2, 3]), ([21, 0, 1, 2, 3, 4, 5, 6, 7, 8, 9, 10, 11, 12, 13, 14, 15, 16, 17, 18, 19, 20], [21]), ([22, 17, 20, 0, 1, 2, 3, 4, 5, 6, 7, 8, 9, 10, 11, 12, 13, 14, 15, 16, 17, 18, 19, 20], [17, 22])])
def span_Spans_1.B2 : List Nat := [0, 0, 0, 0, 0, 0, 48, 112, 240, 0, 1008, 0, 0, 6144, 14336, 30720, 0, 129024, 65523, 327667, 851955, 2097151, 4194303, 8388607]
theorem span_Spans_1.tab2 : rtab .any (opsOf Tryd.f41 2) = span_Spans_1.T2 := by kernel_rfl
theorem span_Spans_1.bits2 : waitsOk span_Spans_1.T2.2 span_Spans_1.B2 = true := by kernel_rfl
set_option maxHeartbeats 8000000 in
set_option maxRecDepth 100000 in
theorem span_Spans_1.calls (a0 : Int) (a1 : Int) (P2_ : Nat → Prop) (u9000_ : Value) (l2 : List (SSpan)) (r : List (SSpan)) (w0 w : World) (gb : Nat) (hB : Below w0.heap.size w0 w) (hbk : w.heap[gb]? = some (.cells #[u9000_] 32 (0, 0))) (ho2 : Kd.R kSpan 28 w w0.heap.size P2_ u9000_ l2) (h : span_Spans_1.f a0 a1 l2 = some r) :
 Calls Tryd.prog 41 #[.int .i64 a0, .int .i64 a1, .pointer (some ⟨gb, 0, none⟩)] w fun e w' => e = .returned (.tuple #[]) ∧ w'.heap[gb]? = some (.cells #[u9000_] 32 (0, 0)) ∧ Kd.R kSpan 28 w' w0.heap.size (fun k_ => (P2_ k_ ∨ w.heap.size ≤ k_)) u9000_ r ∧ Below w0.heap.size w0 w' ∧ Kept w w' (fun k_ => P2_ k_) := by
 have huS := Tryd.underlying28
 have HO2 := zA (show Kd.R kSpan 28 w w0.heap.size (fun k_ => (P2_ k_ ∨ w.heap.size ≤ k_)) u9000_ l2 from Kd.R_mono ho2 (fun k_ hk => (.inl hk)))
 have BK := zA hbk
 clear hbk
 have HK := zA (Kept.refl w (fun k_ => P2_ k_))
 have HW0 := zA hB.size
 have HB := zA hB
 clear hB
 have H := h; clear h; unfold span_Spans_1.f at H
 by_cases c4 : 0 ≤ a0
 ·rw [zC c4] at H
  have c4b0 := zF c4
  clear c4
  by_cases c5 : a0 < (l2.length : Int)
  ·rw [zC c5] at H
   have c5b0 := zF c5
   clear c5
   by_cases c6 : ((rd_TSpan l2 a0).f0) < 0
   ·rw [zC c6] at H
    have c6b0 := zF c6
    clear c6
    obtain ⟨y534, hy534⟩ : ∃ y_ : List (SSpan), y_ = (l2.set (a0 : Int).toNat (⟨a1, a1⟩ : SSpan)) := ⟨_, rfl⟩
    replace H : ((some (y534.set (a0 : Int).toNat (⟨mn ((rd_TSpan y534 a0).f0) a1, (rd_TSpan y534 a0).f1⟩ : SSpan) : List (SSpan))).bind fun y537 => (some (y537.set (a0 : Int).toNat (⟨(rd_TSpan y537 a0).f0, mx ((rd_TSpan y534 a0).f1) a1⟩ : SSpan)))) = some r := by (try rw [hy534]); first | with_reducible exact H | exact (zJ _ _).symm.trans H | exact H
    have Ny534 := zA hy534
    clear hy534
    obtain ⟨ji8, hji8⟩ : ∃ j_ : Int, (mn ((rd_TSpan y534 a0).f0) a1) = j_ := ⟨_, rfl⟩
    replace H : ((some (y534.set (a0 : Int).toNat (⟨ji8, (rd_TSpan y534 a0).f1⟩ : SSpan) : List (SSpan))).bind fun y537 => (some (y537.set (a0 : Int).toNat (⟨(rd_TSpan y537 a0).f0, mx ((rd_TSpan y534 a0).f1) a1⟩ : SSpan)))) = some r := by first | (rw [hji8] at H; exact H) | (simp only [hji8] at H ⊢; exact H)
    have hji8_ : (if a1 < ((rd_TSpan y534 a0).f0) then a1 else ((rd_TSpan y534 a0).f0)) = ji8 := hji8
    obtain ⟨ji9, hji9⟩ : ∃ j_ : Int, (mx ((rd_TSpan y534 a0).f1) a1) = j_ := ⟨_, rfl⟩
    replace H : ((some (y534.set (a0 : Int).toNat (⟨ji8, (rd_TSpan y534 a0).f1⟩ : SSpan) : List (SSpan))).bind fun y537 => (some (y537.set (a0 : Int).toNat (⟨(rd_TSpan y537 a0).f0, ji9⟩ : SSpan)))) = some r := by first | (rw [hji9] at H; exact H) | (simp only [hji9] at H ⊢; exact H)
    have hji9_ : (if ((rd_TSpan y534 a0).f1) < a1 then a1 else ((rd_TSpan y534 a0).f1)) = ji9 := hji9
    obtain ⟨y537, hy537⟩ : ∃ y_ : List (SSpan), y_ = (y534.set (a0 : Int).toNat (⟨ji8, (rd_TSpan y534 a0).f1⟩ : SSpan)) := ⟨_, rfl⟩
    replace H : (some (y537.set (a0 : Int).toNat (⟨(rd_TSpan y537 a0).f0, ji9⟩ : SSpan))) = some r := by (try rw [hy537]); first | with_reducible exact H | exact (zJ _ _).symm.trans H | exact H
    have Ny537 := zA hy537
    clear hy537
    obtain ⟨y538, hy538⟩ : ∃ y_ : List (SSpan), y_ = (y537.set (a0 : Int).toNat (⟨(rd_TSpan y537 a0).f0, ji9⟩ : SSpan)) := ⟨_, rfl⟩
    replace H : (some y538) = some r := by (try rw [hy538]); first | with_reducible exact H | exact (zJ _ _).symm.trans H | exact H
    have Ny538 := zA hy538
    clear hy538
    obtain rfl := zI H
    obtain ⟨Ao12, co12, eo12⟩ := Kd.R_slice HO2.out
    subst eo12
    have p533 : 0 ≤ (a0 : Int) := zB qA
    have q533 : a0 < (l2.length : Int) := zB qA
    obtain ⟨ad533, e533, hx533_0, hx533_1⟩ := at_TSpan (Kd.R_reads' HO2.out).2.2 a0 p533 q533
    cases e533
    replace p533 := eq_true p533
    replace q533 := eq_true q533
    have p7 : 0 ≤ (a0 : Int) := zB qA
    have q7 : (a0 : Int) < ((l2.length : Int) : Int) := zB qA
    obtain ⟨go7, co7, eo7, gb7, gl7, cl7, HG7⟩ := Kd.R_form HO2.out (by omega)
    (first | cases eo7 | (injection eo7 with ea_ en_ ec_; (first | subst ea_ | (injection ea_ with ea_; subst ea_)); subst ec_; clear en_))
    have GB7 := zA gb7
    have GG7 := zA HG7
    clear gb7 gl7 HG7
    have HMgo7 := zA (show (P2_ go7 ∨ w.heap.size ≤ go7) from (HO2.out.1 _ rfl))
    (first | simp only [add_plain] at hx533_0 | skip)
    (first | simp only [add_plain] at hx533_1 | skip)
    obtain ⟨ce7, hcl7, hM7, hcc7, hfr7⟩ := Kd.R_elem HO2.out zSpan (a0 : Int) p7 q7
    obtain rfl := kSpan_openM hM7
    have hx7_0 : w.cell? ⟨go7, (a0 : Int).toNat * 2, none⟩ = some (.int .i64 ((rd_TSpan l2 a0).f0)) := hcc7 0 _ rfl
    have hx7_1 : w.cell? ⟨go7, (a0 : Int).toNat * 2 + 1, none⟩ = some (.int .i64 ((rd_TSpan l2 a0).f1)) := hcc7 1 _ rfl
    have hf7_0 : w.frozen? ⟨go7, (a0 : Int).toNat * 2, none⟩ = false := hfr7 0
    have hf7_1 : w.frozen? ⟨go7, (a0 : Int).toNat * 2 + 1, none⟩ = false := hfr7 1
    clear hcl7 hcc7 hfr7 hM7
    replace p7 := eq_true p7
    replace q7 := eq_true q7
    have HX13 := zA (show Kd.R kSpan 28 w w0.heap.size (fun k_ => (P2_ k_ ∨ w.heap.size ≤ k_)) (.slice (some ⟨go7, 0, none⟩) l2.length co12) l2 from (qR HO2.out))
    obtain ⟨ce13, hcl13, hM13, hcc13, hfr13⟩ := Kd.R_elem HX13.out zSpan (a0 : Int) (zB qA) (by have h_ : (a0 : Int) < ((l2.length : Int) : Int) := zB qA; first | exact h_ | (have e_ := (Kd.R_reads' HO2.out).1; omega) | simpa using h_)
    obtain rfl := kSpan_openM hM13
    have HP13 := Kd.R_seg HX13.out (a0 : Int) (zB qA) (by have h_ : (a0 : Int) < ((l2.length : Int) : Int) := zB qA; first | exact h_ | (have e_ := (Kd.R_reads' HO2.out).1; omega) | simpa using h_) (seg := [.int .i64 a1, .int .i64 a1]) (j := 0) hcl13 hcc13 (show 2 ≤ 2 from by decide) (x' := (⟨a1, a1⟩ : SSpan)) (kSpan_mkM _ _ _ (⟨a1, a1⟩ : SSpan) ) (fun _ hk => hk)
    have hx13_0 := hcc13 0 _ rfl
    (try simp only [show (kSpan).sz = 2 from rfl, Nat.mul_one, Nat.add_zero] at hx13_0)
    have hf13_0 := hfr13 0
    (try simp only [show (kSpan).sz = 2 from rfl, Nat.mul_one, Nat.add_zero] at hf13_0)
    have hx13_1 := hcc13 1 _ rfl
    (try simp only [show (kSpan).sz = 2 from rfl, Nat.mul_one, Nat.add_zero] at hx13_1)
    have hf13_1 := hfr13 1
    (try simp only [show (kSpan).sz = 2 from rfl, Nat.mul_one, Nat.add_zero] at hf13_1)
    clear hcl13 hcc13 hfr13 hM13
    have hcb : w.cell? ⟨gb, 0, none⟩ = some (.slice (some ⟨go7, 0, none⟩) l2.length co12) := (blk_cell BK.out 0).trans rfl
    have hne : Aside0 (some go7 ≠ some gb) := ⟨fun e_ => by obtain ⟨cells, hc_⟩ := Kd.R_typed HO2.out go7 rfl; exact blk_ne BK.out hc_ (by decide) (zI e_).symm⟩
    go_enter Tryd.func41, Tryd.ntmps41
    try go_wp2_with (first | ((with_reducible refine gate_store (t := 28) (p := 16) rfl ?_); refine store_event (t := 28) (p := 16) (v := ?vo_w14) (w1 := ((w.setCell ⟨go7, (a0 : Int).toNat * 2, none⟩ (.int .i64 a1)).setCell ⟨go7, (a0 : Int).toNat * 2 + 1, none⟩ (.int .i64 a1))) (by rfl) (by rfl) (by rfl) ?hr ?_; (case hr => go_simp <;> rfl); intro w14 hw; have hg : w.grownBy w14 (some go7) := (by rw [hw]; exact HP13.2); have hp_ : Kd.R kSpan 28 w14 w0.heap.size (fun k_ => (P2_ k_ ∨ w.heap.size ≤ k_)) (.slice (some ⟨go7, 0, none⟩) l2.length co12) y534 := (by rw [hw, Ny534.out]; exact HP13.1); clear HP13; replace HB := zA ((by rw [hw]; exact below_set (below_set (HB.out) GB7.out) GB7.out : Below w0.heap.size w0 w14)); replace HK := zA (Kept.of_grown (S := (fun k_ => P2_ k_)) hg (by repeat (first | (with_reducible first | exact HK.out | apply Kept.alloc | apply Kept.drewN | apply Kept.drew) | exact HK.out)) (fun k_ e_ => (HO2.out.1 k_ e_))); replace HO2 := zA (hp_); replace BK := zA (blk_grown BK.out hg (Ne.symm hne.out)); clear hcb; have hcb := (blk_cell BK.out 0).trans (rfl : _ = some (Value.slice (some ⟨go7, 0, none⟩) l2.length co12)); clear hg hw hp_))
    replace BK := zA (blk_drew BK.out)
    replace hcb := (blk_cell BK.out 0).trans (rfl : _ = some (Value.slice (some ⟨go7, 0, none⟩) l2.length co12))
    have n0_ := zA (Kd.R_drew HO2.out)
    have n1_ := zA (Kept.drew HK.out)
    have n2_ := zA (below_drew1 HB.out)
    clear HO2
    clear HK
    clear HB
    have HO2 := n0_
    have HK := n1_
    have HB := n2_
    clear n0_ n1_ n2_
    have p535 : 0 ≤ (a0 : Int) := zB qA
    have q535 : a0 < (y534.length : Int) := (by have h_ : (a0 : Int) < ((l2.length : Int) : Int) := zB qA; first | (have e_ := (Kd.R_reads' HO2.out).1; omega) | simpa only [Ny534.out, List.length_set] using h_)
    have ql535 : ((a0 : Int) < ((l2.length : Int) : Int)) = True := eq_true (zB qA)
    obtain ⟨ad535, e535, hx535_0, hx535_1⟩ := at_TSpan (Kd.R_reads' HO2.out).2.2 a0 p535 q535
    obtain rfl : (⟨go7, 0, none⟩ : Addr) = ad535 := (by injection e535)
    (first | simp only [add_plain] at hx535_0 | simp only [add_at] at hx535_0 | simp only [Addr.add, Nat.zero_add] at hx535_0 | skip)
    (first | simp only [add_plain] at hx535_1 | simp only [add_at] at hx535_1 | simp only [Addr.add, Nat.zero_add] at hx535_1 | skip)
    replace p535 := eq_true p535
    replace q535 := eq_true q535
    have p536 : 0 ≤ (a0 : Int) := zB qA
    have q536 : a0 < (y534.length : Int) := (by have h_ : (a0 : Int) < ((l2.length : Int) : Int) := zB qA; first | (have e_ := (Kd.R_reads' HO2.out).1; omega) | simpa only [Ny534.out, List.length_set] using h_)
    have ql536 : ((a0 : Int) < ((l2.length : Int) : Int)) = True := eq_true (zB qA)
    obtain ⟨ad536, e536, hx536_0, hx536_1⟩ := at_TSpan (Kd.R_reads' HO2.out).2.2 a0 p536 q536
    obtain rfl : (⟨go7, 0, none⟩ : Addr) = ad536 := (by injection e536)
    (first | simp only [add_plain] at hx536_0 | simp only [add_at] at hx536_0 | simp only [Addr.add, Nat.zero_add] at hx536_0 | skip)
    (first | simp only [add_plain] at hx536_1 | simp only [add_at] at hx536_1 | simp only [Addr.add, Nat.zero_add] at hx536_1 | skip)
    replace p536 := eq_true p536
    replace q536 := eq_true q536
    have p10 : 0 ≤ (a0 : Int) := zB qA
    have q10 : (a0 : Int) < ((l2.length : Int) : Int) := zB qA
    obtain ⟨ce10, hcl10, hM10, hcc10, hfr10⟩ := Kd.R_elem HO2.out zSpan (a0 : Int) p10 q10
    obtain rfl := kSpan_openM hM10
    have hx10_0 : World.cell? _ ⟨go7, (a0 : Int).toNat * 2, none⟩ = some (.int .i64 ((rd_TSpan y534 a0).f0)) := hcc10 0 _ rfl
    have hx10_1 : World.cell? _ ⟨go7, (a0 : Int).toNat * 2 + 1, none⟩ = some (.int .i64 ((rd_TSpan y534 a0).f1)) := hcc10 1 _ rfl
    have hf10_0 : World.frozen? _ ⟨go7, (a0 : Int).toNat * 2, none⟩ = false := hfr10 0
    have hf10_1 : World.frozen? _ ⟨go7, (a0 : Int).toNat * 2 + 1, none⟩ = false := hfr10 1
    clear hcl10 hcc10 hfr10 hM10
    replace p10 := eq_true p10
    replace q10 := eq_true q10
    obtain ⟨ce16, hcl16, hM16, hcc16, hfr16⟩ := Kd.R_elem HO2.out zSpan (a0 : Int) (zB qA) (by have h_ : (a0 : Int) < ((l2.length : Int) : Int) := zB qA; first | exact h_ | (have e_ := (Kd.R_reads' HO2.out).1; omega) | simpa using h_)
    obtain rfl := kSpan_openM hM16
    have HP16 := (Kd.R_seg HO2.out (a0 : Int) (zB qA) (by have h_ : (a0 : Int) < ((l2.length : Int) : Int) := zB qA; first | exact h_ | (have e_ := (Kd.R_reads' HO2.out).1; omega) | simpa using h_) (seg := [.int .i64 ji8]) (j := 0) hcl16 hcc16 (show 1 ≤ 2 from by decide) (x' := (⟨ji8, (rd_TSpan y534 a0).f1⟩ : SSpan)) (kSpan_mkM _ _ _ (⟨ji8, (rd_TSpan y534 a0).f1⟩ : SSpan) ) (fun _ hk => hk)).1
    rw [← Ny537.out] at HP16
    have HQ16 := zA HP16
    clear hcl16 hcc16 hfr16 hM16 HP16
    have p11 : 0 ≤ (a0 : Int) := zB qA
    have q11 : (a0 : Int) < ((l2.length : Int) : Int) := zB qA
    replace p11 := eq_true p11
    replace q11 := eq_true q11
    obtain ⟨ce17, hcl17, hM17, hcc17, hfr17⟩ := Kd.R_elem HQ16.out zSpan (a0 : Int) (zB qA) (by have h_ : (a0 : Int) < ((l2.length : Int) : Int) := zB qA; first | exact h_ | (have e_ := (Kd.R_reads' HO2.out).1; omega) | simpa using h_)
    obtain rfl := kSpan_openM hM17
    have HP17 := (Kd.R_seg HQ16.out (a0 : Int) (zB qA) (by have h_ : (a0 : Int) < ((l2.length : Int) : Int) := zB qA; first | exact h_ | (have e_ := (Kd.R_reads' HO2.out).1; omega) | simpa using h_) (seg := [.int .i64 ji9]) (j := 1) hcl17 hcc17 (show 2 ≤ 2 from by decide) (x' := (⟨(rd_TSpan y537 a0).f0, ji9⟩ : SSpan)) (kSpan_mkM _ _ _ (⟨(rd_TSpan y537 a0).f0, ji9⟩ : SSpan) ) (fun _ hk => hk)).1
    rw [← Ny538.out] at HP17
    have HQ17 := zA HP17
    clear hcl17 hcc17 hfr17 hM17 HP17
    refine start_ (n := 24) (S := fun w' => w'.cell? ⟨gb, 0, none⟩ = some (.slice (some ⟨go7, 0, none⟩) l2.length co12) ∧ w'.cell? ⟨go7, (a0).toNat * 2 + 1, none⟩ = some (.int .i64 ((rd_TSpan y534 a0).f1))) (ds := [23]) (bA 24 0) (by kernel_rfl) rfl rfl ⟨hcb, hx535_1⟩ (fun hHeld => ?_); refine with_tabW span_Spans_1.tab2 span_Spans_1.bits2 (fun HT_ HW_ => ?_)
    generalize w14.drew = w15 at HO2 HK HB HQ16 HQ17 hf10_0 hf10_1 hx10_0 hx10_1 hx535_0 hx535_1 hx536_0 hx536_1 BK hcb hHeld ⊢
    refine tk_ (i := 0) (N := some 17) (bA 24 1) ?_
    refine pu_ (i := 1) (N := some 18) (bA 24 3) ?_
    refine tk_ (i := 2) (N := some 19) (bA 24 7) ?_
    refine pu_ (i := 3) (N := some 20) (bA 24 15) ?_
    refine tk_ (i := 4) (N := some 21) (bA 24 31) ?_
    refine pu_ (i := 5) (N := some 22) (bA 24 63) ?_
    refine pu_ (i := 6) (N := some 23) (bA 24 127) ?_
    refine pu_ (i := 7) (N := some 24) (bA 24 255) ?_
    refine pu_ (i := 9) (N := some 26) (bA 24 767) ?_
    refine tk_ (i := 11) (N := some 28) (bA 24 2815) ?_
    refine pu_ (i := 12) (N := some 29) (bA 24 6911) ?_
    refine pu_ (i := 13) (N := some 30) (bA 24 15103) ?_
    refine pu_ (i := 14) (N := some 31) (bA 24 31487) ?_
    refine tk_ (i := 15) (N := some 32) (bA 24 64255) ?_
    refine pu_ (i := 16) (N := some 33) (bA 24 129791) ?_
    refine pu_ (i := 17) (N := some 34) (bA 24 260863) ?_
    refine one_ (i := 8) (N := some 25) (bA 24 261119) rfl rfl (one_of HT_.out (by kernel_rfl)) (by decide) (fun K hK => ?_)
    refine value_ (v := .int .i64 ((rd_TSpan y534 a0).f0)) (w1 := w15) rfl rfl (by first | (go_simp; done) | (go_simp; with_reducible rfl)) ?_
    refine hK.out _ _ hHeld (fun hHeld => ?_)
    clear hK K
    refine norm_ (a' := ?_) ?_ ?_
    rotate_left
    ·show Act.put _ (some 25) _ = _
     simp only [Act.put, List.setIfInBounds_toArray, List.set_cons_zero, List.set_cons_succ, i64_w, i32_w]
     rfl
    refine pu_ (i := 10) (N := some 27) (bA 24 262143) ?_
    refine pu_ (i := 18) (N := some 35) (bA 24 524287) ?_
    refine pu_ (i := 19) (N := some 36) (bA 24 1048575) ?_
    refine one_ (i := 20) (N := none) (bA 24 2097151) rfl rfl (one_of HT_.out (by kernel_rfl)) (by decide) (fun K hK => ?_)
    refine skip_ (w1 := ?_) (by rfl) rfl ?_ ?_
    rotate_left
    ·go_simp
     rfl
    refine hK.out _ _ ⟨(blk_cell (blk_far BK.out (fun e_ => hne.out (congrArg some (Eq.symm e_))) _) 0).trans rfl, (World.cell?_setCell_other _ _ _ _ (fun e_ => by have e2_ := congrArg Addr.off e_; simp at e2_)).trans hx535_1⟩ (fun hHeld => ?_)
    clear hK K
    refine pu_ (i := 21) (N := some 37) (bA 24 4194303) ?_
    refine pu_ (i := 22) (N := some 38) (bA 24 8388607) ?_
    refine last_ (i := 23) (N := none) (bA 24 16777215) rfl rfl (one_of HT_.out (by kernel_rfl)) (by decide) (fun K hK => ?_)
    refine skip_ (w1 := ?_) (by rfl) rfl ?_ ?_
    rotate_left
    ·go_simp
     rfl
    refine hK.out _ _ ?_
    clear hK K
    refine done_ (done_of HT_.out (by kernel_rfl)) ?_
    try go_wp2
    first | go_end0 | ((try simp only [Exit.inBlock, Exit.then]); refine bodyPost_ret (results_none rfl _ _ _) rfl ?_)
    exact ⟨by first | rfl | (simp [errW_none, errW_some] <;> rfl) | (simp only [← hji8, ← hji9]; first | rfl | (simp [errW_none, errW_some] <;> rfl)) | (simp [*, errW_none, errW_some] <;> rfl), (by repeat (first | exact BK.out | refine blk_far ?_ (fun e_ => hne.out (congrArg some (Eq.symm e_))) _)), qR HQ17.out, by repeat (first | (with_reducible first | exact HB.out | apply below_alloc | apply pw_below_drewN | apply below_drew1 | refine below_set ?_ GB7.out | refine below_set ?_ GB7.out) | exact HB.out), by repeat (first | (with_reducible first | exact HK.out | apply Kept.alloc | apply Kept.drewN | apply Kept.drew | refine Kept.setCell ?_ HMgo7.out _ | refine Kept.setCell ?_ HMgo7.out _) | exact HK.out)⟩
   ·rw [zD c6] at H
    have c6b0 := zG c6
    clear c6
    obtain ⟨ji18, hji18⟩ : ∃ j_ : Int, (mn ((rd_TSpan l2 a0).f0) a1) = j_ := ⟨_, rfl⟩
    replace H : ((some (l2.set (a0 : Int).toNat (⟨ji18, (rd_TSpan l2 a0).f1⟩ : SSpan) : List (SSpan))).bind fun y541 => (some (y541.set (a0 : Int).toNat (⟨(rd_TSpan y541 a0).f0, mx ((rd_TSpan l2 a0).f1) a1⟩ : SSpan)))) = some r := by first | (rw [hji18] at H; exact H) | (simp only [hji18] at H ⊢; exact H)
    have hji18_ : (if a1 < ((rd_TSpan l2 a0).f0) then a1 else ((rd_TSpan l2 a0).f0)) = ji18 := hji18
    obtain ⟨ji19, hji19⟩ : ∃ j_ : Int, (mx ((rd_TSpan l2 a0).f1) a1) = j_ := ⟨_, rfl⟩
    replace H : ((some (l2.set (a0 : Int).toNat (⟨ji18, (rd_TSpan l2 a0).f1⟩ : SSpan) : List (SSpan))).bind fun y541 => (some (y541.set (a0 : Int).toNat (⟨(rd_TSpan y541 a0).f0, ji19⟩ : SSpan)))) = some r := by first | (rw [hji19] at H; exact H) | (simp only [hji19] at H ⊢; exact H)
    have hji19_ : (if ((rd_TSpan l2 a0).f1) < a1 then a1 else ((rd_TSpan l2 a0).f1)) = ji19 := hji19
    obtain ⟨y541, hy541⟩ : ∃ y_ : List (SSpan), y_ = (l2.set (a0 : Int).toNat (⟨ji18, (rd_TSpan l2 a0).f1⟩ : SSpan)) := ⟨_, rfl⟩
    replace H : (some (y541.set (a0 : Int).toNat (⟨(rd_TSpan y541 a0).f0, ji19⟩ : SSpan))) = some r := by (try rw [hy541]); first | with_reducible exact H | exact (zJ _ _).symm.trans H | exact H
    have Ny541 := zA hy541
    clear hy541
    obtain ⟨y542, hy542⟩ : ∃ y_ : List (SSpan), y_ = (y541.set (a0 : Int).toNat (⟨(rd_TSpan y541 a0).f0, ji19⟩ : SSpan)) := ⟨_, rfl⟩
    replace H : (some y542) = some r := by (try rw [hy542]); first | with_reducible exact H | exact (zJ _ _).symm.trans H | exact H
    have Ny542 := zA hy542
    clear hy542
    obtain rfl := zI H
    obtain ⟨Ao22, co22, eo22⟩ := Kd.R_slice HO2.out
    subst eo22
    have p533 : 0 ≤ (a0 : Int) := zB qA
    have q533 : a0 < (l2.length : Int) := zB qA
    obtain ⟨ad533, e533, hx533_0, hx533_1⟩ := at_TSpan (Kd.R_reads' HO2.out).2.2 a0 p533 q533
    cases e533
    replace p533 := eq_true p533
    replace q533 := eq_true q533
    have hcb : w.cell? ⟨gb, 0, none⟩ = some (.slice (some ad533) l2.length co22) := (blk_cell BK.out 0).trans rfl
    go_enter Tryd.func41, Tryd.ntmps41
    try go_wp2
    replace BK := zA (blk_drew BK.out)
    replace hcb := (blk_cell BK.out 0).trans (rfl : _ = some (Value.slice (some ad533) l2.length co22))
    have n0_ := zA (Kd.R_drew HO2.out)
    have n1_ := zA (Kept.drew HK.out)
    have n2_ := zA (below_drew1 HB.out)
    clear HO2
    clear HK
    clear HB
    have HO2 := n0_
    have HK := n1_
    have HB := n2_
    clear n0_ n1_ n2_
    have p539 : 0 ≤ (a0 : Int) := zB qA
    have q539 : a0 < (l2.length : Int) := zB qA
    obtain ⟨ad539, e539, hx539_0, hx539_1⟩ := at_TSpan (Kd.R_reads' HO2.out).2.2 a0 p539 q539
    obtain rfl : ad533 = ad539 := (by injection e539)
    replace p539 := eq_true p539
    replace q539 := eq_true q539
    have p540 : 0 ≤ (a0 : Int) := zB qA
    have q540 : a0 < (l2.length : Int) := zB qA
    obtain ⟨ad540, e540, hx540_0, hx540_1⟩ := at_TSpan (Kd.R_reads' HO2.out).2.2 a0 p540 q540
    obtain rfl : ad533 = ad540 := (by injection e540)
    replace p540 := eq_true p540
    replace q540 := eq_true q540
    have p20 : 0 ≤ (a0 : Int) := zB qA
    have q20 : (a0 : Int) < ((l2.length : Int) : Int) := zB qA
    obtain ⟨go20, co20, eo20, gb20, gl20, cl20, HG20⟩ := Kd.R_form HO2.out (by omega)
    (first | cases eo20 | (injection eo20 with ea_ en_ ec_; (first | subst ea_ | (injection ea_ with ea_; subst ea_)); subst ec_; clear en_))
    have hne : Aside0 (some go20 ≠ some gb) := ⟨fun e_ => by obtain ⟨cells, hc_⟩ := Kd.R_typed HO2.out go20 rfl; exact blk_ne BK.out hc_ (by decide) (zI e_).symm⟩
    have GB20 := zA gb20
    have GG20 := zA HG20
    clear gb20 gl20 HG20
    have HMgo20 := zA (show (P2_ go20 ∨ w.heap.size ≤ go20) from (HO2.out.1 _ rfl))
    (first | simp only [add_plain] at hx533_0 | skip)
    (first | simp only [add_plain] at hx533_1 | skip)
    (first | simp only [add_plain] at hx539_0 | skip)
    (first | simp only [add_plain] at hx539_1 | skip)
    (first | simp only [add_plain] at hx540_0 | skip)
    (first | simp only [add_plain] at hx540_1 | skip)
    obtain ⟨ce20, hcl20, hM20, hcc20, hfr20⟩ := Kd.R_elem HO2.out zSpan (a0 : Int) p20 q20
    obtain rfl := kSpan_openM hM20
    have hx20_0 : World.cell? _ ⟨go20, (a0 : Int).toNat * 2, none⟩ = some (.int .i64 ((rd_TSpan l2 a0).f0)) := hcc20 0 _ rfl
    have hx20_1 : World.cell? _ ⟨go20, (a0 : Int).toNat * 2 + 1, none⟩ = some (.int .i64 ((rd_TSpan l2 a0).f1)) := hcc20 1 _ rfl
    have hf20_0 : World.frozen? _ ⟨go20, (a0 : Int).toNat * 2, none⟩ = false := hfr20 0
    have hf20_1 : World.frozen? _ ⟨go20, (a0 : Int).toNat * 2 + 1, none⟩ = false := hfr20 1
    clear hcl20 hcc20 hfr20 hM20
    replace p20 := eq_true p20
    replace q20 := eq_true q20
    obtain ⟨ce24, hcl24, hM24, hcc24, hfr24⟩ := Kd.R_elem HO2.out zSpan (a0 : Int) (zB qA) (by have h_ : (a0 : Int) < ((l2.length : Int) : Int) := zB qA; first | exact h_ | (have e_ := (Kd.R_reads' HO2.out).1; omega) | simpa using h_)
    obtain rfl := kSpan_openM hM24
    have HP24 := (Kd.R_seg HO2.out (a0 : Int) (zB qA) (by have h_ : (a0 : Int) < ((l2.length : Int) : Int) := zB qA; first | exact h_ | (have e_ := (Kd.R_reads' HO2.out).1; omega) | simpa using h_) (seg := [.int .i64 ji18]) (j := 0) hcl24 hcc24 (show 1 ≤ 2 from by decide) (x' := (⟨ji18, (rd_TSpan l2 a0).f1⟩ : SSpan)) (kSpan_mkM _ _ _ (⟨ji18, (rd_TSpan l2 a0).f1⟩ : SSpan) ) (fun _ hk => hk)).1
    rw [← Ny541.out] at HP24
    have HQ24 := zA HP24
    clear hcl24 hcc24 hfr24 hM24 HP24
    have p21 : 0 ≤ (a0 : Int) := zB qA
    have q21 : (a0 : Int) < ((l2.length : Int) : Int) := zB qA
    replace p21 := eq_true p21
    replace q21 := eq_true q21
    obtain ⟨ce25, hcl25, hM25, hcc25, hfr25⟩ := Kd.R_elem HQ24.out zSpan (a0 : Int) (zB qA) (by have h_ : (a0 : Int) < ((l2.length : Int) : Int) := zB qA; first | exact h_ | (have e_ := (Kd.R_reads' HO2.out).1; omega) | simpa using h_)
    obtain rfl := kSpan_openM hM25
    have HP25 := (Kd.R_seg HQ24.out (a0 : Int) (zB qA) (by have h_ : (a0 : Int) < ((l2.length : Int) : Int) := zB qA; first | exact h_ | (have e_ := (Kd.R_reads' HO2.out).1; omega) | simpa using h_) (seg := [.int .i64 ji19]) (j := 1) hcl25 hcc25 (show 2 ≤ 2 from by decide) (x' := (⟨(rd_TSpan y541 a0).f0, ji19⟩ : SSpan)) (kSpan_mkM _ _ _ (⟨(rd_TSpan y541 a0).f0, ji19⟩ : SSpan) ) (fun _ hk => hk)).1
    rw [← Ny542.out] at HP25
    have HQ25 := zA HP25
    clear hcl25 hcc25 hfr25 hM25 HP25
    refine start_ (n := 24) (S := fun w' => w'.cell? ⟨gb, 0, none⟩ = some (.slice (some ⟨go20, 0, none⟩) l2.length co22) ∧ w'.cell? ⟨go20, ((a0).toNat * 2) + 1, none⟩ = some (.int .i64 ((rd_TSpan l2 a0).f1))) (ds := [23]) (bA 24 0) (by kernel_rfl) rfl rfl ⟨hcb, hx539_1⟩ (fun hHeld => ?_); refine with_tabW span_Spans_1.tab2 span_Spans_1.bits2 (fun HT_ HW_ => ?_)
    generalize w.drew = w23 at HO2 HK HB GG20 HQ24 HQ25 hf20_0 hf20_1 hx20_0 hx20_1 hx533_0 hx533_1 hx539_0 hx539_1 hx540_0 hx540_1 BK hcb hHeld ⊢
    refine tk_ (i := 0) (N := some 17) (bA 24 1) ?_
    refine pu_ (i := 1) (N := some 18) (bA 24 3) ?_
    refine tk_ (i := 2) (N := some 19) (bA 24 7) ?_
    refine pu_ (i := 3) (N := some 20) (bA 24 15) ?_
    refine tk_ (i := 4) (N := some 21) (bA 24 31) ?_
    refine pu_ (i := 5) (N := some 22) (bA 24 63) ?_
    refine pu_ (i := 6) (N := some 23) (bA 24 127) ?_
    refine pu_ (i := 7) (N := some 24) (bA 24 255) ?_
    refine pu_ (i := 9) (N := some 26) (bA 24 767) ?_
    refine tk_ (i := 11) (N := some 28) (bA 24 2815) ?_
    refine pu_ (i := 12) (N := some 29) (bA 24 6911) ?_
    refine pu_ (i := 13) (N := some 30) (bA 24 15103) ?_
    refine pu_ (i := 14) (N := some 31) (bA 24 31487) ?_
    refine tk_ (i := 15) (N := some 32) (bA 24 64255) ?_
    refine pu_ (i := 16) (N := some 33) (bA 24 129791) ?_
    refine pu_ (i := 17) (N := some 34) (bA 24 260863) ?_
    refine one_ (i := 8) (N := some 25) (bA 24 261119) rfl rfl (one_of HT_.out (by kernel_rfl)) (by decide) (fun K hK => ?_)
    refine value_ (v := .int .i64 ((rd_TSpan l2 a0).f0)) (w1 := w23) rfl rfl (by first | (go_simp; done) | (go_simp; with_reducible rfl)) ?_
    refine hK.out _ _ hHeld (fun hHeld => ?_)
    clear hK K
    refine norm_ (a' := ?_) ?_ ?_
    rotate_left
    ·show Act.put _ (some 25) _ = _
     simp only [Act.put, List.setIfInBounds_toArray, List.set_cons_zero, List.set_cons_succ, i64_w, i32_w]
     rfl
    refine pu_ (i := 10) (N := some 27) (bA 24 262143) ?_
    refine pu_ (i := 18) (N := some 35) (bA 24 524287) ?_
    refine pu_ (i := 19) (N := some 36) (bA 24 1048575) ?_
    refine one_ (i := 20) (N := none) (bA 24 2097151) rfl rfl (one_of HT_.out (by kernel_rfl)) (by decide) (fun K hK => ?_)
    refine skip_ (w1 := ?_) (by rfl) rfl ?_ ?_
    rotate_left
    ·go_simp
     rfl
    refine hK.out _ _ ⟨(blk_cell (blk_far BK.out (fun e_ => hne.out (congrArg some (Eq.symm e_))) _) 0).trans rfl, (World.cell?_setCell_other _ _ _ _ (fun e_ => by have e2_ := congrArg Addr.off e_; simp at e2_)).trans hx539_1⟩ (fun hHeld => ?_)
    clear hK K
    refine pu_ (i := 21) (N := some 37) (bA 24 4194303) ?_
    refine pu_ (i := 22) (N := some 38) (bA 24 8388607) ?_
    refine last_ (i := 23) (N := none) (bA 24 16777215) rfl rfl (one_of HT_.out (by kernel_rfl)) (by decide) (fun K hK => ?_)
    refine skip_ (w1 := ?_) (by rfl) rfl ?_ ?_
    rotate_left
    ·go_simp
     rfl
    refine hK.out _ _ ?_
    clear hK K
    refine done_ (done_of HT_.out (by kernel_rfl)) ?_
    try go_wp2
    first | go_end0 | ((try simp only [Exit.inBlock, Exit.then]); refine bodyPost_ret (results_none rfl _ _ _) rfl ?_)
    exact ⟨by first | rfl | (simp [errW_none, errW_some] <;> rfl) | (simp only [← hji18, ← hji19]; first | rfl | (simp [errW_none, errW_some] <;> rfl)) | (simp [*, errW_none, errW_some] <;> rfl), (by repeat (first | exact BK.out | refine blk_far ?_ (fun e_ => hne.out (congrArg some (Eq.symm e_))) _)), qR HQ25.out, by repeat (first | (with_reducible first | exact HB.out | apply below_alloc | apply pw_below_drewN | apply below_drew1 | refine below_set ?_ GB20.out | refine below_set ?_ GB20.out) | exact HB.out), by repeat (first | (with_reducible first | exact HK.out | apply Kept.alloc | apply Kept.drewN | apply Kept.drew | refine Kept.setCell ?_ HMgo20.out _ | refine Kept.setCell ?_ HMgo20.out _) | exact HK.out)⟩
  ·rw [zD c5] at H
   exact absurd H (by simp)
 ·rw [zD c4] at H
  exact absurd H (by simp)
end Go.Proofs.YtpkimbkjjmbmcaaDoor.Q
namespace Go.Proofs.YtpkimbkjjmbmcaaDoor.Q
open Go.RowKit Go.Proofs.YtpkimbkjjmbmcaaDoorW.PrintWords Go.Proofs.YtpkimbkjjmbmcaaDoorW.PrintLast Go.Proofs.YtpkimbkjjmbmcaaDoorW.PrintMore
set_option linter.unusedVariables false
set_option linter.unusedSimpArgs false
structure SpSt (w0 w : World) (gb gt : Nat) (u : Value) (l : List SSpan) : Prop where
 bb : w.heap[gb]? = some (.cells #[u] 32 (0, 0))
 bt : w.heap[gt]? = some (.cells #[.func (.func 41) #[] #[.pointer (some ⟨gb, 0, none⟩)]] 74 (0, 0))
 hu : Kd.R kSpan 28 w w0.heap.size (fun _ => True) u l
 hB : Below w0.heap.size w0 w
theorem SpSt.below {w0 w w1 : World} {gb gt : Nat} {u : Value} {l : List SSpan} (hs : SpSt w0 w gb gt u l) (hb : Below w.heap.size w w1) : SpSt w0 w1 gb gt u l :=
 ⟨blk_below hs.bb hb, blk_below hs.bt hb, Kd.R_below hs.hu hb, below_step hs.hB hb⟩
theorem SpSt.net {w0 w : World} {gb gt : Nat} {u : Value} {l : List SSpan} (hs : SpSt w0 w gb gt u l) : ¬ some gt = u.ownBlock := fun e => ne_own hs.bt (Kd.R_typed hs.hu) (by decide) e.symm
theorem span_Spans_1.st {w0 w : World} {gb gt : Nat} {u : Value} {l : List SSpan} (a0 a1 : Int) (r : List SSpan) (h : span_Spans_1.f a0 a1 l = some r) (hs : SpSt w0 w gb gt u l) :
 Calls Tryd.prog 41 #[.int .i64 a0, .int .i64 a1, .pointer (some ⟨gb, 0, none⟩)] w fun e w' => e = .returned (.tuple #[]) ∧ SpSt w0 w' gb gt u r ∧ Kept w w' (fun k => some k = u.ownBlock) := by
 refine (span_Spans_1.calls a0 a1 (fun k => some k = u.ownBlock) u l r w0 w gb hs.hB hs.bb (Kd.R_tight rfl hs.hu) h).mono ?_
 rintro e w' ⟨rfl, hb', hu', hB', hk⟩
 exact ⟨rfl, ⟨hb', blk_kept hs.bt hk hs.net, Kd.R_mono hu' (fun _ _ => trivial), hB'⟩, hk⟩
def span_Spans_2.l0 : Nat → Int → List Int → Int → List SSpan → Option (List SSpan)
 | 0, _, _, _, _ => none
 | k + 1, n, l, j, o =>
  if j < (l.length : Int) then
   if 0 ≤ j then (span_Spans_1.f (rd l j) (wrap64 (2 * n)) o).bind fun b => span_Spans_2.l0 k n l (wrap64 (j + 1)) b
   else none
  else some o
def span_Spans_2.f (k : Nat) (n : Int) (l : List Int) (o : List SSpan) : Option (List SSpan) := span_Spans_2.l0 k n l 0 o
set_option maxHeartbeats 8000000 in
set_option maxRecDepth 100000 in
theorem span_Spans_2.st (k : Nat) (n : Int) (A : Option Addr) (c : Nat) (l : List Int) (o o' : List SSpan) (w0 w : World) (gb gt : Nat) (u : Value)
 (hl : Kd.F (Kd.int .i64) w (fun k => some k ≠ u.ownBlock) A l.length l) (h : span_Spans_2.f k n l o = some o') (hs : SpSt w0 w gb gt u o) :
 Calls Tryd.prog 42 #[.int .i64 n, .slice A l.length c, .pointer (some ⟨gt, 0, none⟩)] w fun e w' => e = .returned (.tuple #[]) ∧ SpSt w0 w' gb gt u o' ∧ Kept w w' (fun k => some k = u.ownBlock) := by
 have HL := zA hl
 have HS := zA hs
 have H' := zA (show span_Spans_2.l0 k n l 0 o = some o' from h)
 clear hl hs h
 go_enter Tryd.func42, Tryd.ntmps42
 go_wp2
 go_loopg [9] k (fun kq v9 w' => ∃ (j : Int) (o1 : List SSpan), v9 = .int .i64 j ∧ Aside0 (span_Spans_2.l0 kq n l j o1 = some o') ∧ Aside0 (kq ≤ k) ∧
  Aside0 (SpSt w0 w' gb gt u o1) ∧ Aside0 (Kd.F (Kd.int .i64) w' (fun k => some k ≠ u.ownBlock) A l.length l) ∧ Aside0 (Kept w w' (fun k => some k = u.ownBlock)))
 case atStart => exact ⟨0, o, by first | rfl | simp, H', ⟨Nat.le_refl _⟩, HS, HL, ⟨Kept.refl _ _⟩⟩
 case round =>
  clear H' HS HL
  obtain ⟨j, o1, rfl, HA, HK1, HS, HL, HK⟩ := hrel
  cases gk with
  | zero => exact absurd HA.out (by simp [span_Spans_2.l0])
  | succ k1 =>
   have H := HA.out
   clear HA
   simp only [span_Spans_2.l0] at H
   by_cases c3 : j < (l.length : Int)
   ·rw [zC c3] at H
    have c3b0 : decide (j < (l.length : Int)) = true := zF c3
    by_cases c4 : ¬ 0 ≤ j
    ·rw [zD c4] at H
     exact absurd H (by simp)
    replace c4 := Decidable.not_not.1 c4
    rw [zC c4] at H
    replace H := Option.bind_eq_some_iff.mp H
    obtain ⟨o2, ht, H⟩ := H
    have HT := zA ht
    have H' := zA H
    clear ht H
    obtain ⟨ad, ea, hx1⟩ := Kd.at_int (Kd.F_now HL.out) j c4 c3
    cases ea
    have ct : wr.cell? ⟨gt, 0, none⟩ = some _ := blk_cell HS.out.bt 0
    go_wp2_with fail
    refine (span_Spans_1.st (rd l j) (wrap64 (2 * n)) o2 HT.out HS.out).mono ?_
    rintro e w3 ⟨rfl, hs3, hk3⟩
    have HL3 := zA (Kd.F_kept HL.out hk3 (fun k hk => hk))
    have HK3 := zA (Kept.then_ HK.out hk3 (fun k hk => .inl hk))
    have HS3 := zA hs3
    clear hs3 hk3 HS HL HK ct hx1
    go_wp2_with fail
    go_roundg k1
    case measure => have := HK1.out; omega
    case rel => exact ⟨_, o2, by first | rfl | simp, H', ⟨by have := HK1.out; omega⟩, HS3, HL3, HK3⟩
   ·rw [zD c3] at H
    have c3b0 : decide (j < (l.length : Int)) = false := zG c3
    obtain rfl := zI H
    clear H
    go_wp2_with fail
    first | go_end0 | ((try simp only [Exit.inBlock, Exit.then]); refine bodyPost_ret (results_none rfl _ _ _) rfl ?_)
    exact ⟨rfl, HS.out, HK.out⟩
section
variable {P : Program} {ops : Array Oper} {Q : Exit → Act → World → Prop}
theorem runV_ {oi : Oper} {a : Act} {w : World} {f : FuncId} {fn : Func} {c : Operand} {xs : Array Operand} {ts : Array TypeId} (hf : P.funcs[f]? = some fn) (hname : (fn.name == "runtime.NumGoroutine") = false) (hb : fn.body.isSome = true) (caps args : Array Value)
 (hop : oi.op = .call { callee := .value c, args := xs, argTypes := ts }) (hc : a.eval c = .func (.func f) #[] caps) (hargs : xs.map a.eval ++ caps = args) :
 (execOp a.eval oi).run P w = .ok (.enter f args) w := by
 have he := enters_ hf hname hb args w
 unfold execOp
 simp [hop, resolve, Deferred.ofValue, invoke, hc, hargs, he]
theorem goesV_ {oi : Oper} {N : Option Tmp} {a : Act} {w : World} {K : Act → World → Prop} {f : FuncId} {fn : Func} {c : Operand} {xs : Array Operand} {ts : Array TypeId} (hf : P.funcs[f]? = some fn) (hname : (fn.name == "runtime.NumGoroutine") = false) (hb : fn.body.isSome = true) (caps args : Array Value)
 (hw : Region.wanted oi (yielded ops a.tmps) = true) (hN : oi.dst = N) (hop : oi.op = .call { callee := .value c, args := xs, argTypes := ts }) (hc : a.eval c = .func (.func f) #[] caps) (hargs : xs.map a.eval ++ caps = args)
 (h : Calls P f args w fun e w' => ∃ v, e = .returned v ∧ K (a.put N v) w') : if Region.wanted oi (yielded ops a.tmps) = true then Oper.wp P oi a w K Q else K (a.put N undef) w :=
 call_ f args hw hN (runV_ hf hname hb caps args hop hc hargs) h
theorem goesLV_ {rest : List Oper} {oi : Oper} {a : Act} {w : World} (N : Option Tmp) (hd : oi.dst = N) (hg : oi.guard = none) {f : FuncId} {fn : Func} {c : Operand} {xs : Array Operand} {ts : Array TypeId} (hf : P.funcs[f]? = some fn) (hname : (fn.name == "runtime.NumGoroutine") = false) (hb : fn.body.isSome = true) (caps args : Array Value)
 (hop : oi.op = .call { callee := .value c, args := xs, argTypes := ts }) (hc : a.eval c = .func (.func f) #[] caps) (hargs : xs.map a.eval ++ caps = args)
 (h : Calls P f args w fun e w' => ∃ v, e = .returned v ∧ wpList P ops Q rest (a.put N v) w') : wpList P ops Q (oi :: rest) a w := by
 refine wpList_plain hg fun K hK => ?_
 unfold Oper.wp
 rw [runV_ hf hname hb caps args hop hc hargs, Oper.upon_enter]
 refine h.mono fun e w'' hh => ?_
 obtain ⟨v, rfl, hk⟩ := hh
 subst hd
 exact hK _ _ hk
theorem qLV {P : Prop} (h : P := by (try simp only [List.map_toArray, List.map_cons, List.map_nil, List.append_toArray, List.cons_append, List.nil_append, Act.eval]); first | done | rfl) : P := h
end
structure SpSt3 (w0 w : World) (gb gt ga : Nat) (u : Value) (l : List SSpan) : Prop where
 st : SpSt w0 w gb gt u l
 ba : w.heap[ga]? = some (.cells #[.func (.func 42) #[] #[.pointer (some ⟨gt, 0, none⟩)]] 75 (0, 0))
theorem SpSt3.below {w0 w w1 : World} {gb gt ga : Nat} {u : Value} {l : List SSpan} (hs : SpSt3 w0 w gb gt ga u l) (hb : Below w.heap.size w w1) : SpSt3 w0 w1 gb gt ga u l :=
 ⟨hs.st.below hb, blk_below hs.ba hb⟩
theorem SpSt3.nea {w0 w : World} {gb gt ga : Nat} {u : Value} {l : List SSpan} (hs : SpSt3 w0 w gb gt ga u l) : ¬ some ga = u.ownBlock := fun e => ne_own hs.ba (Kd.R_typed hs.st.hu) (by decide) e.symm
theorem SpSt3.kept {w0 w w1 : World} {gb gt ga : Nat} {u : Value} {l l' : List SSpan} (hs : SpSt3 w0 w gb gt ga u l) (h1 : SpSt w0 w1 gb gt u l') (hk : Kept w w1 (fun k => some k = u.ownBlock)) : SpSt3 w0 w1 gb gt ga u l' :=
 ⟨h1, blk_kept hs.ba hk hs.nea⟩
def span_Spans_3.l0 : Nat → Int → Int → Int → Int → Int → ByteArray → List Int → List Int → Int → List SSpan → Option (List SSpan)
 | 0, _, _, _, _, _, _, _, _, _, _ => none
 | k + 1, n, x0, x1, x2, x3, x4, x5, l, j, o =>
  if j < (l.length : Int) then
   if 0 ≤ j then
    (span_Spans_1.f (rd l j) (wrap64 (wrap64 (2 * n) + 1)) o).bind fun o1 =>
    (ir_Def.f x0 x1 x2 x3 x4 x5).bind fun d =>
    if d = rd l j then span_Spans_3.l0 k n x0 x1 x2 x3 x4 x5 l (wrap64 (j + 1)) o1
    else (span_Spans_1.f (rd l j) (wrap64 (2 * n)) o1).bind fun o2 => span_Spans_3.l0 k n x0 x1 x2 x3 x4 x5 l (wrap64 (j + 1)) o2
   else none
  else (ir_Def.f x0 x1 x2 x3 x4 x5).bind fun d => if d ≥ 0 then span_Spans_1.f d (wrap64 (wrap64 (2 * n) + 1)) o else some o
def span_Spans_3.f (k : Nat) (n x0 x1 x2 x3 : Int) (x4 : ByteArray) (x5 l : List Int) (o : List SSpan) : Option (List SSpan) :=
 (ir_Uses.f k x0 x1 x2 x3 x4 x5).bind fun us => (span_Spans_2.f k n us o).bind fun o1 => span_Spans_3.l0 k n x0 x1 x2 x3 x4 x5 l 0 o1
def span_Spans_3.T1 : Bool × List (List Nat × List Nat) := (true, [([], []), ([], []), ([], []), ([2], [2]), ([0, 1, 3, 3], [0, 1, 3])])
def span_Spans_3.B1 : List Nat := [0, 0, 0, 4, 15]
theorem span_Spans_3.tab1 : rtab .any (opsOf Tryd.f44 1) = span_Spans_3.T1 := by kernel_rfl
theorem span_Spans_3.bits1 : waitsOk span_Spans_3.T1.2 span_Spans_3.B1 = true := by kernel_rfl
set_option maxHeartbeats 8000000 in
set_option maxRecDepth 100000 in
theorem span_Spans_3.st (k : Nat) (n x0 x1 x2 x3 : Int) (x4 : ByteArray) (A5 : Option Addr) (c5 : Nat) (x5 : List Int) (A : Option Addr) (c : Nat) (l : List Int) (o o' : List SSpan) (w0 w : World) (gb gt ga : Nat) (u : Value) (hL : LaidW w0)
 (h5 : Kd.F (Kd.int .i64) w (fun k => some k ≠ u.ownBlock) A5 x5.length x5) (h5c : x5.length ≤ c5)
 (hl : Kd.F (Kd.int .i64) w (fun k => some k ≠ u.ownBlock) A l.length l) (h : span_Spans_3.f k n x0 x1 x2 x3 x4 x5 l o = some o') (hs : SpSt3 w0 w gb gt ga u o) :
 Calls Tryd.prog 44 #[.int .i64 n, .agg #[.int .i64 x0, .int .i64 x1, .int .i64 x2, .int .i64 x3, .string x4, .slice A5 x5.length c5], .slice A l.length c, .pointer (some ⟨ga, 0, none⟩), .pointer (some ⟨gt, 0, none⟩)] w
  fun e w' => e = .returned (.tuple #[]) ∧ SpSt3 w0 w' gb gt ga u o' ∧ Kept w w' (fun k => some k = u.ownBlock) := by
 have HL := zA hl
 have H5 := zA h5
 have HC5 := zA h5c
 have HS := zA hs
 have HLd := zA hL
 have HK := zA (Kept.refl w (fun k => some k = u.ownBlock))
 have H := h
 clear hl hs h h5 h5c hL
 unfold span_Spans_3.f at H
 replace H := qb H; obtain ⟨us, A1, H⟩ := H
 replace H := qb H; obtain ⟨o1, A2, H⟩ := H
 have H' := zA H
 clear H
 have hu38 := Tryd.underlying38
 go_enter Tryd.func44, Tryd.ntmps44
 try go_wp2_with (first | ((with_reducible refine gate_dst (N := 6) rfl ?_); refine box_event (by rfl) (N := 6) (by rfl) (cs := #[.int .i64 x0, .int .i64 x1, .int .i64 x2, .int .i64 x3, .string x4, .slice A5 x5.length c5]) (t := 38) ?hr ?_; (case hr => go_simp <;> rfl); intro gx hg w1 hbox hb; have BX := zA hbox; replace HS := zA (HS.out.below hb); replace HL := zA (Kd.F_below HL.out hb); replace H5 := zA (Kd.F_below H5.out hb); replace HK := zA (Kept.below HK.out hb); clear hb hbox hg))
 have z1 := bk6 BX.out
 have n0_ := zA (blk_drew BX.out)
 have n1_ := zA (HS.out.below (below_drew (Below.refl _ _)))
 have n2_ := zA (Kd.F_drew HL.out)
 have n3_ := zA (Kd.F_drew H5.out)
 have n4_ := zA (Kept.drew HK.out)
 clear z1 BX HS HL H5 HK
 refine start_ (n := 5) (S := fun w' => w'.cell? ⟨ga, 0, none⟩ = some (.func (.func 42) #[] #[.pointer (some ⟨gt, 0, none⟩)]) ∧ w'.cell? ⟨gx, 0, none⟩ = some (.int .i64 x0) ∧ w'.cell? ⟨gx, 1, none⟩ = some (.int .i64 x1) ∧ w'.cell? ⟨gx, 2, none⟩ = some (.int .i64 x2) ∧ w'.cell? ⟨gx, 3, none⟩ = some (.int .i64 x3) ∧ w'.cell? ⟨gx, 4, none⟩ = some (.string x4) ∧ w'.cell? ⟨gx, 5, none⟩ = some (.slice A5 x5.length c5)) (ds := []) (bA 5 0) (by kernel_rfl) rfl rfl ⟨(blk_cell n1_.out.ba 0).trans rfl, (blk_cell n0_.out 0).trans rfl, (blk_cell n0_.out 1).trans rfl, (blk_cell n0_.out 2).trans rfl, (blk_cell n0_.out 3).trans rfl, (blk_cell n0_.out 4).trans rfl, (blk_cell n0_.out 5).trans rfl⟩ (fun hHeld => ?_); refine with_tabW span_Spans_3.tab1 span_Spans_3.bits1 (fun HT_ HW_ => ?_)
 generalize w1.drew = w2 at n0_ n1_ n2_ n3_ n4_ hHeld ⊢
 refine pu_ (i := 1) (N := some 12) (bA 5 2) ?_
 refine tk_ (i := 0) (N := some 11) (bA 5 3) ?_
 refine tk_ (i := 2) (N := some 13) (bA 5 7) ?_
 refine one_ (i := 3) (N := some 14) (bA 5 15) rfl rfl (one_of HT_.out (by kernel_rfl)) (by decide) (fun K hK => ?_)
 refine goes_ Tryd.func45 (by kernel_rfl) rfl #[.agg #[.int .i64 x0, .int .i64 x1, .int .i64 x2, .int .i64 x3, .string x4, .slice A5 x5.length c5]] (by rfl) rfl rfl qL ?_
 with_reducible refine (ir_Uses.calls k x0 x1 x2 x3 x4 _ _ x5 us _ ?side1 ?side2 A1.out (hL := ?side99)).mono ?_
 (case side1 => exact Kd.F_now n3_.out)
 (case side2 => exact HC5.out)
 (case side99 => exact LaidW.below HLd.out n1_.out.st.hB)
 rintro e w3 ⟨v0, rfl, ho, hb⟩
 refine ⟨_, rfl, ?_⟩
 obtain ⟨Au, cu, eu⟩ := Kd.R_slice ho
 subst eu
 have HU := zA (Kd.F_mono (Kd.R_F (Kd.R_bound ho)) (fun q hq => fun e_ => by have := Kd.R_lt n1_.out.st.hu q e_.symm; omega : ∀ q, _ → some q ≠ u.ownBlock))
 have BX := zA (blk_below n0_.out hb)
 have HS := zA (n1_.out.below hb)
 have HL := zA (Kd.F_below n2_.out hb)
 have H5 := zA (Kd.F_below n3_.out hb)
 have HK := zA (Kept.below n4_.out hb)
 clear n0_ n1_ n2_ n3_ n4_ hHeld ho hb
 refine hK.out _ _ ⟨(blk_cell HS.out.ba 0).trans rfl, (blk_cell BX.out 0).trans rfl, (blk_cell BX.out 1).trans rfl, (blk_cell BX.out 2).trans rfl, (blk_cell BX.out 3).trans rfl, (blk_cell BX.out 4).trans rfl, (blk_cell BX.out 5).trans rfl⟩ (fun hHeld => ?_)
 clear hK K
 refine norm_ (a' := ?_) ?_ ?_
 rotate_left
 ·show Act.put _ (some 14) _ = _
  simp only [Act.put, List.setIfInBounds_toArray, List.set_cons_zero, List.set_cons_succ, i64_w, i32_w]
  rfl
 refine one_ (i := 4) (N := some 15) (bA 5 31) rfl rfl (one_of HT_.out (by kernel_rfl)) (by decide) (fun K hK => ?_)
 refine goesV_ Tryd.func42 (by kernel_rfl) rfl #[.pointer (some ⟨gt, 0, none⟩)] #[.int .i64 n, .slice Au us.length cu, .pointer (some ⟨gt, 0, none⟩)] (by rfl) rfl rfl (by rfl) qLV ?_
 refine (span_Spans_2.st k n Au cu us o o1 w0 w3 gb gt u HU.out A2.out HS.out.st).mono ?_
 rintro e w4 ⟨rfl, hs4, hk4⟩
 refine ⟨_, rfl, ?_⟩
 have nx : ¬ some gx = u.ownBlock := fun e => ne_own BX.out (Kd.R_typed HS.out.st.hu) (by decide) e.symm
 replace BX := zA (blk_kept BX.out hk4 nx)
 replace HS := zA (HS.out.kept hs4 hk4)
 replace HL := zA (Kd.F_kept HL.out hk4 (fun k hk => hk))
 replace H5 := zA (Kd.F_kept H5.out hk4 (fun k hk => hk))
 replace HK := zA (Kept.then_ HK.out hk4 (fun k hk => .inl hk))
 clear hs4 hk4 HU hHeld A1 A2
 refine hK.out _ _ ⟨(blk_cell HS.out.ba 0).trans rfl, (blk_cell BX.out 0).trans rfl, (blk_cell BX.out 1).trans rfl, (blk_cell BX.out 2).trans rfl, (blk_cell BX.out 3).trans rfl, (blk_cell BX.out 4).trans rfl, (blk_cell BX.out 5).trans rfl⟩ (fun hHeld => ?_)
 clear hK K hHeld
 refine norm_ (a' := ?_) ?_ ?_
 rotate_left
 ·show Act.put _ (some 15) _ = _
  simp only [Act.put, List.setIfInBounds_toArray, List.set_cons_zero, List.set_cons_succ, i64_w, i32_w]
  rfl
 refine done_ (done_of HT_.out (by kernel_rfl)) ?_
 go_wp2
 go_loopg [18] k (fun kq v18 w' => ∃ (j : Int) (o2 : List SSpan), v18 = .int .i64 j ∧ Aside0 (span_Spans_3.l0 kq n x0 x1 x2 x3 x4 x5 l j o2 = some o') ∧ Aside0 (kq ≤ k) ∧
  Aside0 (SpSt3 w0 w' gb gt ga u o2) ∧ Aside0 (Kd.F (Kd.int .i64) w' (fun k => some k ≠ u.ownBlock) A l.length l) ∧ Aside0 (Kd.F (Kd.int .i64) w' (fun k => some k ≠ u.ownBlock) A5 x5.length x5) ∧
  Aside0 (w'.heap[gx]? = some (.cells #[.int .i64 x0, .int .i64 x1, .int .i64 x2, .int .i64 x3, .string x4, .slice A5 x5.length c5] 38 (0, 0))) ∧ Aside0 (Kept w w' (fun k => some k = u.ownBlock)))
 case atStart => exact ⟨0, o1, by first | rfl | simp, H', ⟨Nat.le_refl _⟩, HS, HL, H5, BX, HK⟩
 case round =>
  clear H' HS HL H5 BX HK
  obtain ⟨j, o2, rfl, HA, HK1, HS, HL, H5, BX, HK⟩ := hrel
  cases gk with
  | zero => exact absurd HA.out (by simp [span_Spans_3.l0])
  | succ k1 =>
   have H := HA.out
   clear HA
   simp only [span_Spans_3.l0] at H
   by_cases c3 : j < (l.length : Int)
   ·rw [zC c3] at H
    have c3b0 : decide (j < (l.length : Int)) = true := zF c3
    by_cases c4 : ¬ 0 ≤ j
    ·rw [zD c4] at H
     exact absurd H (by simp)
    replace c4 := Decidable.not_not.1 c4
    rw [zC c4] at H
    replace H := qb H; obtain ⟨o3, A3, H⟩ := H
    replace H := qb H; obtain ⟨d, A4, H⟩ := H
    obtain ⟨ad, ea, hx1⟩ := Kd.at_int (Kd.F_now HL.out) j c4 c3
    cases ea
    have ct : wr.cell? ⟨gt, 0, none⟩ = some _ := blk_cell HS.out.st.bt 0
    go_wp2_with fail
    refine (span_Spans_1.st (rd l j) (wrap64 (wrap64 (2 * n) + 1)) o3 A3.out HS.out.st).mono ?_
    rintro e w5 ⟨rfl, hs_, hk_⟩
    have nx_ : ¬ some gx = u.ownBlock := fun e => ne_own BX.out (Kd.R_typed HS.out.st.hu) (by decide) e.symm
    replace BX := zA (blk_kept BX.out hk_ nx_)
    replace HS := zA (HS.out.kept hs_ hk_)
    replace HL := zA (Kd.F_kept HL.out hk_ (fun k hk => hk))
    replace H5 := zA (Kd.F_kept H5.out hk_ (fun k hk => hk))
    replace HK := zA (Kept.then_ HK.out hk_ (fun k hk => .inl hk))
    clear hs_ hk_ nx_
    clear ct hx1 A3
    have z_ := bk6 BX.out
    by_cases q5 : d = rd l j
    ·rw [zC q5] at H
     have H' := zA H
     clear H
     obtain ⟨c5b0, c5b1⟩ := qe q5
     go_wp2_with ((with_reducible refine gate_callee (f := 46) rfl ?_); refine goesL_ (some 29) rfl rfl Tryd.func46 (by kernel_rfl) rfl #[.agg #[.int .i64 x0, .int .i64 x1, .int .i64 x2, .int .i64 x3, .string x4, .slice A5 x5.length c5]] rfl qL ?_; (with_reducible refine (ir_Def.calls x0 x1 x2 x3 x4 _ _ x5 d _ ?side1 ?side2 A4.out (hL := ?side99)).mono ?_); (case side1 => exact Kd.F_now H5.out); (case side2 => exact HC5.out); (case side99 => exact LaidW.below HLd.out HS.out.st.hB); rintro e w6 ⟨rfl, hb⟩; refine ⟨_, rfl, ?_⟩; replace HS := zA (HS.out.below hb); replace HL := zA (Kd.F_below HL.out hb); replace H5 := zA (Kd.F_below H5.out hb); replace HK := zA (Kept.below HK.out hb); replace BX := zA (blk_below BX.out hb); clear hb)
     go_roundg k1
     case measure => have := HK1.out; omega
     case rel => exact ⟨_, o3, by first | rfl | simp, H', ⟨by have := HK1.out; omega⟩, HS, HL, H5, BX, HK⟩
    ·rw [zD q5] at H
     replace H := qb H; obtain ⟨o4, A5_, H⟩ := H
     have H' := zA H
     clear H
     obtain ⟨c5b0, c5b1⟩ := qn q5
     go_wp2_with ((with_reducible refine gate_callee (f := 46) rfl ?_); refine goesL_ (some 29) rfl rfl Tryd.func46 (by kernel_rfl) rfl #[.agg #[.int .i64 x0, .int .i64 x1, .int .i64 x2, .int .i64 x3, .string x4, .slice A5 x5.length c5]] rfl qL ?_; (with_reducible refine (ir_Def.calls x0 x1 x2 x3 x4 _ _ x5 d _ ?side1 ?side2 A4.out (hL := ?side99)).mono ?_); (case side1 => exact Kd.F_now H5.out); (case side2 => exact HC5.out); (case side99 => exact LaidW.below HLd.out HS.out.st.hB); rintro e w6 ⟨rfl, hb⟩; refine ⟨_, rfl, ?_⟩; replace HS := zA (HS.out.below hb); replace HL := zA (Kd.F_below HL.out hb); replace H5 := zA (Kd.F_below H5.out hb); replace HK := zA (Kept.below HK.out hb); replace BX := zA (blk_below BX.out hb); clear hb; have ct := blk_cell HS.out.st.bt 0)
     refine (span_Spans_1.st (rd l j) (wrap64 (2 * n)) o4 A5_.out HS.out.st).mono ?_
     rintro e w7 ⟨rfl, hs_, hk_⟩
     have nx_ : ¬ some gx = u.ownBlock := fun e => ne_own BX.out (Kd.R_typed HS.out.st.hu) (by decide) e.symm
     replace BX := zA (blk_kept BX.out hk_ nx_)
     replace HS := zA (HS.out.kept hs_ hk_)
     replace HL := zA (Kd.F_kept HL.out hk_ (fun k hk => hk))
     replace H5 := zA (Kd.F_kept H5.out hk_ (fun k hk => hk))
     replace HK := zA (Kept.then_ HK.out hk_ (fun k hk => .inl hk))
     clear hs_ hk_ nx_
     go_wp2_with fail
     go_roundg k1
     case measure => have := HK1.out; omega
     case rel => exact ⟨_, o4, by first | rfl | simp, H', ⟨by have := HK1.out; omega⟩, HS, HL, H5, BX, HK⟩
   ·rw [zD c3] at H
    have c3b0 : decide (j < (l.length : Int)) = false := zG c3
    replace H := qb H; obtain ⟨d, A4, H⟩ := H
    have z_ := bk6 BX.out
    by_cases q6 : d ≥ 0
    ·rw [zC q6] at H
     have A6 := zA H
     clear H
     have c6b := zF q6
     go_wp2_with ((with_reducible refine gate_callee (f := 46) rfl ?_); refine goesL_ (some 39) rfl rfl Tryd.func46 (by kernel_rfl) rfl #[.agg #[.int .i64 x0, .int .i64 x1, .int .i64 x2, .int .i64 x3, .string x4, .slice A5 x5.length c5]] rfl qL ?_; (with_reducible refine (ir_Def.calls x0 x1 x2 x3 x4 _ _ x5 d _ ?side1 ?side2 A4.out (hL := ?side99)).mono ?_); (case side1 => exact Kd.F_now H5.out); (case side2 => exact HC5.out); (case side99 => exact LaidW.below HLd.out HS.out.st.hB); rintro e w6 ⟨rfl, hb⟩; refine ⟨_, rfl, ?_⟩; replace HS := zA (HS.out.below hb); replace HL := zA (Kd.F_below HL.out hb); replace H5 := zA (Kd.F_below H5.out hb); replace HK := zA (Kept.below HK.out hb); replace BX := zA (blk_below BX.out hb); clear hb; have ct := blk_cell HS.out.st.bt 0)
     refine (span_Spans_1.st d (wrap64 (wrap64 (2 * n) + 1)) o' A6.out HS.out.st).mono ?_
     rintro e w7 ⟨rfl, hs_, hk_⟩
     have nx_ : ¬ some gx = u.ownBlock := fun e => ne_own BX.out (Kd.R_typed HS.out.st.hu) (by decide) e.symm
     replace BX := zA (blk_kept BX.out hk_ nx_)
     replace HS := zA (HS.out.kept hs_ hk_)
     replace HL := zA (Kd.F_kept HL.out hk_ (fun k hk => hk))
     replace H5 := zA (Kd.F_kept H5.out hk_ (fun k hk => hk))
     replace HK := zA (Kept.then_ HK.out hk_ (fun k hk => .inl hk))
     clear hs_ hk_ nx_
     go_wp2_with fail
     first | go_end0 | ((try simp only [Exit.inBlock, Exit.then]); refine bodyPost_ret (results_none rfl _ _ _) rfl ?_)
     exact ⟨rfl, HS.out, HK.out⟩
    ·rw [zD q6] at H
     obtain rfl := zI H
     clear H
     have c6b := zG q6
     go_wp2_with ((with_reducible refine gate_callee (f := 46) rfl ?_); refine goesL_ (some 39) rfl rfl Tryd.func46 (by kernel_rfl) rfl #[.agg #[.int .i64 x0, .int .i64 x1, .int .i64 x2, .int .i64 x3, .string x4, .slice A5 x5.length c5]] rfl qL ?_; (with_reducible refine (ir_Def.calls x0 x1 x2 x3 x4 _ _ x5 d _ ?side1 ?side2 A4.out (hL := ?side99)).mono ?_); (case side1 => exact Kd.F_now H5.out); (case side2 => exact HC5.out); (case side99 => exact LaidW.below HLd.out HS.out.st.hB); rintro e w6 ⟨rfl, hb⟩; refine ⟨_, rfl, ?_⟩; replace HS := zA (HS.out.below hb); replace HL := zA (Kd.F_below HL.out hb); replace H5 := zA (Kd.F_below H5.out hb); replace HK := zA (Kept.below HK.out hb); replace BX := zA (blk_below BX.out hb); clear hb)
     first | go_end0 | ((try simp only [Exit.inBlock, Exit.then]); refine bodyPost_ret (results_none rfl _ _ _) rfl ?_)
     exact ⟨rfl, HS.out, HK.out⟩
end Go.Proofs.YtpkimbkjjmbmcaaDoor.Q
namespace Go.Proofs.YtpkimbkjjmbmcaaDoor.Q
open Go.RowKit Go.Proofs.YtpkimbkjjmbmcaaDoorW.PrintWords Go.Proofs.YtpkimbkjjmbmcaaDoorW.PrintLast Go.Proofs.YtpkimbkjjmbmcaaDoorW.PrintMore
attribute [local go_sem] max2_int min2_int max_two min_two max_three min_three max_four min_four
set_option linter.unusedVariables false
set_option linter.unusedSimpArgs false

def live_set_list.l0 : Nat → Int → List Int → Option (List Int)
 | 0, _, _ => none
 | k + 1, x0, x3 => if x0 = 0 then (some x3) else ((bits_TrailingZeros64.f x0).bind fun t383 => (if x3.length < 17592186044416 then (live_set_list.l0 k (Go.bits .and .u64 x0 (IntKind.u64.wrap (x0 - 1))) (x3 ++ [t383])) else (none)))
def live_set_list.f (k : Nat) (a0 : Int) : Option (List Int) := live_set_list.l0 k a0 ([] : List Int)
set_option maxHeartbeats 8000000 in
set_option maxRecDepth 100000 in
theorem live_set_list.calls (k : Nat) (a0 : Int) (r : List Int) (w : World) (hL : LaidW w) (h : live_set_list.f k a0 = some r) :
 Calls Tryd.prog 122 #[.int .u64 a0] w fun e w' => ∃ v0_ : Value, e = .returned (v0_) ∧ Kd.R (Kd.int .i64) 3 w' w.heap.size (fun _ => True) v0_ r ∧ Below w.heap.size w w' := by
 have HB := zA (Below.refl w.heap.size w)
 have HLd := zA hL
 clear hL
 have H := h; clear h; unfold live_set_list.f at H
 have H' := zA H
 clear H
 go_enter Tryd.func122, Tryd.ntmps122
 go_wp2
 go_loopg [0, 3] k (fun kq v0 v3 w' => ∃ (x0_1 : Int) (x3_1 : List Int), v0 = .int .u64 x0_1 ∧ Aside0 (live_set_list.l0 kq x0_1 x3_1 = some r) ∧ Aside0 (kq ≤ k) ∧ Aside0 (Kd.R (Kd.int .i64) 3 w' w.heap.size (fun _ => True) v3 x3_1) ∧ Aside0 (Below w.heap.size w w'))
 case atStart => exact ⟨(a0), (([] : List Int)), qT, H', ⟨Nat.le_refl _⟩, ⟨by first | exact Kd.R_nil _ _ _ _ _ | exact Kd.N_nil _ _ _ _ _ | exact Kd.V_nil _ _ _ _ _ | exact Kd.Q_nil _ _ _ _ _ | exact Kd.S_nil _ _ _ _ _⟩, ⟨qB⟩⟩
 case round =>
  clear H'
  obtain ⟨x0_1, x3_1, rfl, HA, HK1, HO_3, HB⟩ := hrel
  cases gk with
  | zero => exact absurd HA.out (by simp [live_set_list.l0])
  | succ k1 =>
   have H := HA.out
   clear HA
   simp only [live_set_list.l0] at H
   by_cases c2 : x0_1 = 0
   ·rw [zC c2] at H
    obtain ⟨c2b0, c2b1⟩ := qe c2; clear c2
    obtain rfl := zI H
    go_wp2
    go_ret
    exact ⟨_, qE, qR HO_3.out, qB⟩
   ·rw [zD c2] at H
    obtain ⟨c2b0, c2b1⟩ := qn c2
    replace H := qb H; obtain ⟨t383, A3, H⟩ := H
    by_cases c4 : x3_1.length < 17592186044416
    ·rw [zC c4] at H
     have LMc4 := zA c4
     clear c4
     obtain ⟨y384, hy384⟩ : ∃ y_ : List Int, y_ = (x3_1 ++ [t383]) := ⟨_, rfl⟩
     replace H : (live_set_list.l0 k1 (Go.bits .and .u64 x0_1 (IntKind.u64.wrap (x0_1 - 1))) y384) = some r := by (try rw [hy384]); first | with_reducible exact H | exact (zJ _ _).symm.trans H | exact H
     have Ny384 := zA hy384
     clear hy384
     have H' := zA H
     clear H
     go_wp2_with (first | ((with_reducible refine gate_callee (f := 157) rfl ?_); refine goesL_ (some 12) rfl rfl Tryd.func157 (by kernel_rfl) rfl #[.int .u64 x0_1] rfl qL ?_; (with_reducible refine (bits_TrailingZeros64.calls x0_1 t383 _ A3.out (hL := ?side99)).mono ?_); (case side99 => exact LaidW.below HLd.out qB); rintro e w' ⟨rfl, ⟨nd, rfl⟩⟩; refine ⟨_, rfl, ?_⟩) | ((with_reducible refine gate_builtin (b := .append) (xs := #[.tmp 10, .tmp 13]) rfl ?_); at_builtin; refine Kd.R_append (Kd.int .i64) (w0 := w) w.heap.size rfl (.tmp 10) (.tmp 13) 35 3 (.int .i64 0) 8 rfl Tryd.underlying35 info3 rfl (by decide) (by omega) u3 x3_1 t383 [.int .i64 t383] (fun _ => True) (fun _ => False) rfl rfl ?aP (fun _ hk => hk.elim) ?aF ?aO ?aB ?aS ?aL ?_; (case aP => exact rfl); (case aB => exact qB); (case aF => exact (fun _ _ => trivial)); (case aO => exact (qR HO_3.out)); (case aS => exact (below_size qB)); (case aL => have := LMc4.out; omega); intro v385 w5 ho hb hg hat; rw [← Ny384.out] at ho; replace HB := zA (hb); have HO386 := zA (ho); clear HO_3; clear ho hb hg hat))
     go_roundg k1
     case measure => have := HK1.out; omega
     case rel => exact ⟨(Go.bits .and .u64 x0_1 (IntKind.u64.wrap (x0_1 - 1))), (y384), qT, H', ⟨by have := HK1.out; omega⟩, ⟨qR HO386.out⟩, ⟨qB⟩⟩
    ·rw [zD c4] at H
     exact absurd H (by simp)

def live_In.l0 : Nat → List (List Int) → List Int → Int → Int → Option ((List (List Int)))
 | 0, _, _, _, _ => none
 | k + 1, x3, x10, x11, x12 => if x12 < x11 then (if 0 ≤ x12 then (if x12 < (x10.length : Int) then ((live_set_list.f k (rd x10 x12)).bind fun t393 => (if x3.length < 5864062014805 then (live_In.l0 k (x3 ++ [t393]) x10 x11 (wrap64 (x12 + 1))) else (none))) else (none)) else (none)) else (some x3)
def live_In.f (k : Nat) (a0_0 : ByteArray) (a0_1 : Int) (a0_2 : Int) (l0_3 : List (List (SIns))) : Option ((List (List Int))) := (ir_Check.f k a0_0 a0_1 a0_2 l0_3).bind fun t388 => (if t388 = 0 then ((live_sets.f k a0_0 a0_1 a0_2 l0_3).bind fun t389 => (live_In.l0 k ([] : List (List Int)) t389 (t389.length : Int) 0)) else (some ([] : List (List Int))))
set_option maxHeartbeats 8000000 in
set_option maxRecDepth 100000 in
theorem live_In.calls (k : Nat) (a0_0 : ByteArray) (a0_1 : Int) (a0_2 : Int) (A0_3 : Option Addr) (c0_3 : Nat) (l0_3 : List (List (SIns))) (r : List (List Int)) (w : World) (hL : LaidW w) (hr0_3 : Kd.C (Kd.slice 38 kIns) w A0_3 l0_3.length l0_3) (hc0_3 : l0_3.length ≤ c0_3) (h : live_In.f k a0_0 a0_1 a0_2 l0_3 = some r) :
 Calls Tryd.prog 83 #[.agg #[.string a0_0, .int .i64 a0_1, .int .i64 a0_2, .slice A0_3 l0_3.length c0_3]] w fun e w' => ∃ v0_ : Value, e = .returned (v0_) ∧ Kd.S (Kd.slice 3 (Kd.int .i64)) 35 w' w.heap.size (fun _ => True) v0_ r ∧ Below w.heap.size w w' := by
 have hu24 := Tryd.underlying24
 have HR0_3 := zA hr0_3
 have HC0_3 := zA hc0_3
 clear hr0_3 hc0_3
 have HB := zA (Below.refl w.heap.size w)
 have HLd := zA hL
 clear hL
 have H := h; clear h; unfold live_In.f at H
 replace H := qb H; obtain ⟨t388, A2, H⟩ := H
 by_cases c3 : t388 = 0
 ·rw [zC c3] at H
  obtain ⟨c3b0, c3b1⟩ := qe c3; clear c3
  replace H := qb H; obtain ⟨t389, A4, H⟩ := H
  have H' := zA H
  clear H
  go_enter Tryd.func83, Tryd.ntmps83
  go_wp2_with (first | ((with_reducible refine gate_dst (N := 1) rfl ?_); refine box_event (by rfl) (N := 1) (by rfl) (cs := #[.string a0_0, .int .i64 a0_1, .int .i64 a0_2, .slice A0_3 l0_3.length c0_3]) (t := 24) ?hr ?_; (case hr => go_simp <;> rfl); intro gb387 hg w5 hbox hb; have BK387 := zA (hbox); have GW387 := qG hg; have GE387 := GW387; replace HB := qH hb; clear hb hbox hg; have z6_0 := bk4 BK387.out) | ((with_reducible refine gate_callee (f := 78) rfl ?_); refine goesL_ (some 7) rfl rfl Tryd.func78 (by kernel_rfl) rfl #[.agg #[.string a0_0, .int .i64 a0_1, .int .i64 a0_2, .slice A0_3 l0_3.length c0_3]] rfl qL ?_; (with_reducible refine (ir_Check.calls k a0_0 a0_1 a0_2 _ _ l0_3 t388 _ ?side1 ?side2 A2.out (hL := ?side99)).mono ?_); (case side1 => exact qCB HR0_3.out); (case side2 => exact HC0_3.out); (case side99 => exact LaidW.below HLd.out qB); rintro e w7 ⟨rfl, hb⟩; refine ⟨_, rfl, ?_⟩; replace BK387 := qW BK387 hb; replace HB := qH hb; (try clear hb); have z8_0 := bk4 BK387.out) | ((with_reducible refine gate_callee (f := 79) rfl ?_); refine goesL_ (some 10) rfl rfl Tryd.func79 (by kernel_rfl) rfl #[.agg #[.string a0_0, .int .i64 a0_1, .int .i64 a0_2, .slice A0_3 l0_3.length c0_3]] rfl qL ?_; (with_reducible refine (live_sets.calls k a0_0 a0_1 a0_2 _ _ l0_3 t389 _ ?side1 ?side2 A4.out (hL := ?side99)).mono ?_); (case side1 => exact qCB HR0_3.out); (case side2 => exact HC0_3.out); (case side99 => exact LaidW.below HLd.out qB); rintro e w9 ⟨v390, rfl, ho0, hb⟩; refine ⟨_, rfl, ?_⟩; have HO391 := zA (Kd.R_lower ho0 (below_size qB)); replace BK387 := qW BK387 hb; replace HB := qH hb; (try clear hb); (try clear ho0); obtain ⟨Ao10, co10, eo10⟩ := Kd.R_slice HO391.out; subst eo10))
  go_loopg [3, 12] k (fun kq v3 v12 w' => ∃ (x3_1 : List (List Int)) (x12_1 : Int), v12 = .int .i64 x12_1 ∧ Aside0 (live_In.l0 kq x3_1 t389 (t389.length : Int) x12_1 = some r) ∧ Aside0 (kq ≤ k) ∧ Aside0 (Kd.S (Kd.slice 3 (Kd.int .i64)) 35 w' w.heap.size (fun _ => True) v3 x3_1) ∧ Aside0 (Kd.R (Kd.int .u64) 121 w' w.heap.size (fun _ => True) (.slice Ao10 t389.length co10) t389) ∧ Aside0 (w'.heap[gb387]? = some (.cells #[.string a0_0, .int .i64 a0_1, .int .i64 a0_2, (.slice A0_3 l0_3.length c0_3)] 24 (0, 0))) ∧ Aside0 (Below w.heap.size w w'))
  case atStart => exact ⟨(([] : List (List Int))), (0), qT, H', ⟨Nat.le_refl _⟩, ⟨by first | exact Kd.S_nil _ _ _ _ _ | exact Kd.N_nil _ _ _ _ _ | exact Kd.V_nil _ _ _ _ _ | exact Kd.Q_nil _ _ _ _ _ | exact Kd.R_nil _ _ _ _ _⟩, ⟨qR HO391.out⟩, ⟨qK BK387.out⟩, ⟨qB⟩⟩
  case round =>
   clear H'
   obtain ⟨x3_1, x12_1, rfl, HA, HK1, HO_3, HO_10, BK387, HB⟩ := hrel
   cases gk with
   | zero => exact absurd HA.out (by simp [live_In.l0])
   | succ k1 =>
    have H := HA.out
    clear HA
    simp only [live_In.l0] at H
    by_cases c11 : x12_1 < (t389.length : Int)
    ·rw [zC c11] at H
     have c11b0 := zF c11
     clear c11
     by_cases c12 : 0 ≤ x12_1
     ·rw [zC c12] at H
      have c12b0 := zF c12
      clear c12
      by_cases c13 : x12_1 < (t389.length : Int)
      ·rw [zC c13] at H
       have c13b0 := zF c13
       clear c13
       replace H := qb H; obtain ⟨t393, A14, H⟩ := H
       by_cases c15 : x3_1.length < 5864062014805
       ·rw [zC c15] at H
        have LMc15 := zA c15
        clear c15
        obtain ⟨y396, hy396⟩ : ∃ y_ : List (List Int), y_ = (x3_1 ++ [t393]) := ⟨_, rfl⟩
        replace H : (live_In.l0 k1 y396 t389 (t389.length : Int) (wrap64 (x12_1 + 1))) = some r := by (try rw [hy396]); first | with_reducible exact H | exact (zJ _ _).symm.trans H | exact H
        have Ny396 := zA hy396
        clear hy396
        have H' := zA H
        clear H
        have p392 : 0 ≤ (x12_1 : Int) := zB qA
        have q392 : x12_1 < (t389.length : Int) := zB qA
        obtain ⟨ad392, e392, hx392_0⟩ := Kd.at_int (Kd.R_reads' HO_10.out).2.2 x12_1 p392 q392
        cases e392
        replace p392 := eq_true p392
        replace q392 := eq_true q392
        go_wp2_with (first | ((with_reducible refine gate_callee (f := 122) rfl ?_); refine goesL_ (some 18) rfl rfl Tryd.func122 (by kernel_rfl) rfl #[.int .u64 (rd t389 x12_1)] rfl qL ?_; (with_reducible refine (live_set_list.calls k1 (rd t389 x12_1) t393 _ A14.out (hL := ?side99)).mono ?_); (case side99 => exact LaidW.below HLd.out qB); rintro e w16 ⟨v394, rfl, ho0, hb⟩; refine ⟨_, rfl, ?_⟩; replace HO_3 := zA (Kd.S_elder' (qS HO_3.out) (Kd.R_base ho0) hb); replace HO_10 := zA (Kd.R_below (qR HO_10.out) hb); have HO395 := zA (Kd.R_lower ho0 (below_size qB)); replace BK387 := qW BK387 hb; replace HB := qH hb; (try clear hb); (try clear ho0); obtain ⟨Ao18, co18, eo18⟩ := Kd.R_slice HO395.out; subst eo18) | ((with_reducible refine gate_builtin (b := .append) (xs := #[.tmp 16, .tmp 19]) rfl ?_); at_builtin; refine Kd.S_append (Kd.slice 3 (Kd.int .i64)) (w0 := w) w.heap.size rfl (.tmp 16) (.tmp 19) 30 35 (.slice none 0 0) 24 rfl Tryd.underlying30 info35 rfl (by decide) (by omega) u3 x3_1 t393 [.slice Ao18 t393.length co18] (fun _ => True) (fun k_ => some k_ = (.slice Ao18 t393.length co18 : Value).ownBlock) rfl rfl ?aP (fun k_ hk_ => ((Kd.R_mono (ok' := fun k_ => ((fun _ => True)) k_ ∧ some k_ ≠ (u3 : Value).ownBlock) (Kd.R_apart' (HO395.out) (Kd.S_typed HO_3.out) (by decide)) (fun k_ hk => ⟨trivial, hk.2⟩))).1 k_ hk_.symm) ?aF ?aO ?aB ?aS ?aL ?_; (case aP => exact Kd.M_row (Kd.R_mono (Kd.R_tight rfl (Kd.R_mono (ok' := fun k_ => ((fun _ => True)) k_ ∧ some k_ ≠ (u3 : Value).ownBlock) (Kd.R_apart' (HO395.out) (Kd.S_typed HO_3.out) (by decide)) (fun k_ hk => ⟨trivial, hk.2⟩))) (fun _ h_ => h_))); (case aB => exact qB); (case aF => exact (fun _ _ => trivial)); (case aO => exact (by (with_reducible repeat (first | apply Kd.S_alloc | apply Kd.S_drewN | apply Kd.S_drew)); exact Kd.S_mono HO_3.out (fun k_ hk => ⟨trivial, fun e_ => hk.2 e_⟩))); (case aS => exact (below_size qB)); (case aL => have := LMc15.out; omega); intro v397 w17 ho hb hg hat; rw [← Ny396.out] at ho; replace HO_10 := zA (Kd.R_over' (qR HO_10.out) (Kd.S_typed (qS HO_3.out)) (by decide) hg); replace BK387 := zA (blk_grown (qK BK387.out) hg (Kd.S_ne HO_3.out BK387.out (by decide))); replace HB := zA (hb); have HO398 := zA (ho); clear HO_3 HO395; clear ho hb hg hat))
        go_roundg k1
        case measure => have := HK1.out; omega
        case rel => exact ⟨(y396), (wrap64 (x12_1 + 1)), qT, H', ⟨by have := HK1.out; omega⟩, ⟨qS HO398.out⟩, ⟨qR HO_10.out⟩, ⟨qK BK387.out⟩, ⟨qB⟩⟩
       ·rw [zD c15] at H
        exact absurd H (by simp)
      ·rw [zD c13] at H
       exact absurd H (by simp)
     ·rw [zD c12] at H
      exact absurd H (by simp)
    ·rw [zD c11] at H
     have c11b0 := zG c11
     clear c11
     obtain rfl := zI H
     go_wp2
     go_ret
     exact ⟨_, qE, qS HO_3.out, qB⟩
 ·rw [zD c3] at H
  obtain ⟨c3b0, c3b1⟩ := qn c3
  obtain rfl := zI H
  go_enter Tryd.func83, Tryd.ntmps83
  go_wp2_with (first | ((with_reducible refine gate_dst (N := 1) rfl ?_); refine box_event (by rfl) (N := 1) (by rfl) (cs := #[.string a0_0, .int .i64 a0_1, .int .i64 a0_2, .slice A0_3 l0_3.length c0_3]) (t := 24) ?hr ?_; (case hr => go_simp <;> rfl); intro gb387 hg w19 hbox hb; have BK387 := zA (hbox); have GW387 := qG hg; have GE387 := GW387; replace HB := qH hb; clear hb hbox hg; have z20_0 := bk4 BK387.out) | ((with_reducible refine gate_callee (f := 78) rfl ?_); refine goesL_ (some 7) rfl rfl Tryd.func78 (by kernel_rfl) rfl #[.agg #[.string a0_0, .int .i64 a0_1, .int .i64 a0_2, .slice A0_3 l0_3.length c0_3]] rfl qL ?_; (with_reducible refine (ir_Check.calls k a0_0 a0_1 a0_2 _ _ l0_3 t388 _ ?side1 ?side2 A2.out (hL := ?side99)).mono ?_); (case side1 => exact qCB HR0_3.out); (case side2 => exact HC0_3.out); (case side99 => exact LaidW.below HLd.out qB); rintro e w21 ⟨rfl, hb⟩; refine ⟨_, rfl, ?_⟩; replace BK387 := qW BK387 hb; replace HB := qH hb; (try clear hb)))
  go_ret
  exact ⟨_, qE, by first | exact Kd.S_nil _ _ _ _ _ | exact Kd.N_nil _ _ _ _ _ | exact Kd.V_nil _ _ _ _ _ | exact Kd.Q_nil _ _ _ _ _ | exact Kd.R_nil _ _ _ _ _, qB⟩

def live_Ahead.j0 : Nat → Int → Int → Bool → ByteArray → Int → Int → List (List (SIns)) → Option (List Int)
 | 0, _, _, _, _, _, _, _ => none
 | k + 1, x1, x2, x34, x400000, x400001, x400002, x400003 => if x34 = true then (some ([] : List Int)) else ((live_sets.f k x400000 x400001 x400002 x400003).bind fun t402 => ((live_ahead.f k x400000 x400001 x400002 x400003 t402 x1 x2).bind fun t405 => ((live_set_list.f k t405).bind fun t406 => (some t406))))
def live_Ahead.f (k : Nat) (a0_0 : ByteArray) (a0_1 : Int) (a0_2 : Int) (l0_3 : List (List (SIns))) (a1 : Int) (a2 : Int) : Option (List Int) := (ir_Check.f k a0_0 a0_1 a0_2 l0_3).bind fun t400 => (if t400 = 0 then (if a1 < 0 then (live_Ahead.j0 k a1 a2 true a0_0 a0_1 a0_2 l0_3) else (if a1 ≥ (l0_3.length : Int) then (live_Ahead.j0 k a1 a2 true a0_0 a0_1 a0_2 l0_3) else (if a2 < 0 then (live_Ahead.j0 k a1 a2 true a0_0 a0_1 a0_2 l0_3) else (if 0 ≤ a1 then (if a1 < (l0_3.length : Int) then (live_Ahead.j0 k a1 a2 (decide (a2 > ((rd_LIns l0_3 a1).length : Int))) a0_0 a0_1 a0_2 l0_3) else (none)) else (none))))) else (live_Ahead.j0 k a1 a2 true a0_0 a0_1 a0_2 l0_3))
def live_Ahead.T3 : Bool × List (List Nat × List Nat) := (true, [([], []), ([], []), ([1], [1]), ([], []), ([], []), ([0, 2, 3, 4, 2], [0, 2, 3, 4]), ([5, 5], [5]), ([6, 6, 0, 1, 2, 3, 4, 5, 6], [6])])
def live_Ahead.B3 : List Nat := [0, 0, 2, 0, 0, 31, 63, 127]
theorem live_Ahead.tab3 : rtab .any (opsOf Tryd.f84 3) = live_Ahead.T3 := by kernel_rfl
theorem live_Ahead.bits3 : waitsOk live_Ahead.T3.2 live_Ahead.B3 = true := by kernel_rfl
set_option maxHeartbeats 8000000 in
set_option maxRecDepth 100000 in
theorem live_Ahead.calls (k : Nat) (a0_0 : ByteArray) (a0_1 : Int) (a0_2 : Int) (A0_3 : Option Addr) (c0_3 : Nat) (l0_3 : List (List (SIns))) (a1 : Int) (a2 : Int) (r : List Int) (w : World) (hL : LaidW w) (hr0_3 : Kd.C (Kd.slice 38 kIns) w A0_3 l0_3.length l0_3) (hc0_3 : l0_3.length ≤ c0_3) (h : live_Ahead.f k a0_0 a0_1 a0_2 l0_3 a1 a2 = some r) :
 Calls Tryd.prog 84 #[.agg #[.string a0_0, .int .i64 a0_1, .int .i64 a0_2, .slice A0_3 l0_3.length c0_3], .int .i64 a1, .int .i64 a2] w fun e w' => ∃ v0_ : Value, e = .returned (v0_) ∧ Kd.R (Kd.int .i64) 3 w' w.heap.size (fun _ => True) v0_ r ∧ Below w.heap.size w w' := by
 have hu24 := Tryd.underlying24
 have HR0_3 := zA hr0_3
 have HC0_3 := zA hc0_3
 clear hr0_3 hc0_3
 have HB := zA (Below.refl w.heap.size w)
 have HLd := zA hL
 clear hL
 have H := h; clear h; unfold live_Ahead.f at H
 have HC4 := zA H
 clear H
 go_enter Tryd.func84, Tryd.ntmps84
 go_upto_region 1 with (first | ((with_reducible refine gate_dst (N := 3) rfl ?_); (try (refine gate_guard (by rfl) ?_; dsimp only)); refine box_event (by rfl) (N := 3) (by rfl) (cs := #[.string a0_0, .int .i64 a0_1, .int .i64 a0_2, .slice A0_3 l0_3.length c0_3]) (t := 24) ?hr ?_; (case hr => go_simp <;> rfl); intro gb399 hg w5 hbox hb; have BK399 := zA (hbox); have GW399 := qG hg; have GE399 := GW399; replace HB := qH hb; clear hb hbox hg))
 (try simp only [Act.put, List.setIfInBounds_toArray, List.set_cons_zero, List.set_cons_succ])
 go_cut [34] (fun v34 wc => ∃ (kq : Nat) (x34_3 : Bool), v34 = .bool x34_3 ∧ Aside0 (live_Ahead.j0 kq a1 a2 x34_3 a0_0 a0_1 a0_2 l0_3 = some r) ∧ Aside0 (kq ≤ k) ∧ Aside0 (wc.heap[gb399]? = some (.cells #[.string a0_0, .int .i64 a0_1, .int .i64 a0_2, (.slice A0_3 l0_3.length c0_3)] 24 (0, 0))) ∧ Aside0 (Below w.heap.size w wc))
 case first =>
  have H := HC4.out
  clear HC4
  replace H := qb H; obtain ⟨t400, A6, H⟩ := H
  by_cases c7 : t400 = 0
  ·rw [zC c7] at H
   obtain ⟨c7b0, c7b1⟩ := qe c7; clear c7
   (first | rw [c7b0] | (simp only [i64_w, i32_w]; rw [c7b0]) | skip)
   by_cases c8 : a1 < 0
   ·rw [zC c8] at H
    have c8b0 := zF c8
    clear c8
    have H' := zA H
    clear H
    have z9_0 := bk4 BK399.out
    go_wp2_with (first | ((with_reducible refine gate_callee (f := 78) rfl ?_); refine goesL_ (some 8) rfl rfl Tryd.func78 (by kernel_rfl) rfl #[.agg #[.string a0_0, .int .i64 a0_1, .int .i64 a0_2, .slice A0_3 l0_3.length c0_3]] rfl qL ?_; (with_reducible refine (ir_Check.calls k a0_0 a0_1 a0_2 _ _ l0_3 t400 _ ?side1 ?side2 A6.out (hL := ?side99)).mono ?_); (case side1 => exact qCB HR0_3.out); (case side2 => exact HC0_3.out); (case side99 => exact LaidW.below HLd.out qB); rintro e w10 ⟨rfl, hb⟩; refine ⟨_, rfl, ?_⟩; replace BK399 := qW BK399 hb; replace HB := qH hb; (try clear hb)))
    go_meet
    case rel => exact ⟨_, (true), qT, H', ⟨qO⟩, ⟨qK BK399.out⟩, ⟨qB⟩⟩
   ·rw [zD c8] at H
    have c8b0 := zG c8
    clear c8
    by_cases c11 : a1 ≥ (l0_3.length : Int)
    ·rw [zC c11] at H
     have c11b0 : decide ((l0_3.length : Int) ≤ a1) = true := zF c11
     clear c11
     have H' := zA H
     clear H
     have z12_0 := bk4 BK399.out
     go_wp2_with (first | ((with_reducible refine gate_callee (f := 78) rfl ?_); refine goesL_ (some 8) rfl rfl Tryd.func78 (by kernel_rfl) rfl #[.agg #[.string a0_0, .int .i64 a0_1, .int .i64 a0_2, .slice A0_3 l0_3.length c0_3]] rfl qL ?_; (with_reducible refine (ir_Check.calls k a0_0 a0_1 a0_2 _ _ l0_3 t400 _ ?side1 ?side2 A6.out (hL := ?side99)).mono ?_); (case side1 => exact qCB HR0_3.out); (case side2 => exact HC0_3.out); (case side99 => exact LaidW.below HLd.out qB); rintro e w13 ⟨rfl, hb⟩; refine ⟨_, rfl, ?_⟩; replace BK399 := qW BK399 hb; replace HB := qH hb; (try clear hb); have z14_0 := bk4 BK399.out))
     go_meet
     case rel => exact ⟨_, (true), qT, H', ⟨qO⟩, ⟨qK BK399.out⟩, ⟨qB⟩⟩
    ·rw [zD c11] at H
     have c11b0 : decide ((l0_3.length : Int) ≤ a1) = false := zG c11
     clear c11
     by_cases c15 : a2 < 0
     ·rw [zC c15] at H
      have c15b0 := zF c15
      clear c15
      have H' := zA H
      clear H
      have z16_0 := bk4 BK399.out
      go_wp2_with (first | ((with_reducible refine gate_callee (f := 78) rfl ?_); refine goesL_ (some 8) rfl rfl Tryd.func78 (by kernel_rfl) rfl #[.agg #[.string a0_0, .int .i64 a0_1, .int .i64 a0_2, .slice A0_3 l0_3.length c0_3]] rfl qL ?_; (with_reducible refine (ir_Check.calls k a0_0 a0_1 a0_2 _ _ l0_3 t400 _ ?side1 ?side2 A6.out (hL := ?side99)).mono ?_); (case side1 => exact qCB HR0_3.out); (case side2 => exact HC0_3.out); (case side99 => exact LaidW.below HLd.out qB); rintro e w17 ⟨rfl, hb⟩; refine ⟨_, rfl, ?_⟩; replace BK399 := qW BK399 hb; replace HB := qH hb; (try clear hb); have z18_0 := bk4 BK399.out))
      go_meet
      case rel => exact ⟨_, (true), qT, H', ⟨qO⟩, ⟨qK BK399.out⟩, ⟨qB⟩⟩
     ·rw [zD c15] at H
      have c15b0 := zG c15
      clear c15
      by_cases c19 : 0 ≤ a1
      ·rw [zC c19] at H
       have c19b0 := zF c19
       clear c19
       by_cases c20 : a1 < (l0_3.length : Int)
       ·rw [zC c20] at H
        have c20b0 := zF c20
        clear c20
        have H' := zA H
        clear H
        have z21_0 := bk4 BK399.out
        go_wp2_with (first | ((with_reducible refine gate_callee (f := 78) rfl ?_); refine goesL_ (some 8) rfl rfl Tryd.func78 (by kernel_rfl) rfl #[.agg #[.string a0_0, .int .i64 a0_1, .int .i64 a0_2, .slice A0_3 l0_3.length c0_3]] rfl qL ?_; (with_reducible refine (ir_Check.calls k a0_0 a0_1 a0_2 _ _ l0_3 t400 _ ?side1 ?side2 A6.out (hL := ?side99)).mono ?_); (case side1 => exact qCB HR0_3.out); (case side2 => exact HC0_3.out); (case side99 => exact LaidW.below HLd.out qB); rintro e w22 ⟨rfl, hb⟩; refine ⟨_, rfl, ?_⟩; replace BK399 := qW BK399 hb; replace HB := qH hb; (try clear hb); have z23_0 := bk4 BK399.out; have p401 : 0 ≤ (a1 : Int) := zB qA; have q401 : a1 < (l0_3.length : Int) := zB qA; obtain ⟨ad401, A401_0, c401_0, e401, hx401_0, hl401_0, hi401_0⟩ := at_LIns HR0_3.out a1 p401 q401; cases e401; replace hx401_0 := (HB.out.cell (zE w _ hx401_0)).trans hx401_0; have HR401_0 := zA hi401_0; have HC401_0 := zA hl401_0; clear hi401_0 hl401_0; replace p401 := eq_true p401; replace q401 := eq_true q401))
        go_meet
        case rel => exact ⟨_, (decide (a2 > ((rd_LIns l0_3 a1).length : Int))), qT, H', ⟨qO⟩, ⟨qK BK399.out⟩, ⟨qB⟩⟩
       ·rw [zD c20] at H
        exact absurd H (by simp)
      ·rw [zD c19] at H
       exact absurd H (by simp)
  ·rw [zD c7] at H
   obtain ⟨c7b0, c7b1⟩ := qn c7
   (first | rw [c7b0] | (simp only [i64_w, i32_w]; rw [c7b0]) | skip)
   have H' := zA H
   clear H
   have z24_0 := bk4 BK399.out
   go_wp2_with (first | ((with_reducible refine gate_callee (f := 78) rfl ?_); refine goesL_ (some 8) rfl rfl Tryd.func78 (by kernel_rfl) rfl #[.agg #[.string a0_0, .int .i64 a0_1, .int .i64 a0_2, .slice A0_3 l0_3.length c0_3]] rfl qL ?_; (with_reducible refine (ir_Check.calls k a0_0 a0_1 a0_2 _ _ l0_3 t400 _ ?side1 ?side2 A6.out (hL := ?side99)).mono ?_); (case side1 => exact qCB HR0_3.out); (case side2 => exact HC0_3.out); (case side99 => exact LaidW.below HLd.out qB); rintro e w25 ⟨rfl, hb⟩; refine ⟨_, rfl, ?_⟩; replace BK399 := qW BK399 hb; replace HB := qH hb; (try clear hb)))
   go_meet
   case rel => exact ⟨_, (true), qT, H', ⟨qO⟩, ⟨qK BK399.out⟩, ⟨qB⟩⟩
 case rest =>
  clear HC4
  obtain ⟨kq, x34_3, rfl, HA, HJ3, BK399, HB⟩ := hcut
  cases kq with
  | zero => exact absurd HA.out (by simp [live_Ahead.j0])
  | succ kj3 =>
   have H := HA.out
   clear HA
   simp only [live_Ahead.j0] at H
   by_cases c26 : x34_3 = true
   ·subst c26
    have H1 : (some ([] : List Int)) = some r := by rw [zC rfl] at H; exact H
    clear H
    have H := H1
    clear H1
    obtain rfl := zI H
    go_wp2
    go_ret
    exact ⟨_, qE, by first | exact Kd.R_nil _ _ _ _ _ | exact Kd.N_nil _ _ _ _ _ | exact Kd.V_nil _ _ _ _ _ | exact Kd.Q_nil _ _ _ _ _ | exact Kd.S_nil _ _ _ _ _, qB⟩
   ·replace c26 := Bool.eq_false_iff.mpr c26
    subst c26
    have H1 : ((live_sets.f kj3 a0_0 a0_1 a0_2 l0_3).bind fun t402 => ((live_ahead.f kj3 a0_0 a0_1 a0_2 l0_3 t402 a1 a2).bind fun t405 => ((live_set_list.f kj3 t405).bind fun t406 => (some t406)))) = some r := by rw [zD (show ¬ (false = true) by decide)] at H; exact H
    clear H
    have H := H1
    clear H1
    replace H := qb H; obtain ⟨t402, A27, H⟩ := H
    replace H := qb H; obtain ⟨t405, A28, H⟩ := H
    replace H := qb H; obtain ⟨t406, A29, H⟩ := H
    obtain rfl := zI H
    try go_wp2
    have n0_ := zA (blk_drew BK399.out)
    have n1_ := zA (below_drew1 HB.out)
    clear BK399
    clear HB
    have BK399 := n0_
    have HB := n1_
    clear n0_ n1_
    refine start_ (n := 8) (S := fun w' => w'.cell? ⟨gb399, 0, none⟩ = some (.string a0_0) ∧ w'.cell? ⟨gb399, 1, none⟩ = some (.int .i64 a0_1) ∧ w'.cell? ⟨gb399, 2, none⟩ = some (.int .i64 a0_2) ∧ w'.cell? ⟨gb399, 3, none⟩ = some (.slice A0_3 l0_3.length c0_3)) (ds := []) (bA 8 0) (by kernel_rfl) rfl rfl ⟨(blk_cell BK399.out 0).trans rfl, (blk_cell BK399.out 1).trans rfl, (blk_cell BK399.out 2).trans rfl, (blk_cell BK399.out 3).trans rfl⟩ (fun hHeld => ?_); refine with_tabW live_Ahead.tab3 live_Ahead.bits3 (fun HT_ HW_ => ?_)
    generalize wc.drew = w30 at BK399 HB hHeld ⊢
    refine pu_ (i := 3) (N := some 38) (bA 8 8) ?_
    refine pu_ (i := 4) (N := some 39) (bA 8 24) ?_
    refine tk_ (i := 0) (N := some 35) (bA 8 25) ?_
    refine tk_ (i := 1) (N := some 36) (bA 8 27) ?_
    refine one_ (i := 2) (N := some 37) (bA 8 31) rfl rfl (one_of HT_.out (by kernel_rfl)) (by decide) (fun K hK => ?_)
    refine goes_ Tryd.func79 (by kernel_rfl) rfl #[.agg #[.string a0_0, .int .i64 a0_1, .int .i64 a0_2, .slice A0_3 l0_3.length c0_3]] (by rfl) rfl rfl qL ?_
    with_reducible refine (live_sets.calls kj3 a0_0 a0_1 a0_2 _ _ l0_3 t402 _ ?side1 ?side2 A27.out (hL := ?side99)).mono ?_
    (case side1 => exact qCB HR0_3.out)
    (case side2 => exact HC0_3.out)
    (case side99 => exact LaidW.below HLd.out qB)
    rintro e w31 ⟨v403, rfl, ho0, hb⟩
    refine ⟨_, rfl, ?_⟩
    have n0_ := zA (Kd.R_lower ho0 (below_size qB))
    have n1_ := qW BK399 hb
    have n2_ := qH hb
    clear BK399
    clear HB
    have HO404 := n0_
    have BK399 := n1_
    have HB := n2_
    clear n0_ n1_ n2_
    (try clear hb)
    (try clear hb2)
    (try clear hk)
    (try clear hi)
    (try clear ho0)
    obtain ⟨Ao32, co32, eo32⟩ := Kd.R_slice HO404.out
    (first | subst eo32 | (injection eo32 with f1_ f2_ f3_; have f4_ := f1_.symm; have f5_ := f3_.symm; clear f1_ f2_ f3_; subst f4_; subst f5_))
    refine hK.out _ _ ⟨(blk_cell BK399.out 0).trans rfl, (blk_cell BK399.out 1).trans rfl, (blk_cell BK399.out 2).trans rfl, (blk_cell BK399.out 3).trans rfl⟩ (fun hHeld => ?_)
    clear hK K
    refine norm_ (a' := ?_) ?_ ?_
    rotate_left
    ·show Act.put _ (some 37) _ = _
     simp only [Act.put, List.setIfInBounds_toArray, List.set_cons_zero, List.set_cons_succ, i64_w, i32_w]
     rfl
    refine one_ (i := 5) (N := some 40) (bA 8 63) rfl rfl (one_of HT_.out (by kernel_rfl)) (by decide) (fun K hK => ?_)
    refine goes_ Tryd.func119 (by kernel_rfl) rfl #[.agg #[.string a0_0, .int .i64 a0_1, .int .i64 a0_2, .slice A0_3 l0_3.length c0_3], .slice Ao32 t402.length co32, .int .i64 a1, .int .i64 a2] (by rfl) rfl rfl qL ?_
    with_reducible refine (live_ahead.calls kj3 a0_0 a0_1 a0_2 _ _ l0_3 _ _ t402 a1 a2 t405 _ ?side1 ?side2 ?side3 ?side4 A28.out (hL := ?side99)).mono ?_
    (case side1 => exact qCB HR0_3.out)
    (case side2 => exact HC0_3.out)
    (case side3 => repeat (first | exact (Kd.R_reads' HO404.out).2.2 | (with_reducible refine Kd.C_alloc ?_ _) | (with_reducible refine Kd.C_drewN ?_ _) | (with_reducible refine Kd.C_drew ?_)))
    (case side4 => exact (Kd.R_reads' HO404.out).2.1)
    (case side99 => exact LaidW.below HLd.out qB)
    rintro e w33 ⟨rfl, hb⟩
    refine ⟨_, rfl, ?_⟩
    have n0_ := zA (Kd.R_below (qR HO404.out) hb)
    have n1_ := qW BK399 hb
    have n2_ := qH hb
    clear HO404
    clear BK399
    clear HB
    have HO404 := n0_
    have BK399 := n1_
    have HB := n2_
    clear n0_ n1_ n2_
    (try clear hb)
    (try clear hb2)
    (try clear hk)
    (try clear hi)
    refine hK.out _ _ ⟨(blk_cell BK399.out 0).trans rfl, (blk_cell BK399.out 1).trans rfl, (blk_cell BK399.out 2).trans rfl, (blk_cell BK399.out 3).trans rfl⟩ (fun hHeld => ?_)
    clear hK K
    refine norm_ (a' := ?_) ?_ ?_
    rotate_left
    ·show Act.put _ (some 40) _ = _
     simp only [Act.put, List.setIfInBounds_toArray, List.set_cons_zero, List.set_cons_succ, i64_w, i32_w]
     rfl
    refine one_ (i := 6) (N := some 41) (bA 8 127) rfl rfl (one_of HT_.out (by kernel_rfl)) (by decide) (fun K hK => ?_)
    refine goes_ Tryd.func122 (by kernel_rfl) rfl #[.int .u64 t405] (by rfl) rfl rfl qL ?_
    with_reducible refine (live_set_list.calls kj3 t405 t406 _ A29.out (hL := ?side99)).mono ?_
    (case side99 => exact LaidW.below HLd.out qB)
    rintro e w34 ⟨v407, rfl, ho0, hb⟩
    refine ⟨_, rfl, ?_⟩
    have n0_ := zA (Kd.R_below (qR HO404.out) hb)
    have n1_ := zA (Kd.R_lower ho0 (below_size qB))
    have n2_ := qW BK399 hb
    have n3_ := qH hb
    clear HO404
    clear BK399
    clear HB
    have HO404 := n0_
    have HO408 := n1_
    have BK399 := n2_
    have HB := n3_
    clear n0_ n1_ n2_ n3_
    (try clear hb)
    (try clear hb2)
    (try clear hk)
    (try clear hi)
    (try clear ho0)
    refine hK.out _ _ ⟨(blk_cell BK399.out 0).trans rfl, (blk_cell BK399.out 1).trans rfl, (blk_cell BK399.out 2).trans rfl, (blk_cell BK399.out 3).trans rfl⟩ (fun hHeld => ?_)
    clear hK K
    refine norm_ (a' := ?_) ?_ ?_
    rotate_left
    ·show Act.put _ (some 41) _ = _
     simp only [Act.put, List.setIfInBounds_toArray, List.set_cons_zero, List.set_cons_succ, i64_w, i32_w]
     rfl
    refine pu_ (i := 7) (N := some 6) (bA 8 255) ?_
    refine done_ (done_of HT_.out (by kernel_rfl)) ?_
    try go_wp2
    go_ret
    exact ⟨_, qE, qR HO408.out, qB⟩
end Go.Proofs.YtpkimbkjjmbmcaaDoor.Q
namespace Go.Proofs.YtpkimbkjjmbmcaaDoor.Q
open Go.RowKit Go.Proofs.YtpkimbkjjmbmcaaDoorW.PrintWords Go.Proofs.YtpkimbkjjmbmcaaDoorW.PrintLast Go.Proofs.YtpkimbkjjmbmcaaDoorW.PrintMore
set_option linter.unusedVariables false
set_option linter.unusedSimpArgs false
structure EachCb {σ : Type} (w0 : World) (St : σ → World → Prop) (May : Nat → Prop) (fb : Nat → Int → List Int → σ → Option σ) (fi : Nat → Int → SIns → List Int → σ → Option σ) (kb ki : FuncId) (cb ci : Array Value) : Prop where
 below : ∀ s w, St s w → Below w0.heap.size w0 w
 step : ∀ s w w1, St s w → Below w.heap.size w w1 → St s w1
 bfn : ∃ fn, Tryd.prog.funcs[kb]? = some fn ∧ (fn.name == "runtime.NumGoroutine") = false ∧ fn.body.isSome = true
 ifn : ∃ fn, Tryd.prog.funcs[ki]? = some fn ∧ (fn.name == "runtime.NumGoroutine") = false ∧ fn.body.isSome = true
 block : ∀ k n l A c s s' w, fb k n l s = some s' → St s w → Kd.F (Kd.int .i64) w (fun q => ¬ May q) A l.length l → l.length ≤ c →
  Calls Tryd.prog kb (#[.int .i64 n, .slice A l.length c] ++ cb) w fun e w' => e = .returned (.tuple #[]) ∧ St s' w' ∧ Kept w w' May
 ins : ∀ k n (x : SIns) A5 c5 l A c s s' w, fi k n x l s = some s' → St s w → Kd.F (Kd.int .i64) w (fun q => ¬ May q) A5 x.f5.length x.f5 → x.f5.length ≤ c5 → Kd.F (Kd.int .i64) w (fun q => ¬ May q) A l.length l → l.length ≤ c →
  Calls Tryd.prog ki (#[.int .i64 n, .agg #[.int .i64 x.f0, .int .i64 x.f1, .int .i64 x.f2, .int .i64 x.f3, .string x.f4, .slice A5 x.f5.length c5], .slice A l.length c] ++ ci) w fun e w' => e = .returned (.tuple #[]) ∧ St s' w' ∧ Kept w w' May
mutual
def span_each.l0 {σ : Type} (fb : Nat → Int → List Int → σ → Option σ) (fi : Nat → Int → SIns → List Int → σ → Option σ) : Nat → ByteArray → Int → Int → List (List SIns) → List (List Int) → List Int → Int → Int → σ → Option σ
 | 0, _, _, _, _, _, _, _, _, _ => none
 | k + 1, a0, a1, a2, l3, inn, ord, n, j, s =>
  if j < (ord.length : Int) then
   if 0 ≤ j then
    if 0 ≤ rd ord j then
     if rd ord j < (inn.length : Int) then
      if rd ord j < (l3.length : Int) then
       (fb k (wrap64 (n + 1)) (rd_LInt inn (rd ord j)) s).bind fun s1 => span_each.l1 fb fi k a0 a1 a2 l3 inn ord n (rd ord j) j 0 s1
      else none
     else none
    else none
   else none
  else some s
def span_each.l1 {σ : Type} (fb : Nat → Int → List Int → σ → Option σ) (fi : Nat → Int → SIns → List Int → σ → Option σ) : Nat → ByteArray → Int → Int → List (List SIns) → List (List Int) → List Int → Int → Int → Int → Int → σ → Option σ
 | 0, _, _, _, _, _, _, _, _, _, _, _ => none
 | k + 1, a0, a1, a2, l3, inn, ord, n, b, j, i, s =>
  if i < ((rd_LIns l3 b).length : Int) then
   if 0 ≤ i then
    (live_Ahead.f k a0 a1 a2 l3 b (wrap64 (i + 1))).bind fun bh => (fi k (wrap64 (n + 1)) (rd_TIns (rd_LIns l3 b) i) bh s).bind fun s1 => span_each.l1 fb fi k a0 a1 a2 l3 inn ord (wrap64 (n + 1)) b j (wrap64 (i + 1)) s1
   else none
  else span_each.l0 fb fi k a0 a1 a2 l3 inn ord n (wrap64 (j + 1)) s
end
def span_each.f {σ : Type} (fb : Nat → Int → List Int → σ → Option σ) (fi : Nat → Int → SIns → List Int → σ → Option σ) (k : Nat) (a0 : ByteArray) (a1 a2 : Int) (l3 : List (List SIns)) (s : σ) : Option σ :=
 (live_In.f k a0 a1 a2 l3).bind fun inn => (flow_Order.f k l3).bind fun ord => span_each.l0 fb fi k a0 a1 a2 l3 inn ord 0 0 s
def span_each.T11 : Bool × List (List Nat × List Nat) := (true, [([], []), ([], []), ([], []), ([], []), ([], []), ([], []), ([5], [5]), ([3, 4, 6], [3, 4, 6]), ([0, 1, 2, 7, 7], [0, 1, 2, 7])])
def span_each.B11 : List Nat := [0, 0, 0, 0, 0, 0, 32, 120, 255]
theorem span_each.tab11 : rtab .any (opsOf Tryd.f43 11) = span_each.T11 := by kernel_rfl
theorem span_each.bits11 : waitsOk span_each.T11.2 span_each.B11 = true := by kernel_rfl
set_option maxHeartbeats 8000000 in
set_option maxRecDepth 100000 in
theorem span_each.calls {σ : Type} {St : σ → World → Prop} {May : Nat → Prop} {fb : Nat → Int → List Int → σ → Option σ} {fi : Nat → Int → SIns → List Int → σ → Option σ} {kb ki : FuncId} {cb ci : Array Value} {w0 : World} (hcb : EachCb w0 St May fb fi kb ki cb ci)
 (k : Nat) (a0 : ByteArray) (a1 a2 : Int) (A3 : Option Addr) (c3 : Nat) (l3 : List (List SIns)) (s s' : σ) (w : World) (hL : LaidW w0) (hr : Kd.C (Kd.slice 38 kIns) w0 A3 l3.length l3) (hc : l3.length ≤ c3)
 (hm0 : ∀ q, May q → w0.heap.size ≤ q) (hm1 : ∀ q, May q → q < w.heap.size) (h : span_each.f fb fi k a0 a1 a2 l3 s = some s') (hs : St s w) :
 Calls Tryd.prog 43 #[.agg #[.string a0, .int .i64 a1, .int .i64 a2, .slice A3 l3.length c3], .func (.func kb) #[] cb, .func (.func ki) #[] ci] w
  fun e w' => e = .returned (.tuple #[]) ∧ St s' w' ∧ Kept w w' May := by
 have CB := zA hcb
 have HR := zA hr
 have HC := zA hc
 have HLd := zA hL
 have HM0 := zA hm0
 have HM1 := zA hm1
 have HS := zA hs
 have HK := zA (Kept.refl w May)
 have H := h
 clear hcb hr hc hL hm0 hm1 hs h
 unfold span_each.f at H
 replace H := qb H; obtain ⟨inn, A1, H⟩ := H
 replace H := qb H; obtain ⟨ord, A2, H⟩ := H
 have H' := zA H
 clear H
 have hu24 := Tryd.underlying24
 have hu38 := Tryd.underlying38
 go_enter Tryd.func43, Tryd.ntmps43
 go_wp2_with (first
  | ((with_reducible refine gate_dst (N := 3) rfl ?_); refine box_event (by rfl) (N := 3) (by rfl) (cs := #[.string a0, .int .i64 a1, .int .i64 a2, .slice A3 l3.length c3]) (t := 24) ?hr ?_; (case hr => go_simp <;> rfl); intro gf hg w1 hbox hb; have BF := zA hbox; have GF := zA (show ¬ May gf from fun e_ => by have := HM1.out gf e_; omega); replace HS := zA (CB.out.step _ _ _ HS.out hb); replace HK := zA (Kept.below HK.out hb); have SZ := zA (show w.heap.size ≤ w1.heap.size from hb.size); clear hb hbox hg; have z1 := bk4 BF.out)
  | ((with_reducible refine gate_callee (f := 83) rfl ?_); refine goesL_ (some 13) rfl rfl Tryd.func83 (by kernel_rfl) rfl #[.agg #[.string a0, .int .i64 a1, .int .i64 a2, .slice A3 l3.length c3]] rfl qL ?_; (with_reducible refine (live_In.calls k a0 a1 a2 _ _ l3 inn _ ?side1 ?side2 A1.out (hL := ?side99)).mono ?_); (case side1 => exact Kd.C_below HR.out (CB.out.below _ _ HS.out)); (case side2 => exact HC.out); (case side99 => exact LaidW.below HLd.out (CB.out.below _ _ HS.out)); rintro e w2 ⟨v0, rfl, ho, hb⟩; refine ⟨_, rfl, ?_⟩; obtain ⟨Ai, ci_, ei⟩ := Kd.S_slice ho; subst ei; have HI := zA (Kd.F_mono (Kd.S_F (Kd.S_bound ho)) (fun q hq => fun e_ => by have := HM1.out q e_; have := SZ.out; omega : ∀ q, _ → ¬ May q)); replace HS := zA (CB.out.step _ _ _ HS.out hb); replace HK := zA (Kept.below HK.out hb); replace BF := zA (blk_below BF.out hb); replace SZ := zA (Nat.le_trans SZ.out hb.size); clear z1 hb ho A1; have z1 := bk4 BF.out)
  | ((with_reducible refine gate_callee (f := 40) rfl ?_); refine goesL_ (some 16) rfl rfl Tryd.func40 (by kernel_rfl) rfl #[.slice A3 l3.length c3] rfl qL ?_; (with_reducible refine (flow_Order.calls k _ _ l3 ord _ ?side1 ?side2 A2.out).mono ?_); (case side1 => exact Kd.C_below HR.out (CB.out.below _ _ HS.out)); (case side2 => exact HC.out); rintro e w3 ⟨v0, rfl, ho, hb⟩; refine ⟨_, rfl, ?_⟩; obtain ⟨Ao, co, eo⟩ := Kd.R_slice ho; subst eo; have HO := zA (Kd.F_mono (Kd.R_F (Kd.R_bound ho)) (fun q hq => fun e_ => by have := HM1.out q e_; have := SZ.out; omega : ∀ q, _ → ¬ May q)); replace HI := zA (Kd.F_below HI.out hb); replace HS := zA (CB.out.step _ _ _ HS.out hb); replace HK := zA (Kept.below HK.out hb); replace BF := zA (blk_below BF.out hb); replace SZ := zA (Nat.le_trans SZ.out hb.size); clear z1 hb ho A2; have z1 := bk4 BF.out))
 go_loopg [6, 18] k (fun kq v6 v18 w' => ∃ (n j : Int) (s1 : σ), v6 = .int .i64 n ∧ v18 = .int .i64 j ∧ Aside0 (span_each.l0 fb fi kq a0 a1 a2 l3 inn ord n j s1 = some s') ∧ Aside0 (kq ≤ k) ∧ Aside0 (St s1 w') ∧ Aside0 (Kd.F (Kd.slice 3 (Kd.int .i64)) w' (fun q => ¬ May q) Ai inn.length inn) ∧ Aside0 (Kd.F (Kd.int .i64) w' (fun q => ¬ May q) Ao ord.length ord) ∧ Aside0 (w'.heap[gf]? = some (.cells #[.string a0, .int .i64 a1, .int .i64 a2, .slice A3 l3.length c3] 24 (0, 0))) ∧ Aside0 (Kept w w' May) ∧ Aside0 (w.heap.size ≤ w'.heap.size))
 case atStart => exact ⟨0, 0, s, by first | rfl | simp, by first | rfl | simp, H', ⟨Nat.le_refl _⟩, HS, HI, HO, BF, HK, SZ⟩
 case round =>
  clear H' HS HI HO BF HK SZ z1
  obtain ⟨n, j, s1, rfl, rfl, HA, HK1, HS, HI, HO, BF, HK, SZ⟩ := hrel
  cases gk with
  | zero => exact absurd HA.out (by simp [span_each.l0])
  | succ k1 =>
   have H := HA.out
   clear HA
   simp only [span_each.l0] at H
   by_cases c4 : j < (ord.length : Int)
   ·rw [zC c4] at H
    have c4b0 : decide (j < (ord.length : Int)) = true := zF c4
    by_cases c5 : ¬ 0 ≤ j
    ·rw [zD c5] at H
     exact absurd H (by simp)
    replace c5 := Decidable.not_not.1 c5
    rw [zC c5] at H
    by_cases c6 : ¬ 0 ≤ rd ord j
    ·rw [zD c6] at H
     exact absurd H (by simp)
    replace c6 := Decidable.not_not.1 c6
    rw [zC c6] at H
    by_cases c7 : ¬ rd ord j < (inn.length : Int)
    ·rw [zD c7] at H
     exact absurd H (by simp)
    replace c7 := Decidable.not_not.1 c7
    rw [zC c7] at H
    by_cases c8 : ¬ rd ord j < (l3.length : Int)
    ·rw [zD c8] at H
     exact absurd H (by simp)
    replace c8 := Decidable.not_not.1 c8
    rw [zC c8] at H
    replace H := qb H; obtain ⟨s2, B1, H⟩ := H
    have H' := zA H
    clear H
    obtain ⟨ad, ea, hx1⟩ := Kd.at_int (Kd.F_now HO.out) j c5 c4
    cases ea
    generalize hbb : rd ord j = b at c6 c7 c8 B1 H' hx1
    obtain ⟨adi, ce, ei, hcl, hfk, hcc, -⟩ := Kd.F_get HI.out [] b c6 c7
    cases ei
    obtain ⟨Ab, cb_, rfl, hlb, hFb⟩ := Kd.FK_slice_open hfk
    have hx2 : wr.cell? (adi.add (b.toNat * 1 + 0)) = some _ := hcc 0 _ rfl
    rw [Nat.mul_one, Nat.add_zero] at hx2
    have HFb := zA (show Kd.F (Kd.int .i64) wr (fun q => ¬ May q) Ab (rd_LInt inn b).length (rd_LInt inn b) from hFb)
    have HLb := zA (show (rd_LInt inn b).length ≤ cb_ from hlb)
    replace hx2 : wr.cell? (adi.add b.toNat) = some (.slice Ab (rd_LInt inn b).length cb_) := hx2
    clear hcl hfk hcc hFb hlb
    have z1 := bk4 BF.out
    obtain ⟨fnb, hf1, hf2, hf3⟩ := CB.out.bfn
    obtain ⟨fni, hi1, hi2, hi3⟩ := CB.out.ifn
    have HFN := zA (And.intro hf1 (And.intro hf2 hf3))
    have HIN := zA (And.intro hi1 (And.intro hi2 hi3))
    clear hf1 hf2 hf3 hi1 hi2 hi3
    go_wp2_with (refine goesLV_ (some 29) rfl rfl HFN.out.1 HFN.out.2.1 HFN.out.2.2 cb (#[.int .i64 (wrap64 (n + 1)), .slice Ab (rd_LInt inn b).length cb_] ++ cb) rfl rfl qLV ?_; refine (CB.out.block k1 (wrap64 (n + 1)) (rd_LInt inn b) Ab cb_ s1 s2 _ B1.out HS.out HFb.out HLb.out).mono ?_; rintro e w4 ⟨rfl, hs4, hk4⟩; refine ⟨_, rfl, ?_⟩; replace HS := zA hs4; replace HI := zA (Kd.F_kept HI.out hk4 (fun k hk => hk)); replace HO := zA (Kd.F_kept HO.out hk4 (fun k hk => hk)); replace BF := zA (blk_kept BF.out hk4 GF.out); replace HK := zA (Kept.then_ HK.out hk4 (fun k hk => .inl hk)); replace SZ := zA (Nat.le_trans SZ.out hk4.1); clear hs4 hk4 z1 hx1 hx2; have z1 := bk4 BF.out; obtain ⟨adr, Ar, cr, er, hx3, hlr, hir⟩ := at_LIns HR.out b c6 c8; cases er; replace hx3 := ((CB.out.below _ _ HS.out).cell (zE w0 _ hx3)).trans hx3; have HRr := zA hir; have HLr := zA hlr; clear hir hlr)
    go_loopg [6, 36] k1 (fun kq v6 v36 w' => ∃ (n1 i : Int) (s3 : σ), v6 = .int .i64 n1 ∧ v36 = .int .i64 i ∧ Aside0 (span_each.l1 fb fi kq a0 a1 a2 l3 inn ord n1 b j i s3 = some s') ∧ Aside0 (kq ≤ k1) ∧ Aside0 (St s3 w') ∧ Aside0 (Kd.F (Kd.slice 3 (Kd.int .i64)) w' (fun q => ¬ May q) (some adi) inn.length inn) ∧ Aside0 (Kd.F (Kd.int .i64) w' (fun q => ¬ May q) (some ad) ord.length ord) ∧ Aside0 (w'.heap[gf]? = some (.cells #[.string a0, .int .i64 a1, .int .i64 a2, .slice (some adr) l3.length c3] 24 (0, 0))) ∧ Aside0 (Kept w w' May) ∧ Aside0 (w.heap.size ≤ w'.heap.size))
    case atStart => exact ⟨n, 0, s2, by first | rfl | simp, by first | rfl | simp, H', ⟨Nat.le_refl _⟩, HS, HI, HO, BF, HK, SZ⟩
    case round =>
     clear H' HS HI HO BF HK SZ z1 hx3
     obtain ⟨n1, i, s3, rfl, rfl, HA, HK2, HS, HI, HO, BF, HK, SZ⟩ := hrel
     cases gk with
     | zero => exact absurd HA.out (by simp [span_each.l1])
     | succ k2 =>
      have H := HA.out
      clear HA
      simp only [span_each.l1] at H
      by_cases c9 : i < ((rd_LIns l3 b).length : Int)
      ·rw [zC c9] at H
       have c9b0 : decide (i < ((rd_LIns l3 b).length : Int)) = true := zF c9
       by_cases c10 : ¬ 0 ≤ i
       ·rw [zD c10] at H
        exact absurd H (by simp)
       replace c10 := Decidable.not_not.1 c10
       rw [zC c10] at H
       replace H := qb H; obtain ⟨bh, B2, H⟩ := H
       replace H := qb H; obtain ⟨s4, B3, H⟩ := H
       have H' := zA H
       clear H
       obtain ⟨adx, A5, c5, ex, hy0, hy1, hy2, hy3, hy4, hy5, hl5, hi5⟩ := at_TIns HRr.out i c10 c9
       cases ex
       generalize hxx : rd_TIns (rd_LIns l3 b) i = x at B3 hy0 hy1 hy2 hy3 hy4 hy5 hl5 hi5
       have HBl := CB.out.below _ _ HS.out
       replace hy0 := (HBl.cell (zE w0 _ hy0)).trans hy0
       replace hy1 := (HBl.cell (zE w0 _ hy1)).trans hy1
       replace hy2 := (HBl.cell (zE w0 _ hy2)).trans hy2
       replace hy3 := (HBl.cell (zE w0 _ hy3)).trans hy3
       replace hy4 := (HBl.cell (zE w0 _ hy4)).trans hy4
       replace hy5 := (HBl.cell (zE w0 _ hy5)).trans hy5
       have HL5 := zA hl5
       have HI5 := zA (Kd.C_F (Kd.heap_int .i64) hi5)
       clear HBl hl5 hi5
       go_wp2_with (first
        | ((with_reducible refine gate_dst (N := 11) rfl ?_); (try (refine gate_guard (by rfl) ?_; dsimp only)); refine box_event (by rfl) (N := 11) (by rfl) (cs := #[.int .i64 0, .int .i64 0, .int .i64 0, .int .i64 0, .string (⟨#[]⟩ : ByteArray), .slice none 0 0]) (t := 38) ?hr ?_; (case hr => go_simp <;> rfl); intro gx hg w5 hbox_ hb_; have hbox := zA hbox_; have hb := zA hb_; have HG := zA (Nat.le_of_eq hg.symm); clear hbox_ hb_ hg hy0 hy1 hy2 hy3 hy4 hy5; have z5 := bk6 hbox.out))
       generalize hw : ((((((w5.setCell ⟨gx, 0, none⟩ (.int .i64 x.f0)).setCell ⟨gx, 1, none⟩ (.int .i64 x.f1)).setCell ⟨gx, 2, none⟩ (.int .i64 x.f2)).setCell ⟨gx, 3, none⟩ (.int .i64 x.f3)).setCell ⟨gx, 4, none⟩ (.string x.f4)).setCell ⟨gx, 5, none⟩ (.slice A5 x.f5.length c5)) = w6
       have hgx := HG.out
       have BX := zA (show w6.heap[gx]? = some (.cells #[.int .i64 x.f0, .int .i64 x.f1, .int .i64 x.f2, .int .i64 x.f3, .string x.f4, .slice A5 x.f5.length c5] 38 (0, 0)) by rw [← hw]; exact (blk_put (blk_put (blk_put (blk_put (blk_put (blk_put hbox.out 0 _ rfl) 1 _ rfl) 2 _ rfl) 3 _ rfl) 4 _ rfl) 5 _ rfl))
       have hbl : Below wr.heap.size wr w6 := by rw [← hw]; exact (below_set (below_set (below_set (below_set (below_set (below_set hb.out hgx) hgx) hgx) hgx) hgx) hgx)
       have GX := zA (show ¬ May gx from fun e_ => by have := HM1.out gx e_; have := SZ.out; omega)
       replace HS := zA (CB.out.step _ _ _ HS.out hbl)
       replace HI := zA (Kd.F_below HI.out hbl)
       replace HO := zA (Kd.F_below HO.out hbl)
       replace BF := zA (blk_below BF.out hbl)
       replace HK := zA (Kept.below HK.out hbl)
       replace SZ := zA (Nat.le_trans SZ.out hbl.size)
       clear hbl hw z5 hgx HG hbox hb
       have n0_ := zA (blk_drew BX.out)
       have n1_ := zA (CB.out.step _ _ _ HS.out (below_drew (Below.refl _ _)))
       have n2_ := zA (Kd.F_drew HI.out)
       have n3_ := zA (Kd.F_drew HO.out)
       have n4_ := zA (blk_drew BF.out)
       have n5_ := zA (Kept.drew HK.out)
       have n6_ := zA (show w.heap.size ≤ w6.drew.heap.size from SZ.out)
       clear BX HS HI HO BF HK SZ
       refine start_ (n := 9) (S := fun w' => w'.cell? ⟨gx, 0, none⟩ = some (.int .i64 x.f0) ∧ w'.cell? ⟨gx, 1, none⟩ = some (.int .i64 x.f1) ∧ w'.cell? ⟨gx, 2, none⟩ = some (.int .i64 x.f2) ∧ w'.cell? ⟨gx, 3, none⟩ = some (.int .i64 x.f3) ∧ w'.cell? ⟨gx, 4, none⟩ = some (.string x.f4) ∧ w'.cell? ⟨gx, 5, none⟩ = some (.slice A5 x.f5.length c5) ∧ w'.cell? ⟨gf, 0, none⟩ = some (.string a0) ∧ w'.cell? ⟨gf, 1, none⟩ = some (.int .i64 a1) ∧ w'.cell? ⟨gf, 2, none⟩ = some (.int .i64 a2) ∧ w'.cell? ⟨gf, 3, none⟩ = some (.slice (some adr) l3.length c3)) (ds := []) (bA 9 0) (by kernel_rfl) rfl rfl ⟨(blk_cell n0_.out 0).trans rfl, (blk_cell n0_.out 1).trans rfl, (blk_cell n0_.out 2).trans rfl, (blk_cell n0_.out 3).trans rfl, (blk_cell n0_.out 4).trans rfl, (blk_cell n0_.out 5).trans rfl, (blk_cell n4_.out 0).trans rfl, (blk_cell n4_.out 1).trans rfl, (blk_cell n4_.out 2).trans rfl, (blk_cell n4_.out 3).trans rfl⟩ (fun hHeld => ?_); refine with_tabW span_each.tab11 span_each.bits11 (fun HT_ HW_ => ?_)
       generalize w6.drew = w7 at n0_ n1_ n2_ n3_ n4_ n5_ n6_ hHeld ⊢
       have BX := n0_
       have HS := n1_
       have HI := n2_
       have HO := n3_
       have BF := n4_
       have HK := n5_
       have SZ := n6_
       clear n0_ n1_ n2_ n3_ n4_ n5_ n6_
       refine pu_ (i := 0) (N := some 43) (bA 9 1) ?_
       refine pu_ (i := 1) (N := some 44) (bA 9 3) ?_
       refine tk_ (i := 2) (N := some 45) (bA 9 7) ?_
       refine tk_ (i := 3) (N := some 46) (bA 9 15) ?_
       refine pu_ (i := 4) (N := some 47) (bA 9 31) ?_
       refine pu_ (i := 5) (N := some 48) (bA 9 63) ?_
       refine pu_ (i := 6) (N := some 49) (bA 9 127) ?_
       refine one_ (i := 7) (N := some 50) (bA 9 255) rfl rfl (one_of HT_.out (by kernel_rfl)) (by decide) (fun K hK => ?_)
       refine goes_ Tryd.func84 (by kernel_rfl) rfl #[.agg #[.string a0, .int .i64 a1, .int .i64 a2, .slice (some adr) l3.length c3], .int .i64 b, .int .i64 (wrap64 (i + 1))] (by rfl) rfl rfl qL ?_
       with_reducible refine (live_Ahead.calls k2 a0 a1 a2 _ _ l3 b (wrap64 (i + 1)) bh _ ?side1 ?side2 B2.out (hL := ?side99)).mono ?_
       (case side1 => exact Kd.C_below HR.out (CB.out.below _ _ HS.out))
       (case side2 => exact HC.out)
       (case side99 => exact LaidW.below HLd.out (CB.out.below _ _ HS.out))
       rintro e w8 ⟨v0, rfl, ho, hb⟩
       refine ⟨_, rfl, ?_⟩
       obtain ⟨Aa, ca, ea⟩ := Kd.R_slice ho
       subst ea
       have hl_ := (Kd.R_reads' ho).2.1
       have HLa := zA hl_
       have HFa := zA (Kd.F_mono (Kd.R_F (Kd.R_bound ho)) (fun q hq => fun e_ => by have := HM1.out q e_; have := SZ.out; omega : ∀ q, _ → ¬ May q))
       replace HS := zA (CB.out.step _ _ _ HS.out hb)
       replace HI := zA (Kd.F_below HI.out hb)
       replace HO := zA (Kd.F_below HO.out hb)
       replace BF := zA (blk_below BF.out hb)
       replace HK := zA (Kept.below HK.out hb)
       replace SZ := zA (Nat.le_trans SZ.out hb.size)
       replace BX := zA (blk_below BX.out hb)
       clear hHeld ho hb hl_ B2
       refine hK.out _ _ ⟨(blk_cell BX.out 0).trans rfl, (blk_cell BX.out 1).trans rfl, (blk_cell BX.out 2).trans rfl, (blk_cell BX.out 3).trans rfl, (blk_cell BX.out 4).trans rfl, (blk_cell BX.out 5).trans rfl, (blk_cell BF.out 0).trans rfl, (blk_cell BF.out 1).trans rfl, (blk_cell BF.out 2).trans rfl, (blk_cell BF.out 3).trans rfl⟩ (fun hHeld => ?_)
       clear hK K
       refine norm_ (a' := ?_) ?_ ?_
       rotate_left
       ·show Act.put _ (some 50) _ = _
        simp only [Act.put, List.setIfInBounds_toArray, List.set_cons_zero, List.set_cons_succ, i64_w, i32_w]
        rfl
       refine one_ (i := 8) (N := some 51) (bA 9 511) rfl rfl (one_of HT_.out (by kernel_rfl)) (by decide) (fun K hK => ?_)
       refine goesV_ HIN.out.1 HIN.out.2.1 HIN.out.2.2 ci (#[.int .i64 (wrap64 (n1 + 1)), .agg #[.int .i64 x.f0, .int .i64 x.f1, .int .i64 x.f2, .int .i64 x.f3, .string x.f4, .slice A5 x.f5.length c5], .slice Aa bh.length ca] ++ ci) (by rfl) rfl rfl (by rfl) qLV ?_
       have H5 := zA (Kd.F_mono (Kd.F_below HI5.out (CB.out.below _ _ HS.out)) (fun q hq => fun e_ => by have := HM0.out q e_; omega : ∀ q, _ → ¬ May q))
       refine (CB.out.ins k2 (wrap64 (n1 + 1)) x A5 c5 bh Aa ca s3 s4 _ B3.out HS.out H5.out HL5.out HFa.out HLa.out).mono ?_
       rintro e w9 ⟨rfl, hs9, hk9⟩
       refine ⟨_, rfl, ?_⟩
       replace HS := zA hs9
       replace HI := zA (Kd.F_kept HI.out hk9 (fun k hk => hk))
       replace HO := zA (Kd.F_kept HO.out hk9 (fun k hk => hk))
       replace BF := zA (blk_kept BF.out hk9 GF.out)
       replace BX := zA (blk_kept BX.out hk9 GX.out)
       replace HK := zA (Kept.then_ HK.out hk9 (fun k hk => .inl hk))
       replace SZ := zA (Nat.le_trans SZ.out hk9.1)
       clear hs9 hk9 hHeld B3 H5 HFa HLa
       refine hK.out _ _ ⟨(blk_cell BX.out 0).trans rfl, (blk_cell BX.out 1).trans rfl, (blk_cell BX.out 2).trans rfl, (blk_cell BX.out 3).trans rfl, (blk_cell BX.out 4).trans rfl, (blk_cell BX.out 5).trans rfl, (blk_cell BF.out 0).trans rfl, (blk_cell BF.out 1).trans rfl, (blk_cell BF.out 2).trans rfl, (blk_cell BF.out 3).trans rfl⟩ (fun hHeld => ?_)
       clear hK K hHeld
       refine norm_ (a' := ?_) ?_ ?_
       rotate_left
       ·show Act.put _ (some 51) _ = _
        simp only [Act.put, List.setIfInBounds_toArray, List.set_cons_zero, List.set_cons_succ, i64_w, i32_w]
        rfl
       refine done_ (done_of HT_.out (by kernel_rfl)) ?_
       go_wp2
       go_roundg k2
       case measure => have := HK1.out; have := HK2.out; omega
       case rel => exact ⟨_, _, s4, by first | rfl | simp, by first | rfl | simp, H', ⟨by have := HK1.out; have := HK2.out; omega⟩, HS, HI, HO, BF, HK, SZ⟩
      ·rw [zD c9] at H
       have c9b0 : decide (i < ((rd_LIns l3 b).length : Int)) = false := zG c9
       have H' := zA H
       clear H
       go_wp2_with fail
       go_roundg k2
       case measure => have := HK1.out; have := HK2.out; omega
       case rel => exact ⟨_, _, s3, by first | rfl | simp, by first | rfl | simp, H', ⟨by have := HK1.out; have := HK2.out; omega⟩, HS, HI, HO, BF, HK, SZ⟩
   ·rw [zD c4] at H
    have c4b0 : decide (j < (ord.length : Int)) = false := zG c4
    obtain rfl := zI H
    clear H
    go_wp2_with fail
    first | go_end0 | ((try simp only [Exit.inBlock, Exit.then]); refine bodyPost_ret (results_none rfl _ _ _) rfl ?_)
    exact ⟨rfl, HS.out, HK.out⟩
theorem span_cells {w : World} {base : Nat} {ok : Nat → Prop} {go n c : Nat} {l : List SSpan} (h : Kd.R kSpan 28 w base ok (.slice (some ⟨go, 0, none⟩) n c) l) (i : Int) (h0 : 0 ≤ i) (h1 : i < (l.length : Int)) :
 w.cell? ⟨go, i.toNat * 2, none⟩ = some (.int .i64 (rd_TSpan l i).f0) ∧ w.cell? ⟨go, i.toNat * 2 + 1, none⟩ = some (.int .i64 (rd_TSpan l i).f1) ∧ w.frozen? ⟨go, i.toNat * 2, none⟩ = false ∧ w.frozen? ⟨go, i.toNat * 2 + 1, none⟩ = false := by
 have hn := (Kd.R_reads' h).1
 obtain ⟨ce, hcl, hM, hcc, hfr⟩ := Kd.R_elem h zSpan i h0 (by omega)
 obtain rfl := kSpan_openM hM
 exact ⟨hcc 0 _ rfl, hcc 1 _ rfl, hfr 0, hfr 1⟩
theorem span_put {w : World} {base : Nat} {ok : Nat → Prop} {go n c : Nat} {l : List SSpan} (h : Kd.R kSpan 28 w base ok (.slice (some ⟨go, 0, none⟩) n c) l) (i : Int) (h0 : 0 ≤ i) (h1 : i < (l.length : Int)) (x : SSpan) :
 Kd.R kSpan 28 ((w.setCell ⟨go, i.toNat * 2, none⟩ (.int .i64 x.f0)).setCell ⟨go, i.toNat * 2 + 1, none⟩ (.int .i64 x.f1)) base ok (.slice (some ⟨go, 0, none⟩) n c) (l.set i.toNat x) ∧
 w.grownBy ((w.setCell ⟨go, i.toNat * 2, none⟩ (.int .i64 x.f0)).setCell ⟨go, i.toNat * 2 + 1, none⟩ (.int .i64 x.f1)) (some go) := by
 have hn := (Kd.R_reads' h).1
 obtain ⟨ce, hcl, hM, hcc, hfr⟩ := Kd.R_elem h zSpan i h0 (by omega)
 obtain rfl := kSpan_openM hM
 exact Kd.R_seg h i h0 (by omega) (seg := [.int .i64 x.f0, .int .i64 x.f1]) (j := 0) hcl hcc (show 2 ≤ 2 from by decide) (x' := x) (kSpan_mkM _ _ _ x) (fun _ hk => hk)
def span_Spans.l0 : Nat → List SSpan → Int → Int → Option (List SSpan)
 | 0, _, _, _ => none
 | k + 1, o, m, i => if i < m then (if 0 ≤ i then (if i < (o.length : Int) then span_Spans.l0 k (o.set i.toNat ⟨-1, -1⟩) m (wrap64 (i + 1)) else none) else none) else some o
def span_Spans.l2 : Nat → Int → Int → List SSpan → Option (List SSpan)
 | 0, _, _, _ => none
 | k + 1, p, i, o => if i < p then (span_Spans_1.f i 1 o).bind fun b => span_Spans.l2 k p (wrap64 (i + 1)) b else some o
def span_Spans.ins (k : Nat) (n : Int) (x : SIns) (l : List Int) (s : List SSpan) : Option (List SSpan) := span_Spans_3.f k n x.f0 x.f1 x.f2 x.f3 x.f4 x.f5 l s
def span_Spans.f (k : Nat) (a0 : ByteArray) (a1 a2 : Int) (l3 : List (List SIns)) : Option (List SSpan) :=
 (live_Check.f k a0 a1 a2 l3).bind fun t =>
 if t = 0 then
  if 0 ≤ a2 then
   if a2.toNat ≤ 17592186044416 then
    (span_Spans.l0 k (List.replicate a2.toNat zSpan) ((List.replicate a2.toNat zSpan).length : Int) 0).bind fun o1 =>
    (span_Spans.l2 k a1 0 o1).bind fun o2 => span_each.f span_Spans_2.f span_Spans.ins k a0 a1 a2 l3 o2
   else none
  else none
 else some []
theorem span_Spans.cb {w0 : World} {gb gt ga : Nat} {u : Value} (hL : LaidW w0) :
 EachCb w0 (fun s w => SpSt3 w0 w gb gt ga u s) (fun q => some q = u.ownBlock) span_Spans_2.f span_Spans.ins 42 44 #[.pointer (some ⟨gt, 0, none⟩)] #[.pointer (some ⟨ga, 0, none⟩), .pointer (some ⟨gt, 0, none⟩)] where
 below := fun s w hs => hs.st.hB
 step := fun s w w1 hs hb => hs.below hb
 bfn := ⟨_, Tryd.func42, by kernel_rfl, rfl⟩
 ifn := ⟨_, Tryd.func44, by kernel_rfl, rfl⟩
 block := fun k n l A c s s' w h hs hl hc => (span_Spans_2.st k n A c l s s' w0 w gb gt u hl h hs.st).mono (by
  rintro e w' ⟨rfl, h1, hk⟩
  exact ⟨rfl, hs.kept h1 hk, hk⟩)
 ins := fun k n x A5 c5 l A c s s' w h hs h5 hc5 hl hc => span_Spans_3.st k n x.f0 x.f1 x.f2 x.f3 x.f4 A5 c5 x.f5 A c l s s' w0 w gb gt ga u hL h5 hc5 hl h hs
set_option maxHeartbeats 8000000 in
set_option maxRecDepth 100000 in
theorem span_Spans.calls (k : Nat) (a0 : ByteArray) (a1 a2 : Int) (A3 : Option Addr) (c3 : Nat) (l3 : List (List SIns)) (r : List SSpan) (w : World) (hL : LaidW w) (hr : Kd.C (Kd.slice 38 kIns) w A3 l3.length l3) (hc : l3.length ≤ c3) (h : span_Spans.f k a0 a1 a2 l3 = some r) :
 Calls Tryd.prog 14 #[.agg #[.string a0, .int .i64 a1, .int .i64 a2, .slice A3 l3.length c3]] w fun e w' => ∃ v0_ : Value, e = .returned (v0_) ∧ Kd.R kSpan 28 w' w.heap.size (fun _ => True) v0_ r ∧ Below w.heap.size w w' := by
 have HR := zA hr
 have HC := zA hc
 have HLd := zA hL
 have HB := zA (Below.refl w.heap.size w)
 have H := h
 clear hr hc hL h
 unfold span_Spans.f at H
 replace H := qb H; obtain ⟨t, A1, H⟩ := H
 have hu24 := Tryd.underlying24
 have hmf : ∀ (fn : Fn) (first cap : Array Value) (w : World), (Instr.makeFunc fn first cap).run Tryd.prog w = .ok (.func fn first cap) w := fun _ _ _ _ => rfl
 have hsf := fun (f : FuncId) (a : Addr) (c : Array Value) (w : World) => run_store Tryd.prog w a (.func (.func f) #[] c) .plain rfl
 by_cases c1 : t = 0
 ·rw [zC c1] at H
  obtain ⟨c1b0, c1b1⟩ := qe c1
  by_cases c2 : ¬ 0 ≤ a2
  ·rw [zD c2] at H
   exact absurd H (by simp)
  replace c2 := Decidable.not_not.1 c2
  rw [zC c2] at H
  by_cases c3_ : ¬ a2.toNat ≤ 17592186044416
  ·rw [zD c3_] at H
   exact absurd H (by simp)
  replace c3_ := Decidable.not_not.1 c3_
  rw [zC c3_] at H
  obtain ⟨o0, ho0⟩ : ∃ o_ : List SSpan, o_ = List.replicate a2.toNat zSpan := ⟨_, rfl⟩
  rw [← ho0] at H
  have N0 := zA ho0
  clear ho0
  replace H := qb H; obtain ⟨o1, A2, H⟩ := H
  replace H := qb H; obtain ⟨o2, A3_, H⟩ := H
  have A4 := zA H
  clear H
  go_enter Tryd.func14, Tryd.ntmps14
  go_wp2_with (first
   | ((with_reducible refine gate_dst (N := 1) rfl ?_); refine box_event (by rfl) (N := 1) (by rfl) (cs := #[.string a0, .int .i64 a1, .int .i64 a2, .slice A3 l3.length c3]) (t := 24) ?hr ?_; (case hr => go_simp <;> rfl); intro gf hg w1 hbox hb; have BF := zA hbox; replace HB := zA (below_step HB.out hb); clear hb hbox hg; have z1 := bk4 BF.out)
   | ((with_reducible refine gate_callee (f := 39) rfl ?_); refine goesL_ (some 9) rfl rfl Tryd.func39 (by kernel_rfl) rfl #[.agg #[.string a0, .int .i64 a1, .int .i64 a2, .slice A3 l3.length c3]] rfl qL ?_; (with_reducible refine (live_Check.calls k a0 a1 a2 _ _ l3 t _ ?side1 ?side2 A1.out (hL := ?side99)).mono ?_); (case side1 => exact Kd.C_below HR.out HB.out); (case side2 => exact HC.out); (case side99 => exact LaidW.below HLd.out HB.out); rintro e w2 ⟨rfl, hb⟩; refine ⟨_, rfl, ?_⟩; replace HB := zA (below_step HB.out hb); replace BF := zA (blk_below BF.out hb); clear z1 hb A1; have z1 := bk4 BF.out)
   | ((with_reducible refine gate_dst (N := 13) rfl ?_); refine Kd.R_make kSpan _ 28 rfl (N := 13) rfl 32 _ _ rfl a2 rfl rfl Tryd.underlying32 (.agg #[.int .i64 0, .int .i64 0]) 16 info28 rfl (by decide) (by omega) zSpan (ok := fun _ => True) (okp := fun _ => True) (kSpan_mkM _ _ _ zSpan) (fun _ hk => hk) trivial c2 (by omega) (Below.refl _ _) (Nat.le_refl _) ?_; intro vm w3 ho hb hg_ hnew_; rw [← N0.out] at ho; obtain ⟨Am, cm, em⟩ := Kd.R_slice ho; subst em; have HU := zA (Kd.R_lower ho (below_size HB.out)); replace HB := zA (below_step HB.out hb); replace BF := zA (blk_below BF.out hb); clear hg_ hnew_ hb ho z1)
   | ((with_reducible refine gate_dst (N := 3) rfl ?_); refine box_event ?hg (N := 3) ?hd (cs := #[.slice none 0 0]) (t := 32) ?hr ?_; (case hd => rfl); (case hg => rfl); (case hr => go_simp <;> rfl); intro gb hg w4 hbox hb; have GB := zA (show w.heap.size ≤ gb by rw [hg]; exact below_size HB.out); replace HB := zA (below_step HB.out hb); replace BF := zA (blk_below BF.out hb); replace HU := zA (Kd.R_below HU.out hb); have BB := zA hbox; clear hb hbox hg; have cm3 : w4.cell? ⟨gb, 0, none⟩ = some _ := blk_cell BB.out 0; have fm3 : w4.frozen? ⟨gb, 0, none⟩ = false := blk_frozen BB.out 0)
   | ((with_reducible refine gate_store (t := 32) (p := 3) rfl ?_); refine store_event (t := 32) (p := 3) (v := ?vo_1) (w1 := (w4.setCell ⟨gb, 0, none⟩ (.slice Am o0.length cm))) ?hg ?ho ?hn ?hr ?_; (case ho => rfl); (case hg => rfl); (case hn => rfl); (case hr => go_simp <;> rfl); intro w5 hw; have n0_ := zA (hw ▸ blk_put BB.out 0 _ rfl : w5.heap[gb]? = some (.cells #[.slice Am o0.length cm] 32 (0, 0))); have n1_ := zA (hw ▸ blk_far BF.out (p := ⟨gb, 0, none⟩) (blk_ne BF.out BB.out (by decide)) _ : w5.heap[gf]? = some _); have n2_ := zA (hw ▸ Kd.R_set HU.out BB.out (by decide) 0 _ : Kd.R kSpan 28 w5 _ _ _ _); have n3_ := zA (hw ▸ below_set HB.out GB.out : Below w.heap.size w w5); clear hw HB BB HU BF cm3 fm3; have BB := n0_; have BF := n1_; have HU := n2_; have HB := n3_; clear n0_ n1_ n2_ n3_; have cb := blk_cell BB.out 0))
  have H' := A2
  clear A2
  go_loopg [16] k (fun kq v16 w' => ∃ (i : Int) (o : List SSpan), v16 = .int .i64 i ∧ Aside0 (span_Spans.l0 kq o (o0.length : Int) i = some o1) ∧ Aside0 (kq ≤ k) ∧ Aside0 (o.length = o0.length) ∧ Aside0 (w'.heap[gb]? = some (.cells #[.slice Am o0.length cm] 32 (0, 0))) ∧ Aside0 (w'.heap[gf]? = some (.cells #[.string a0, .int .i64 a1, .int .i64 a2, .slice A3 l3.length c3] 24 (0, 0))) ∧ Aside0 (Kd.R kSpan 28 w' w.heap.size (fun _ => True) (.slice Am o0.length cm) o) ∧ Aside0 (Below w.heap.size w w'))
  case atStart => exact ⟨0, o0, by first | rfl | simp, H', ⟨Nat.le_refl _⟩, ⟨rfl⟩, BB, BF, HU, HB⟩
  case round =>
   clear H' BB BF HU HB cb
   obtain ⟨i, o, rfl, HA, HK1, HLo, BB, BF, HU, HB⟩ := hrel
   cases gk with
   | zero => exact absurd HA.out (by simp [span_Spans.l0])
   | succ k1 =>
    have H := HA.out
    clear HA
    simp only [span_Spans.l0] at H
    by_cases c4 : i < (o0.length : Int)
    ·rw [zC c4] at H
     have c4b0 : decide (i < (o0.length : Int)) = true := zF c4
     by_cases c5 : ¬ 0 ≤ i
     ·rw [zD c5] at H
      exact absurd H (by simp)
     replace c5 := Decidable.not_not.1 c5
     rw [zC c5] at H
     by_cases c6 : ¬ i < (o.length : Int)
     ·rw [zD c6] at H
      exact absurd H (by simp)
     replace c6 := Decidable.not_not.1 c6
     rw [zC c6] at H
     have H' := zA H
     clear H
     obtain ⟨go, co, eo, gbo, glo, clo, HGo⟩ := Kd.R_form HU.out (by omega)
     injection eo with e1 e2 e3
     subst e1
     clear e2 e3 glo clo HGo
     have GO := zA gbo
     clear gbo
     have hz := span_cells HU.out i c5 c6
     have cb := blk_cell BB.out 0
     go_wp2_with fail
     generalize hw : ((wr.setCell ⟨go, i.toNat * 2, none⟩ (.int .i64 (-1))).setCell ⟨go, i.toNat * 2 + 1, none⟩ (.int .i64 (-1))) = w6
     have hp : Kd.R kSpan 28 w6 w.heap.size (fun _ => True) (.slice (some ⟨go, 0, none⟩) o0.length cm) (o.set i.toNat ⟨-1, -1⟩) ∧ wr.grownBy w6 (some go) := by rw [← hw]; exact span_put HU.out i c5 c6 ⟨-1, -1⟩
     replace BB := zA (blk_grown BB.out hp.2 (Kd.R_ne HU.out BB.out (by decide)))
     replace BF := zA (blk_grown BF.out hp.2 (Kd.R_ne HU.out BF.out (by decide)))
     have HB6 := zA (show Below w.heap.size w w6 by rw [← hw]; exact below_set (below_set HB.out GO.out) GO.out)
     replace HU := zA hp.1
     clear hw hp hz cb HB
     go_roundg k1
     case measure => have := HK1.out; omega
     case rel => exact ⟨_, _, by first | rfl | simp, H', ⟨by have := HK1.out; omega⟩, ⟨by have := HLo.out; simp only [List.length_set]; omega⟩, BB, BF, HU, HB6⟩
    ·rw [zD c4] at H
     have c4b0 : decide (i < (o0.length : Int)) = false := zG c4
     obtain rfl := zI H
     clear H
     have z1 := bk4 BF.out
     have cb := blk_cell BB.out 0
     go_wp2_with (first
      | ((with_reducible refine gate_dst (N := 5) rfl ?_); refine box_event ?hg (N := 5) ?hd (cs := #[.nilFunc]) (t := 74) ?hr ?_; (case hd => rfl); (case hg => rfl); (case hr => go_simp <;> rfl); intro gt hg w_gt hbox hb; have Ggt := zA (show w.heap.size ≤ gt by rw [hg]; exact below_size HB.out); replace BB := zA (blk_below BB.out hb); replace BF := zA (blk_below BF.out hb); replace HU := zA (Kd.R_below HU.out hb); replace HB := zA (below_step HB.out hb); have Bgt := zA hbox; clear hb hbox hg; have cm3 : w_gt.cell? ⟨gt, 0, none⟩ = some _ := blk_cell Bgt.out 0; have fm3 : w_gt.frozen? ⟨gt, 0, none⟩ = false := blk_frozen Bgt.out 0)
      | ((with_reducible refine gate_store (t := 74) (p := 5) rfl ?_); refine store_event (t := 74) (p := 5) (v := ?vo_2) (w1 := (w_gt.setCell ⟨gt, 0, none⟩ (.func (.func 41) #[] #[.pointer (some ⟨gb, 0, none⟩)]))) ?hg ?ho ?hn ?hr ?_; (case ho => rfl); (case hg => rfl); (case hn => rfl); (case hr => go_simp <;> rfl); intro wq_gt hw; have nb_ := zA (hw ▸ blk_put Bgt.out 0 _ rfl : wq_gt.heap[gt]? = some (.cells #[.func (.func 41) #[] #[.pointer (some ⟨gb, 0, none⟩)]] 74 (0, 0))); have n0_ := zA (hw ▸ blk_far BB.out (p := ⟨gt, 0, none⟩) (blk_ne BB.out Bgt.out (by decide)) _ : wq_gt.heap[gb]? = some _); have n1_ := zA (hw ▸ blk_far BF.out (p := ⟨gt, 0, none⟩) (blk_ne BF.out Bgt.out (by decide)) _ : wq_gt.heap[gf]? = some _); have n2_ := zA (hw ▸ Kd.R_set HU.out Bgt.out (by decide) 0 _ : Kd.R kSpan 28 wq_gt _ _ _ _); have n3_ := zA (hw ▸ below_set HB.out Ggt.out : Below w.heap.size w wq_gt); clear hw BB BF HU HB Bgt cm3 fm3; have Bgt := nb_; have BB := n0_; have BF := n1_; have HU := n2_; have HB := n3_; clear nb_ n0_ n1_ n2_ n3_; have cb := blk_cell BB.out 0; have z2 := bk4 BF.out; have cg_gt := blk_cell Bgt.out 0))
     have HS := zA (show SpSt w wq_gt gb gt (.slice Am o0.length cm) o from ⟨BB.out, Bgt.out, HU.out, HB.out⟩)
     have H' := A3_
     clear A3_ BB Bgt HU HB cb cg_gt z2
     go_loopg [27] k (fun kq v27 w' => ∃ (j : Int) (o' : List SSpan), v27 = .int .i64 j ∧ Aside0 (span_Spans.l2 kq a1 j o' = some o2) ∧ Aside0 (kq ≤ k) ∧ Aside0 (SpSt w w' gb gt (.slice Am o0.length cm) o') ∧ Aside0 (w'.heap[gf]? = some (.cells #[.string a0, .int .i64 a1, .int .i64 a2, .slice A3 l3.length c3] 24 (0, 0))))
     case atStart => exact ⟨0, o, by first | rfl | simp, H', ⟨Nat.le_refl _⟩, HS, BF⟩
     case round =>
      clear H' HS BF z1
      obtain ⟨j, o, rfl, HA, HK1, HS, BF⟩ := hrel
      cases gk with
      | zero => exact absurd HA.out (by simp [span_Spans.l2])
      | succ k1 =>
       have H := HA.out
       clear HA
       simp only [span_Spans.l2] at H
       by_cases d1 : j < a1
       ·rw [zC d1] at H
        have d1b0 : decide (j < a1) = true := zF d1
        replace H := qb H; obtain ⟨o3, A5, H⟩ := H
        have H' := zA H
        clear H
        have ct := blk_cell HS.out.bt 0
        go_wp2_with fail
        refine (span_Spans_1.st j 1 o3 A5.out HS.out).mono ?_
        rintro e w6 ⟨rfl, hs6, hk6⟩
        replace BF := zA (blk_kept BF.out hk6 (fun e => ne_own BF.out (Kd.R_typed HS.out.hu) (by decide) e.symm))
        replace HS := zA hs6
        clear hs6 hk6 ct
        go_wp2_with fail
        go_roundg k1
        case measure => have := HK1.out; omega
        case rel => exact ⟨_, o3, by first | rfl | simp, H', ⟨by have := HK1.out; omega⟩, HS, BF⟩
       ·rw [zD d1] at H
        have d1b0 : decide (j < a1) = false := zG d1
        obtain rfl := zI H
        clear H
        have z1 := bk4 BF.out
        have BB := zA HS.out.bb
        have Bgt := zA HS.out.bt
        have HU := zA HS.out.hu
        have HB := zA HS.out.hB
        clear HS
        go_wp2_with (first
         | ((with_reducible refine gate_dst (N := 7) rfl ?_); refine box_event ?hg (N := 7) ?hd (cs := #[.nilFunc]) (t := 75) ?hr ?_; (case hd => rfl); (case hg => rfl); (case hr => go_simp <;> rfl); intro ga hg w_ga hbox hb; have Gga := zA (show w.heap.size ≤ ga by rw [hg]; exact below_size HB.out); replace BB := zA (blk_below BB.out hb); replace Bgt := zA (blk_below Bgt.out hb); replace BF := zA (blk_below BF.out hb); replace HU := zA (Kd.R_below HU.out hb); replace HB := zA (below_step HB.out hb); have Bga := zA hbox; clear hb hbox hg; have cm3 : w_ga.cell? ⟨ga, 0, none⟩ = some _ := blk_cell Bga.out 0; have fm3 : w_ga.frozen? ⟨ga, 0, none⟩ = false := blk_frozen Bga.out 0)
         | ((with_reducible refine gate_store (t := 75) (p := 7) rfl ?_); refine store_event (t := 75) (p := 7) (v := ?vo_3) (w1 := (w_ga.setCell ⟨ga, 0, none⟩ (.func (.func 42) #[] #[.pointer (some ⟨gt, 0, none⟩)]))) ?hg ?ho ?hn ?hr ?_; (case ho => rfl); (case hg => rfl); (case hn => rfl); (case hr => go_simp <;> rfl); intro wq_ga hw; have nb_ := zA (hw ▸ blk_put Bga.out 0 _ rfl : wq_ga.heap[ga]? = some (.cells #[.func (.func 42) #[] #[.pointer (some ⟨gt, 0, none⟩)]] 75 (0, 0))); have n0_ := zA (hw ▸ blk_far BB.out (p := ⟨ga, 0, none⟩) (blk_ne BB.out Bga.out (by decide)) _ : wq_ga.heap[gb]? = some _); have n1_ := zA (hw ▸ blk_far Bgt.out (p := ⟨ga, 0, none⟩) (blk_ne Bgt.out Bga.out (by decide)) _ : wq_ga.heap[gt]? = some _); have n2_ := zA (hw ▸ blk_far BF.out (p := ⟨ga, 0, none⟩) (blk_ne BF.out Bga.out (by decide)) _ : wq_ga.heap[gf]? = some _); have n3_ := zA (hw ▸ Kd.R_set HU.out Bga.out (by decide) 0 _ : Kd.R kSpan 28 wq_ga _ _ _ _); have n4_ := zA (hw ▸ below_set HB.out Gga.out : Below w.heap.size w wq_ga); clear hw BB Bgt BF HU HB Bga cm3 fm3; have Bga := nb_; have BB := n0_; have Bgt := n1_; have BF := n2_; have HU := n3_; have HB := n4_; clear nb_ n0_ n1_ n2_ n3_ n4_; have cb := blk_cell BB.out 0; have z2 := bk4 BF.out; have cg_ga := blk_cell Bga.out 0)
         | ((with_reducible refine gate_callee (f := 43) rfl ?_); refine goesL_ (some 38) rfl rfl Tryd.func43 (by kernel_rfl) rfl #[.agg #[.string a0, .int .i64 a1, .int .i64 a2, .slice A3 l3.length c3], .func (.func 42) #[] #[.pointer (some ⟨gt, 0, none⟩)], .func (.func 44) #[] #[.pointer (some ⟨ga, 0, none⟩), .pointer (some ⟨gt, 0, none⟩)]] rfl qL ?_; (refine (span_each.calls (span_Spans.cb (gb := gb) (u := .slice Am o0.length cm) HLd.out) k a0 a1 a2 A3 c3 l3 o r _ HLd.out HR.out HC.out (fun q e_ => Kd.R_base HU.out q e_.symm) (fun q e_ => Kd.R_lt HU.out q e_.symm) A4.out ⟨⟨BB.out, Bgt.out, HU.out, HB.out⟩, Bga.out⟩).mono ?_); rintro e w8 ⟨rfl, hs8, hk8⟩; refine ⟨_, rfl, ?_⟩; have HS := zA hs8.st; clear hs8 hk8 BB Bgt Bga HU HB cb cg_ga; have cb := blk_cell HS.out.bb 0))
        go_ret
        exact ⟨_, rfl, HS.out.hu, HS.out.hB⟩
 ·rw [zD c1] at H
  obtain ⟨c1b0, c1b1⟩ := qn c1
  obtain rfl := zI H
  clear H
  go_enter Tryd.func14, Tryd.ntmps14
  go_wp2_with (first
   | ((with_reducible refine gate_dst (N := 1) rfl ?_); refine box_event (by rfl) (N := 1) (by rfl) (cs := #[.string a0, .int .i64 a1, .int .i64 a2, .slice A3 l3.length c3]) (t := 24) ?hr ?_; (case hr => go_simp <;> rfl); intro gf hg w1 hbox hb; have BF := zA hbox; replace HB := zA (below_step HB.out hb); clear hb hbox hg; have z1 := bk4 BF.out)
   | ((with_reducible refine gate_callee (f := 39) rfl ?_); refine goesL_ (some 9) rfl rfl Tryd.func39 (by kernel_rfl) rfl #[.agg #[.string a0, .int .i64 a1, .int .i64 a2, .slice A3 l3.length c3]] rfl qL ?_; (with_reducible refine (live_Check.calls k a0 a1 a2 _ _ l3 t _ ?side1 ?side2 A1.out (hL := ?side99)).mono ?_); (case side1 => exact Kd.C_below HR.out HB.out); (case side2 => exact HC.out); (case side99 => exact LaidW.below HLd.out HB.out); rintro e w2 ⟨rfl, hb⟩; refine ⟨_, rfl, ?_⟩; replace HB := zA (below_step HB.out hb); replace BF := zA (blk_below BF.out hb); clear z1 hb A1; have z1 := bk4 BF.out))
  go_ret
  exact ⟨_, rfl, Kd.R_nil _ _ _ _ _, HB.out⟩
end Go.Proofs.YtpkimbkjjmbmcaaDoor.Q
