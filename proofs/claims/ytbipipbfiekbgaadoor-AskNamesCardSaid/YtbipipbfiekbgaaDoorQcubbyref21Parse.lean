/- Lean functions that answer as the Go functions named below do, and the proofs of that. Written by a program out of the translation. -/
import Derived.Test.YtbipipbfiekbgaaDoorQ0
import Derived.Test.YtbipipbfiekbgaaDoorSq
import Derived.Test.YtbipipbfiekbgaaDoorQcubbyref21Print
import Derived.Test.YtbipipbfiekbgaaDoorQcubbyref21word
namespace Go.Proofs.YtbipipbfiekbgaaDoor.Q
open Go.RowKit Go.Proofs.YtbipipbfiekbgaaDoorW.PrintWords Go.Proofs.YtbipipbfiekbgaaDoorW.PrintLast Go.Proofs.YtbipipbfiekbgaaDoorW.PrintMore
attribute [local go_sem] max2_int min2_int max_two min_two max_three min_three max_four min_four   -- for this text's walks alone
set_option linter.unusedVariables false
set_option linter.unusedSimpArgs false

/-! ### cubbyref21_Parse: function 15 -/
mutual
def cubbyref21_Parse.l0 : Nat → ByteArray → Int → Option (Int × ByteArray × ByteArray × Int)
 | 0, _, _ => none
 | k + 1, x0, x4 => if x4 ≤ 9 then ((cubbyref21_word.f x4).bind fun t342 => (if x4 = 1 then (cubbyref21_Parse.j1 k x0 x4 t342 (decide ((x0.size : Int) > (t342.size : Int))) x4 (⟨#[]⟩ : ByteArray) (⟨#[]⟩ : ByteArray)) else (cubbyref21_Parse.j1 k x0 x4 t342 false x4 (⟨#[]⟩ : ByteArray) (⟨#[]⟩ : ByteArray)))) else (some (0, (⟨#[]⟩ : ByteArray), (⟨#[]⟩ : ByteArray), 210))
def cubbyref21_Parse.j1 : Nat → ByteArray → Int → ByteArray → Bool → Int → ByteArray → ByteArray → Option (Int × ByteArray × ByteArray × Int)
 | 0, _, _, _, _, _, _, _ => none
 | k + 1, x0, x4, x5, x25, x344000, x344001, x344002 => if x25 = true then (if 0 ≤ (wrap64 ((x5.size : Int) + 1)) then (if (wrap64 ((x5.size : Int) + 1)) ≤ (x0.size : Int) then (cubbyref21_Parse.j2 k x0 x4 x5 x344000 x344001 (x0.extract ((wrap64 ((x5.size : Int) + 1)) : Int).toNat x0.size)) else (none)) else (none)) else (cubbyref21_Parse.j2 k x0 x4 x5 x344000 x344001 x344002)
def cubbyref21_Parse.j2 : Nat → ByteArray → Int → ByteArray → Int → ByteArray → ByteArray → Option (Int × ByteArray × ByteArray × Int)
 | 0, _, _, _, _, _, _ => none
 | k + 1, x0, x4, x5, x344000, x344001, x344002 => if x4 > 1 then (if x4 ≤ 6 then (cubbyref21_Parse.j3 k x0 x4 x5 (decide ((x0.size : Int) > (x5.size : Int))) x344000 x344001 x344002) else (cubbyref21_Parse.j3 k x0 x4 x5 false x344000 x344001 x344002)) else (cubbyref21_Parse.j3 k x0 x4 x5 false x344000 x344001 x344002)
def cubbyref21_Parse.j3 : Nat → ByteArray → Int → ByteArray → Bool → Int → ByteArray → ByteArray → Option (Int × ByteArray × ByteArray × Int)
 | 0, _, _, _, _, _, _, _ => none
 | k + 1, x0, x4, x5, x44, x344000, x344001, x344002 => if x44 = true then (if 0 ≤ (wrap64 ((x5.size : Int) + 1)) then (if (wrap64 ((x5.size : Int) + 1)) ≤ (x0.size : Int) then ((cubbyref21_Print.f k x344000 (x0.extract ((wrap64 ((x5.size : Int) + 1)) : Int).toNat x0.size) x344002).bind fun bt344 => (if bt344.2 = 0 then (if bt344.1.toList = x0.toList then (some (x344000, x0.extract ((wrap64 ((x5.size : Int) + 1)) : Int).toNat x0.size, x344002, 0)) else (cubbyref21_Parse.l0 k x0 (wrap64 (x4 + 1)))) else (cubbyref21_Parse.l0 k x0 (wrap64 (x4 + 1))))) else (none)) else (none)) else ((cubbyref21_Print.f k x344000 x344001 x344002).bind fun bt346 => (if bt346.2 = 0 then (if bt346.1.toList = x0.toList then (some (x344000, x344001, x344002, 0)) else (cubbyref21_Parse.l0 k x0 (wrap64 (x4 + 1)))) else (cubbyref21_Parse.l0 k x0 (wrap64 (x4 + 1)))))
end
def cubbyref21_Parse.f (k : Nat) (a0 : ByteArray) : Option (Int × ByteArray × ByteArray × Int) := cubbyref21_Parse.l0 k a0 1
theorem cubbyref21_Parse.mono_l : ∀ k, (∀ y0 y1, LeO (cubbyref21_Parse.l0 k y0 y1) (cubbyref21_Parse.l0 (k + 1) y0 y1)) ∧ (∀ y0 y1 y2 y3 y4 y5 y6, LeO (cubbyref21_Parse.j1 k y0 y1 y2 y3 y4 y5 y6) (cubbyref21_Parse.j1 (k + 1) y0 y1 y2 y3 y4 y5 y6)) ∧ (∀ y0 y1 y2 y3 y4 y5, LeO (cubbyref21_Parse.j2 k y0 y1 y2 y3 y4 y5) (cubbyref21_Parse.j2 (k + 1) y0 y1 y2 y3 y4 y5)) ∧ (∀ y0 y1 y2 y3 y4 y5 y6, LeO (cubbyref21_Parse.j3 k y0 y1 y2 y3 y4 y5 y6) (cubbyref21_Parse.j3 (k + 1) y0 y1 y2 y3 y4 y5 y6))
 | 0 => ⟨fun _ _ r h => by simp [cubbyref21_Parse.l0] at h, fun _ _ _ _ _ _ _ r h => by simp [cubbyref21_Parse.j1] at h, fun _ _ _ _ _ _ r h => by simp [cubbyref21_Parse.j2] at h, fun _ _ _ _ _ _ _ r h => by simp [cubbyref21_Parse.j3] at h⟩
 | k + 1 => by
  obtain ⟨ih0, ih1, ih2, ih3⟩ := cubbyref21_Parse.mono_l k
  refine ⟨?_, ?_, ?_, ?_⟩ <;> intros <;> (first | unfold cubbyref21_Parse.l0 | unfold cubbyref21_Parse.j1 | unfold cubbyref21_Parse.j2 | unfold cubbyref21_Parse.j3) <;> repeat' first | (with_reducible exact ih0 _ _) | (with_reducible exact ih1 _ _ _ _ _ _ _) | (with_reducible exact ih2 _ _ _ _ _ _) | (with_reducible exact ih3 _ _ _ _ _ _ _) | (with_reducible exact cubbyref21_Print.mono _ _ _ _) | (with_reducible exact LeO.refl _) | (with_reducible exact LeO.none _) | (with_reducible refine LeO.ite ?_ ?_) | (with_reducible refine LeO.bind ?_ (fun _ => ?_)) | exact LeO.none _ | refine LeO.ite ?_ ?_ | refine LeO.bind ?_ (fun _ => ?_)
theorem cubbyref21_Parse.mono : ∀ a0 k, LeO (cubbyref21_Parse.f k a0) (cubbyref21_Parse.f (k + 1) a0) := by
 intro a0 k
 obtain ⟨ih0, ih1, ih2, ih3⟩ := cubbyref21_Parse.mono_l k
 unfold cubbyref21_Parse.f
 repeat' first | (with_reducible exact ih0 _ _) | (with_reducible exact ih1 _ _ _ _ _ _ _) | (with_reducible exact ih2 _ _ _ _ _ _) | (with_reducible exact ih3 _ _ _ _ _ _ _) | (with_reducible exact cubbyref21_Print.mono _ _ _ _) | (with_reducible exact LeO.refl _) | (with_reducible exact LeO.none _) | (with_reducible refine LeO.ite ?_ ?_) | (with_reducible refine LeO.bind ?_ (fun _ => ?_)) | exact LeO.none _ | refine LeO.ite ?_ ?_ | refine LeO.bind ?_ (fun _ => ?_)
set_option maxHeartbeats 8000000 in
set_option maxRecDepth 100000 in
theorem cubbyref21_Parse.calls (k : Nat) (a0 : ByteArray) (r1 : Int) (r2 : ByteArray) (r3 : ByteArray) (r4 : Int) (w : World) (h : cubbyref21_Parse.f k a0 = some (r1, r2, r3, r4)) :
  Calls Tryd.prog 15 #[.string a0] w fun e w' => e = .returned (.tuple #[.agg #[.int .i64 r1, .string r2, .string r3], .int .i64 r4]) ∧ Below w.heap.size w w' := by
 have hu43 := Tryd.underlying43
 have HB := Aside0.mk (Below.refl w.heap.size w)
 have H := h; clear h; unfold cubbyref21_Parse.f at H
 have H' := Aside0.mk H
 clear H
 go_enter Tryd.func15, Tryd.ntmps15
 go_wp2_with (first | ((with_reducible refine gate_dst (N := 2) rfl ?_); (try (refine gate_guard (by rfl) ?_; dsimp only)); refine box_event (by rfl) (N := 2) (by rfl) (cs := #[.int .i64 0, .string (⟨#[]⟩ : ByteArray), .string (⟨#[]⟩ : ByteArray)]) (t := 43) ?hr ?_; (case hr => first | (go_simp; done) | (go_simp; rfl)); intro gb341 hg w2 hbox hb; have BK341 := Aside0.mk (hbox); have GW341 := qG hg; have GE341 := GW341; replace HB := qH hb; clear hb hbox hg))
 go_loopg [4] k (fun kq v4 w' => ∃ (x4_1 : Int) (x342000_1 : Int) (x342001_1 : ByteArray) (x342002_1 : ByteArray), v4 = .int .i64 x4_1 ∧ Aside0 (cubbyref21_Parse.l0 kq a0 x4_1 = some (r1, r2, r3, r4)) ∧ Aside0 (kq ≤ k) ∧ Aside0 (w'.heap[gb341]? = some (.cells #[.int .i64 x342000_1, .string x342001_1, .string x342002_1] 43 (0, 0))) ∧ Aside0 (Below w.heap.size w w'))
 case atStart => exact ⟨(1), (0), ((⟨#[]⟩ : ByteArray)), ((⟨#[]⟩ : ByteArray)), qT, H', ⟨Nat.le_refl _⟩, ⟨qK BK341.out⟩, ⟨qB⟩⟩
 case round =>
  clear H'
  try clear c1; try clear p2
  obtain ⟨x4_1, x342000_1, x342001_1, x342002_1, rfl, HA, HK1, BK341, HB⟩ := hrel
  cases gk with
  | zero => exact absurd HA.out (by simp [cubbyref21_Parse.l0])
  | succ k1 =>
   have H := HA.out
   clear HA
   simp only [cubbyref21_Parse.l0] at H
   by_cases c3 : x4_1 ≤ 9
   ·rw [if_pos c3] at H
    have c3b0 := decide_eq_true c3
    clear c3
    replace H := qb H; obtain ⟨t342, A4, H⟩ := H
    have HC5 := Aside0.mk H
    clear H
    go_upto_region 6 with (first | ((with_reducible refine gate_callee (f := 32) rfl ?_); refine goesL_ (some 14) rfl rfl Tryd.func32 (by kernel_rfl) rfl #[.int .i64 x4_1] rfl qL ?_; (with_reducible refine (cubbyref21_word.calls x4_1 t342 _ A4.out).mono ?_); rintro e w6 ⟨rfl, hb⟩; refine ⟨_, rfl, ?_⟩; replace BK341 := qW BK341 hb; replace HB := qH hb; (try clear hb)) | ((with_reducible refine gate_dst (N := 6) rfl ?_); (try (refine gate_guard (by rfl) ?_; dsimp only)); refine box_event (by rfl) (N := 6) (by rfl) (cs := #[.int .i64 0, .string (⟨#[]⟩ : ByteArray), .string (⟨#[]⟩ : ByteArray)]) (t := 43) ?hr ?_; (case hr => first | (go_simp; done) | (go_simp; rfl)); intro gb343 hg w7 hbox hb; have BK343 := Aside0.mk (hbox); have GW343 := qG hg; have GE343 := GW343; replace HB := qH hb; have NB341_343 := Aside0.mk ((by rw [hg]; exact Nat.ne_of_lt (blk_lt (g := gb341) (o := .cells #[.int .i64 x342000_1, .string x342001_1, .string x342002_1] 43 (0, 0)) (qK BK341.out)) : gb341 ≠ gb343)); have NB343_341 := Aside0.mk ((by rw [hg]; exact Nat.ne_of_gt (blk_lt (g := gb341) (o := .cells #[.int .i64 x342000_1, .string x342001_1, .string x342002_1] 43 (0, 0)) (qK BK341.out)) : gb343 ≠ gb341)); replace BK341 := qW BK341 hb; clear hb hbox hg; have hnb8 := NB343_341.out; have hnc8 := NB341_343.out; have z9_0 := bk3 BK343.out))
    (try simp only [Act.put, List.setIfInBounds_toArray, List.set_cons_zero, List.set_cons_succ])
    go_cut [25] (fun v25 wc => ∃ (kq : Nat) (x25_4 : Bool), v25 = .bool x25_4 ∧ Aside0 (cubbyref21_Parse.j1 kq a0 x4_1 t342 x25_4 x4_1 (⟨#[]⟩ : ByteArray) (⟨#[]⟩ : ByteArray) = some (r1, r2, r3, r4)) ∧ Aside0 (kq ≤ k1) ∧ Aside0 (wc.heap[gb341]? = some (.cells #[.int .i64 x342000_1, .string x342001_1, .string x342002_1] 43 (0, 0))) ∧ Aside0 (wc.heap[gb343]? = some (.cells #[.int .i64 x4_1, .string (⟨#[]⟩ : ByteArray), .string (⟨#[]⟩ : ByteArray)] 43 (0, 0))) ∧ Aside0 (Below w.heap.size w wc))
    case first =>
     have H := HC5.out
     clear HC5
     by_cases c10 : x4_1 = 1
     ·rw [if_pos c10] at H
      obtain ⟨c10b0, c10b1⟩ := qe c10; clear c10
      (first | rw [c10b0] | (simp only [i64_w, i32_w]; rw [c10b0]) | skip)
      have H' := Aside0.mk H
      clear H
      go_wp2
      go_meet
      case rel => exact ⟨_, (decide ((a0.size : Int) > (t342.size : Int))), qT, H', ⟨by have := HK1.out; first | omega | exact Nat.le_refl _⟩, ⟨by (with_reducible repeat (first | refine blk_drewN ?_ _ | refine blk_drew ?_ | refine blk_alloc ?_ _)); refine blk_far ?_ NB341_343.out _; (with_reducible repeat (first | refine blk_drewN ?_ _ | refine blk_drew ?_ | refine blk_alloc ?_ _)); refine blk_far ?_ NB341_343.out _; (with_reducible repeat (first | refine blk_drewN ?_ _ | refine blk_drew ?_ | refine blk_alloc ?_ _)); refine blk_far ?_ NB341_343.out _; (with_reducible repeat (first | refine blk_drewN ?_ _ | refine blk_drew ?_ | refine blk_alloc ?_ _)); exact BK341.out⟩, ⟨by (with_reducible repeat (first | refine blk_drewN ?_ _ | refine blk_drew ?_ | refine blk_alloc ?_ _)); refine blk_put (cs := #[.int .i64 x4_1, .string (⟨#[]⟩ : ByteArray), .string (⟨#[]⟩ : ByteArray)]) ?_ 2 _ rfl; (with_reducible repeat (first | refine blk_drewN ?_ _ | refine blk_drew ?_ | refine blk_alloc ?_ _)); refine blk_put (cs := #[.int .i64 x4_1, .string (⟨#[]⟩ : ByteArray), .string (⟨#[]⟩ : ByteArray)]) ?_ 1 _ rfl; (with_reducible repeat (first | refine blk_drewN ?_ _ | refine blk_drew ?_ | refine blk_alloc ?_ _)); refine blk_put (cs := #[.int .i64 0, .string (⟨#[]⟩ : ByteArray), .string (⟨#[]⟩ : ByteArray)]) ?_ 0 _ rfl; (with_reducible repeat (first | refine blk_drewN ?_ _ | refine blk_drew ?_ | refine blk_alloc ?_ _)); exact BK343.out⟩, ⟨qB⟩⟩
     ·rw [if_neg c10] at H
      obtain ⟨c10b0, c10b1⟩ := qn c10
      (first | rw [c10b0] | (simp only [i64_w, i32_w]; rw [c10b0]) | skip)
      have H' := Aside0.mk H
      clear H
      go_wp2
      go_meet
      case rel => exact ⟨_, (false), qT, H', ⟨by have := HK1.out; first | omega | exact Nat.le_refl _⟩, ⟨by (with_reducible repeat (first | refine blk_drewN ?_ _ | refine blk_drew ?_ | refine blk_alloc ?_ _)); refine blk_far ?_ NB341_343.out _; (with_reducible repeat (first | refine blk_drewN ?_ _ | refine blk_drew ?_ | refine blk_alloc ?_ _)); refine blk_far ?_ NB341_343.out _; (with_reducible repeat (first | refine blk_drewN ?_ _ | refine blk_drew ?_ | refine blk_alloc ?_ _)); refine blk_far ?_ NB341_343.out _; (with_reducible repeat (first | refine blk_drewN ?_ _ | refine blk_drew ?_ | refine blk_alloc ?_ _)); exact BK341.out⟩, ⟨by (with_reducible repeat (first | refine blk_drewN ?_ _ | refine blk_drew ?_ | refine blk_alloc ?_ _)); refine blk_put (cs := #[.int .i64 x4_1, .string (⟨#[]⟩ : ByteArray), .string (⟨#[]⟩ : ByteArray)]) ?_ 2 _ rfl; (with_reducible repeat (first | refine blk_drewN ?_ _ | refine blk_drew ?_ | refine blk_alloc ?_ _)); refine blk_put (cs := #[.int .i64 x4_1, .string (⟨#[]⟩ : ByteArray), .string (⟨#[]⟩ : ByteArray)]) ?_ 1 _ rfl; (with_reducible repeat (first | refine blk_drewN ?_ _ | refine blk_drew ?_ | refine blk_alloc ?_ _)); refine blk_put (cs := #[.int .i64 0, .string (⟨#[]⟩ : ByteArray), .string (⟨#[]⟩ : ByteArray)]) ?_ 0 _ rfl; (with_reducible repeat (first | refine blk_drewN ?_ _ | refine blk_drew ?_ | refine blk_alloc ?_ _)); exact BK343.out⟩, ⟨qB⟩⟩
    case rest =>
     clear HC5
     try clear c1; try clear p2; try clear c3b0; try clear c8; try clear c10; try clear c10b0 c10b1; try clear z9_0
     obtain ⟨kq, x25_4, rfl, HA, HJ4, BK341, BK343, HB⟩ := hcut
     cases kq with
     | zero => exact absurd HA.out (by simp [cubbyref21_Parse.j1])
     | succ kj4 =>
      have H := HA.out
      clear HA
      simp only [cubbyref21_Parse.j1] at H
      have HC11 := Aside0.mk H
      clear H
      go_upto_if 25 with (fail)
      go_cut [] (fun wc => ∃ (kq : Nat) (x344002_10 : ByteArray), Aside0 (cubbyref21_Parse.j2 kq a0 x4_1 t342 x4_1 (⟨#[]⟩ : ByteArray) x344002_10 = some (r1, r2, r3, r4)) ∧ Aside0 (kq ≤ kj4) ∧ Aside0 (wc.heap[gb341]? = some (.cells #[.int .i64 x342000_1, .string x342001_1, .string x342002_1] 43 (0, 0))) ∧ Aside0 (wc.heap[gb343]? = some (.cells #[.int .i64 x4_1, .string (⟨#[]⟩ : ByteArray), .string x344002_10] 43 (0, 0))) ∧ Aside0 (Below w.heap.size w wc))
      case first =>
       have H := HC11.out
       clear HC11
       by_cases c12 : x25_4 = true
       ·subst c12
        have H1 : (if 0 ≤ (wrap64 ((t342.size : Int) + 1)) then (if (wrap64 ((t342.size : Int) + 1)) ≤ (a0.size : Int) then (cubbyref21_Parse.j2 kj4 a0 x4_1 t342 x4_1 (⟨#[]⟩ : ByteArray) (a0.extract ((wrap64 ((t342.size : Int) + 1)) : Int).toNat a0.size)) else (none)) else (none)) = some (r1, r2, r3, r4) := by rw [if_pos rfl] at H; exact H
        clear H
        have H := H1
        clear H1
        obtain ⟨ji13, hji13⟩ : ∃ j_ : Int, (wrap64 ((t342.size : Int) + 1)) = j_ := ⟨_, rfl⟩
        replace H : (if 0 ≤ (ji13) then (if (ji13) ≤ (a0.size : Int) then (cubbyref21_Parse.j2 kj4 a0 x4_1 t342 x4_1 (⟨#[]⟩ : ByteArray) (a0.extract ((ji13) : Int).toNat a0.size)) else (none)) else (none)) = some (r1, r2, r3, r4) := by first | (rw [hji13] at H; exact H) | (simp only [hji13] at H ⊢; exact H)
        have hji13w : (IntKind.i64.wrap ((t342.size : Int) + 1)) = ji13 := (i64_w _).trans hji13
        by_cases c14 : 0 ≤ (ji13)
        ·rw [if_pos c14] at H
         have c14b0 := eq_true c14
         have c14b1 := decide_eq_true c14
         clear c14
         by_cases c15 : (ji13) ≤ (a0.size : Int)
         ·rw [if_pos c15] at H
          have c15b0 := eq_true c15
          have c15b1 := decide_eq_true c15
          clear c15
          have H' := Aside0.mk H
          clear H
          have hnb16 := NB343_341.out
          have hnc16 := NB341_343.out
          have z17_0 := bk3 BK343.out
          go_wp2
          go_meet
          case rel => exact ⟨_, (a0.extract ((ji13) : Int).toNat a0.size), H', ⟨by have := HK1.out; have := HJ4.out; first | omega | exact Nat.le_refl _⟩, ⟨by (with_reducible repeat (first | refine blk_drewN ?_ _ | refine blk_drew ?_ | refine blk_alloc ?_ _)); refine blk_far ?_ NB341_343.out _; (with_reducible repeat (first | refine blk_drewN ?_ _ | refine blk_drew ?_ | refine blk_alloc ?_ _)); exact BK341.out⟩, ⟨by (with_reducible repeat (first | refine blk_drewN ?_ _ | refine blk_drew ?_ | refine blk_alloc ?_ _)); refine blk_put (cs := #[.int .i64 x4_1, .string (⟨#[]⟩ : ByteArray), .string (⟨#[]⟩ : ByteArray)]) ?_ 2 _ rfl; (with_reducible repeat (first | refine blk_drewN ?_ _ | refine blk_drew ?_ | refine blk_alloc ?_ _)); exact BK343.out⟩, ⟨qB⟩⟩
         ·rw [if_neg c15] at H
          exact absurd H (by simp)
        ·rw [if_neg c14] at H
         exact absurd H (by simp)
       ·replace c12 := Bool.eq_false_iff.mpr c12
        subst c12
        have H1 : (cubbyref21_Parse.j2 kj4 a0 x4_1 t342 x4_1 (⟨#[]⟩ : ByteArray) (⟨#[]⟩ : ByteArray)) = some (r1, r2, r3, r4) := by rw [if_neg (show ¬ (false = true) by decide)] at H; exact H
        clear H
        have H := H1
        clear H1
        have H' := Aside0.mk H
        clear H
        go_wp2
        go_meet
        case rel => exact ⟨_, ((⟨#[]⟩ : ByteArray)), H', ⟨by have := HK1.out; have := HJ4.out; first | omega | exact Nat.le_refl _⟩, ⟨qK BK341.out⟩, ⟨qK BK343.out⟩, ⟨qB⟩⟩
      case rest =>
       clear HC11
       try clear c1; try clear p2; try clear c3b0; try clear p6; try clear c8; try clear c10; try clear c10b0 c10b1; try clear c12; try clear c14; try clear c14b0 c14b1; try clear c15; try clear c15b0 c15b1; try clear c16; try clear z17_0; try clear z9_0
       obtain ⟨kq, x344002_10, HA, HJ10, BK341, BK343, HB⟩ := hcut
       cases kq with
       | zero => exact absurd HA.out (by simp [cubbyref21_Parse.j2])
       | succ kj10 =>
        have H := HA.out
        clear HA
        simp only [cubbyref21_Parse.j2] at H
        have HC18 := Aside0.mk H
        clear H
        go_upto_region 8 with (fail)
        go_cut [44] (fun v44 wc => ∃ (kq : Nat) (x44_17 : Bool), v44 = .bool x44_17 ∧ Aside0 (cubbyref21_Parse.j3 kq a0 x4_1 t342 x44_17 x4_1 (⟨#[]⟩ : ByteArray) x344002_10 = some (r1, r2, r3, r4)) ∧ Aside0 (kq ≤ kj10) ∧ Aside0 (wc.heap[gb341]? = some (.cells #[.int .i64 x342000_1, .string x342001_1, .string x342002_1] 43 (0, 0))) ∧ Aside0 (wc.heap[gb343]? = some (.cells #[.int .i64 x4_1, .string (⟨#[]⟩ : ByteArray), .string x344002_10] 43 (0, 0))) ∧ Aside0 (Below w.heap.size w wc))
        case first =>
         have H := HC18.out
         clear HC18
         by_cases c19 : x4_1 > 1
         ·rw [if_pos c19] at H
          have c19b0 : decide (1 < x4_1) = true := decide_eq_true c19
          clear c19
          (first | rw [c19b0] | (simp only [i64_w, i32_w]; rw [c19b0]) | skip)
          by_cases c20 : x4_1 ≤ 6
          ·rw [if_pos c20] at H
           have c20b0 := decide_eq_true c20
           clear c20
           have H' := Aside0.mk H
           clear H
           go_wp2
           go_meet
           case rel => exact ⟨_, (decide ((a0.size : Int) > (t342.size : Int))), qT, H', ⟨by have := HK1.out; have := HJ4.out; have := HJ10.out; first | omega | exact Nat.le_refl _⟩, ⟨qK BK341.out⟩, ⟨qK BK343.out⟩, ⟨qB⟩⟩
          ·rw [if_neg c20] at H
           have c20b0 := decide_eq_false c20
           clear c20
           have H' := Aside0.mk H
           clear H
           go_wp2
           go_meet
           case rel => exact ⟨_, (false), qT, H', ⟨by have := HK1.out; have := HJ4.out; have := HJ10.out; first | omega | exact Nat.le_refl _⟩, ⟨qK BK341.out⟩, ⟨qK BK343.out⟩, ⟨qB⟩⟩
         ·rw [if_neg c19] at H
          have c19b0 : decide (1 < x4_1) = false := decide_eq_false c19
          clear c19
          (first | rw [c19b0] | (simp only [i64_w, i32_w]; rw [c19b0]) | skip)
          have H' := Aside0.mk H
          clear H
          go_wp2
          go_meet
          case rel => exact ⟨_, (false), qT, H', ⟨by have := HK1.out; have := HJ4.out; have := HJ10.out; first | omega | exact Nat.le_refl _⟩, ⟨qK BK341.out⟩, ⟨qK BK343.out⟩, ⟨qB⟩⟩
        case rest =>
         clear HC18
         try clear c1; try clear c2; try clear p2; try clear c3b0; try clear p6; try clear c8; try clear c10; try clear c10b0 c10b1; try clear c12; try clear c14; try clear c14b0 c14b1; try clear c15; try clear c15b0 c15b1; try clear c16; try clear c19; try clear c19b0; try clear c20; try clear c20b0; try clear z17_0; try clear z9_0
         obtain ⟨kq, x44_17, rfl, HA, HJ17, BK341, BK343, HB⟩ := hcut
         cases kq with
         | zero => exact absurd HA.out (by simp [cubbyref21_Parse.j3])
         | succ kj17 =>
          have H := HA.out
          clear HA
          simp only [cubbyref21_Parse.j3] at H
          by_cases c21 : x44_17 = true
          ·subst c21
           have H1 : (if 0 ≤ (wrap64 ((t342.size : Int) + 1)) then (if (wrap64 ((t342.size : Int) + 1)) ≤ (a0.size : Int) then ((cubbyref21_Print.f kj17 x4_1 (a0.extract ((wrap64 ((t342.size : Int) + 1)) : Int).toNat a0.size) x344002_10).bind fun bt344 => (if bt344.2 = 0 then (if bt344.1.toList = a0.toList then (some (x4_1, a0.extract ((wrap64 ((t342.size : Int) + 1)) : Int).toNat a0.size, x344002_10, 0)) else (cubbyref21_Parse.l0 kj17 a0 (wrap64 (x4_1 + 1)))) else (cubbyref21_Parse.l0 kj17 a0 (wrap64 (x4_1 + 1))))) else (none)) else (none)) = some (r1, r2, r3, r4) := by rw [if_pos rfl] at H; exact H
           clear H
           have H := H1
           clear H1
           obtain ⟨ji22, hji22⟩ : ∃ j_ : Int, (wrap64 ((t342.size : Int) + 1)) = j_ := ⟨_, rfl⟩
           replace H : (if 0 ≤ (ji22) then (if (ji22) ≤ (a0.size : Int) then ((cubbyref21_Print.f kj17 x4_1 (a0.extract ((ji22) : Int).toNat a0.size) x344002_10).bind fun bt344 => (if bt344.2 = 0 then (if bt344.1.toList = a0.toList then (some (x4_1, a0.extract ((ji22) : Int).toNat a0.size, x344002_10, 0)) else (cubbyref21_Parse.l0 kj17 a0 (wrap64 (x4_1 + 1)))) else (cubbyref21_Parse.l0 kj17 a0 (wrap64 (x4_1 + 1))))) else (none)) else (none)) = some (r1, r2, r3, r4) := by first | (rw [hji22] at H; exact H) | (simp only [hji22] at H ⊢; exact H)
           have hji22w : (IntKind.i64.wrap ((t342.size : Int) + 1)) = ji22 := (i64_w _).trans hji22
           by_cases c23 : 0 ≤ (ji22)
           ·rw [if_pos c23] at H
            have c23b0 := eq_true c23
            have c23b1 := decide_eq_true c23
            clear c23
            by_cases c24 : (ji22) ≤ (a0.size : Int)
            ·rw [if_pos c24] at H
             have c24b0 := eq_true c24
             have c24b1 := decide_eq_true c24
             clear c24
             replace H := Option.bind_eq_some_iff.mp H
             obtain ⟨⟨t344, t345⟩, A250, H⟩ := H
             replace H : (if t345 = 0 then (if t344.toList = a0.toList then (some (x4_1, a0.extract ((ji22) : Int).toNat a0.size, x344002_10, 0)) else (cubbyref21_Parse.l0 kj17 a0 (wrap64 (x4_1 + 1)))) else (cubbyref21_Parse.l0 kj17 a0 (wrap64 (x4_1 + 1)))) = some (r1, r2, r3, r4) := H
             have A25 := Aside0.mk A250
             clear A250
             by_cases c26 : t345 = 0
             ·rw [if_pos c26] at H
              obtain ⟨c26b0, c26b1⟩ := qe c26; clear c26
              by_cases c27 : t344.toList = a0.toList
              ·rw [if_pos c27] at H
               obtain ⟨c27b0, c27b1⟩ := qe c27; clear c27
               simp only [Option.some.injEq, Prod.mk.injEq] at H
               obtain ⟨rfl, rfl, rfl, rfl⟩ := H
               have hnb28 := NB343_341.out
               have hnc28 := NB341_343.out
               have z29_0 := bk3 BK343.out
               go_wp2_with (first | ((with_reducible refine gate_callee (f := 18) rfl ?_); refine goesL_ (some 53) rfl rfl Tryd.func18 (by kernel_rfl) rfl #[.agg #[.int .i64 x4_1, .string (a0.extract ((ji22) : Int).toNat a0.size), .string x344002_10]] rfl (by (try simp only [List.map_toArray, List.map_cons, List.map_nil]); first | done | (simp only [hji22]; rfl) | rfl | (simp only [List.length_drop, List.length_take]; rfl)) ?_; (with_reducible refine (cubbyref21_Print.calls kj17 x4_1 (a0.extract ((ji22) : Int).toNat a0.size) x344002_10 t344 t345 _ A25.out).mono ?_); rintro e w30 ⟨rfl, hb⟩; refine ⟨_, rfl, ?_⟩; replace BK341 := Aside0.mk (blk_below (g := gb341) (o := .cells #[.int .i64 x342000_1, .string x342001_1, .string x342002_1] 43 (0, 0)) (by (with_reducible repeat (first | refine blk_drewN ?_ _ | refine blk_drew ?_ | refine blk_alloc ?_ _)); refine blk_far ?_ NB341_343.out _; (with_reducible repeat (first | refine blk_drewN ?_ _ | refine blk_drew ?_ | refine blk_alloc ?_ _)); exact BK341.out) hb); replace BK343 := Aside0.mk (blk_below (g := gb343) (o := .cells #[.int .i64 x4_1, .string (a0.extract ((ji22) : Int).toNat a0.size), .string x344002_10] 43 (0, 0)) (by (with_reducible repeat (first | refine blk_drewN ?_ _ | refine blk_drew ?_ | refine blk_alloc ?_ _)); refine blk_put (cs := #[.int .i64 x4_1, .string (⟨#[]⟩ : ByteArray), .string x344002_10]) ?_ 1 _ rfl; (with_reducible repeat (first | refine blk_drewN ?_ _ | refine blk_drew ?_ | refine blk_alloc ?_ _)); exact BK343.out) hb); replace HB := qH hb; have hcz31_0 : w30.cell? ⟨gb343, 0, none⟩ = some (.int .i64 x4_1) := (blk_cell BK343.out 0).trans rfl; have hcz31_1 : w30.cell? ⟨gb343, 1, none⟩ = some (.string (a0.extract ((ji22) : Int).toNat a0.size)) := (blk_cell BK343.out 1).trans rfl; have hcz31_2 : w30.cell? ⟨gb343, 2, none⟩ = some (.string x344002_10) := (blk_cell BK343.out 2).trans rfl; have hfz31_0 := blk_frozen BK343.out 0; have hfz31_1 := blk_frozen BK343.out 1; have hfz31_2 := blk_frozen BK343.out 2; have hcz32_0 : w30.cell? ⟨gb341, 0, none⟩ = some (.int .i64 x342000_1) := (blk_cell BK341.out 0).trans rfl; have hcz32_1 : w30.cell? ⟨gb341, 1, none⟩ = some (.string x342001_1) := (blk_cell BK341.out 1).trans rfl; have hcz32_2 : w30.cell? ⟨gb341, 2, none⟩ = some (.string x342002_1) := (blk_cell BK341.out 2).trans rfl; have hfz32_0 := blk_frozen BK341.out 0; have hfz32_1 := blk_frozen BK341.out 1; have hfz32_2 := blk_frozen BK341.out 2))
               refine bodyPost_ret (results_ct rfl _ _ gb341 43 #[.int .i64 x4_1, .string (a0.extract ((ji22) : Int).toNat a0.size), .string x344002_10] (0, 0) _ rfl (by (with_reducible repeat (first | refine blk_drewN ?_ _ | refine blk_drew ?_ | refine blk_alloc ?_ _)); refine blk_put (cs := #[.int .i64 x4_1, .string (a0.extract ((ji22) : Int).toNat a0.size), .string x342002_1]) ?_ 2 _ rfl; (with_reducible repeat (first | refine blk_drewN ?_ _ | refine blk_drew ?_ | refine blk_alloc ?_ _)); refine blk_put (cs := #[.int .i64 x4_1, .string x342001_1, .string x342002_1]) ?_ 1 _ rfl; (with_reducible repeat (first | refine blk_drewN ?_ _ | refine blk_drew ?_ | refine blk_alloc ?_ _)); refine blk_put (cs := #[.int .i64 x342000_1, .string x342001_1, .string x342002_1]) ?_ 0 _ rfl; (with_reducible repeat (first | refine blk_drewN ?_ _ | refine blk_drew ?_ | refine blk_alloc ?_ _)); exact BK341.out) Tryd.underlying43 rfl (by kernel_rfl)) rfl ?_
               exact ⟨by first | rfl | (simp [errW_none, errW_some] <;> rfl) | (simp only [← hji22]; first | rfl | (simp [errW_none, errW_some] <;> rfl)) | (simp [*, errW_none, errW_some] <;> rfl), qB⟩
              ·rw [if_neg c27] at H
               obtain ⟨c27b0, c27b1⟩ := qn c27
               have H' := Aside0.mk H
               clear H
               have hnb33 := NB343_341.out
               have hnc33 := NB341_343.out
               have z34_0 := bk3 BK343.out
               go_wp2_with (first | ((with_reducible refine gate_callee (f := 18) rfl ?_); refine goesL_ (some 53) rfl rfl Tryd.func18 (by kernel_rfl) rfl #[.agg #[.int .i64 x4_1, .string (a0.extract ((ji22) : Int).toNat a0.size), .string x344002_10]] rfl (by (try simp only [List.map_toArray, List.map_cons, List.map_nil]); first | done | (simp only [hji22]; rfl) | rfl | (simp only [List.length_drop, List.length_take]; rfl)) ?_; (with_reducible refine (cubbyref21_Print.calls kj17 x4_1 (a0.extract ((ji22) : Int).toNat a0.size) x344002_10 t344 t345 _ A25.out).mono ?_); rintro e w35 ⟨rfl, hb⟩; refine ⟨_, rfl, ?_⟩; replace BK341 := Aside0.mk (blk_below (g := gb341) (o := .cells #[.int .i64 x342000_1, .string x342001_1, .string x342002_1] 43 (0, 0)) (by (with_reducible repeat (first | refine blk_drewN ?_ _ | refine blk_drew ?_ | refine blk_alloc ?_ _)); refine blk_far ?_ NB341_343.out _; (with_reducible repeat (first | refine blk_drewN ?_ _ | refine blk_drew ?_ | refine blk_alloc ?_ _)); exact BK341.out) hb); replace BK343 := Aside0.mk (blk_below (g := gb343) (o := .cells #[.int .i64 x4_1, .string (a0.extract ((ji22) : Int).toNat a0.size), .string x344002_10] 43 (0, 0)) (by (with_reducible repeat (first | refine blk_drewN ?_ _ | refine blk_drew ?_ | refine blk_alloc ?_ _)); refine blk_put (cs := #[.int .i64 x4_1, .string (⟨#[]⟩ : ByteArray), .string x344002_10]) ?_ 1 _ rfl; (with_reducible repeat (first | refine blk_drewN ?_ _ | refine blk_drew ?_ | refine blk_alloc ?_ _)); exact BK343.out) hb); replace HB := qH hb))
               go_roundg kj17
               case measure => have := HK1.out; have := HJ4.out; have := HJ10.out; have := HJ17.out; omega
               case rel => exact ⟨(wrap64 (x4_1 + 1)), (x342000_1), (x342001_1), (x342002_1), qT, H', ⟨by have := HK1.out; have := HJ4.out; have := HJ10.out; have := HJ17.out; omega⟩, ⟨qK BK341.out⟩, ⟨qB⟩⟩
             ·rw [if_neg c26] at H
              obtain ⟨c26b0, c26b1⟩ := qn c26
              have H' := Aside0.mk H
              clear H
              have hnb36 := NB343_341.out
              have hnc36 := NB341_343.out
              have z37_0 := bk3 BK343.out
              go_wp2_with (first | ((with_reducible refine gate_callee (f := 18) rfl ?_); refine goesL_ (some 53) rfl rfl Tryd.func18 (by kernel_rfl) rfl #[.agg #[.int .i64 x4_1, .string (a0.extract ((ji22) : Int).toNat a0.size), .string x344002_10]] rfl (by (try simp only [List.map_toArray, List.map_cons, List.map_nil]); first | done | (simp only [hji22]; rfl) | rfl | (simp only [List.length_drop, List.length_take]; rfl)) ?_; (with_reducible refine (cubbyref21_Print.calls kj17 x4_1 (a0.extract ((ji22) : Int).toNat a0.size) x344002_10 t344 t345 _ A25.out).mono ?_); rintro e w38 ⟨rfl, hb⟩; refine ⟨_, rfl, ?_⟩; replace BK341 := Aside0.mk (blk_below (g := gb341) (o := .cells #[.int .i64 x342000_1, .string x342001_1, .string x342002_1] 43 (0, 0)) (by (with_reducible repeat (first | refine blk_drewN ?_ _ | refine blk_drew ?_ | refine blk_alloc ?_ _)); refine blk_far ?_ NB341_343.out _; (with_reducible repeat (first | refine blk_drewN ?_ _ | refine blk_drew ?_ | refine blk_alloc ?_ _)); exact BK341.out) hb); replace BK343 := Aside0.mk (blk_below (g := gb343) (o := .cells #[.int .i64 x4_1, .string (a0.extract ((ji22) : Int).toNat a0.size), .string x344002_10] 43 (0, 0)) (by (with_reducible repeat (first | refine blk_drewN ?_ _ | refine blk_drew ?_ | refine blk_alloc ?_ _)); refine blk_put (cs := #[.int .i64 x4_1, .string (⟨#[]⟩ : ByteArray), .string x344002_10]) ?_ 1 _ rfl; (with_reducible repeat (first | refine blk_drewN ?_ _ | refine blk_drew ?_ | refine blk_alloc ?_ _)); exact BK343.out) hb); replace HB := qH hb))
              go_roundg kj17
              case measure => have := HK1.out; have := HJ4.out; have := HJ10.out; have := HJ17.out; omega
              case rel => exact ⟨(wrap64 (x4_1 + 1)), (x342000_1), (x342001_1), (x342002_1), qT, H', ⟨by have := HK1.out; have := HJ4.out; have := HJ10.out; have := HJ17.out; omega⟩, ⟨qK BK341.out⟩, ⟨qB⟩⟩
            ·rw [if_neg c24] at H
             exact absurd H (by simp)
           ·rw [if_neg c23] at H
            exact absurd H (by simp)
          ·replace c21 := Bool.eq_false_iff.mpr c21
           subst c21
           have H1 : ((cubbyref21_Print.f kj17 x4_1 (⟨#[]⟩ : ByteArray) x344002_10).bind fun bt346 => (if bt346.2 = 0 then (if bt346.1.toList = a0.toList then (some (x4_1, (⟨#[]⟩ : ByteArray), x344002_10, 0)) else (cubbyref21_Parse.l0 kj17 a0 (wrap64 (x4_1 + 1)))) else (cubbyref21_Parse.l0 kj17 a0 (wrap64 (x4_1 + 1))))) = some (r1, r2, r3, r4) := by rw [if_neg (show ¬ (false = true) by decide)] at H; exact H
           clear H
           have H := H1
           clear H1
           replace H := Option.bind_eq_some_iff.mp H
           obtain ⟨⟨t346, t347⟩, A390, H⟩ := H
           replace H : (if t347 = 0 then (if t346.toList = a0.toList then (some (x4_1, (⟨#[]⟩ : ByteArray), x344002_10, 0)) else (cubbyref21_Parse.l0 kj17 a0 (wrap64 (x4_1 + 1)))) else (cubbyref21_Parse.l0 kj17 a0 (wrap64 (x4_1 + 1)))) = some (r1, r2, r3, r4) := H
           have A39 := Aside0.mk A390
           clear A390
           by_cases c40 : t347 = 0
           ·rw [if_pos c40] at H
            obtain ⟨c40b0, c40b1⟩ := qe c40; clear c40
            by_cases c41 : t346.toList = a0.toList
            ·rw [if_pos c41] at H
             obtain ⟨c41b0, c41b1⟩ := qe c41; clear c41
             simp only [Option.some.injEq, Prod.mk.injEq] at H
             obtain ⟨rfl, rfl, rfl, rfl⟩ := H
             have hnb42 := NB343_341.out
             have hnc42 := NB341_343.out
             have z43_0 := bk3 BK343.out
             go_wp2_with (first | ((with_reducible refine gate_callee (f := 18) rfl ?_); refine goesL_ (some 53) rfl rfl Tryd.func18 (by kernel_rfl) rfl #[.agg #[.int .i64 x4_1, .string (⟨#[]⟩ : ByteArray), .string x344002_10]] rfl qL ?_; (with_reducible refine (cubbyref21_Print.calls kj17 x4_1 (⟨#[]⟩ : ByteArray) x344002_10 t346 t347 _ A39.out).mono ?_); rintro e w44 ⟨rfl, hb⟩; refine ⟨_, rfl, ?_⟩; replace BK341 := qW BK341 hb; replace BK343 := qW BK343 hb; replace HB := qH hb; (try clear hb); have z45_0 := bk3 BK343.out; have z46_0 := bk3 BK341.out))
             refine bodyPost_ret (results_ct rfl _ _ gb341 43 #[.int .i64 x4_1, .string (⟨#[]⟩ : ByteArray), .string x344002_10] (0, 0) _ rfl (by (with_reducible repeat (first | refine blk_drewN ?_ _ | refine blk_drew ?_ | refine blk_alloc ?_ _)); refine blk_put (cs := #[.int .i64 x4_1, .string (⟨#[]⟩ : ByteArray), .string x342002_1]) ?_ 2 _ rfl; (with_reducible repeat (first | refine blk_drewN ?_ _ | refine blk_drew ?_ | refine blk_alloc ?_ _)); refine blk_put (cs := #[.int .i64 x4_1, .string x342001_1, .string x342002_1]) ?_ 1 _ rfl; (with_reducible repeat (first | refine blk_drewN ?_ _ | refine blk_drew ?_ | refine blk_alloc ?_ _)); refine blk_put (cs := #[.int .i64 x342000_1, .string x342001_1, .string x342002_1]) ?_ 0 _ rfl; (with_reducible repeat (first | refine blk_drewN ?_ _ | refine blk_drew ?_ | refine blk_alloc ?_ _)); exact BK341.out) Tryd.underlying43 rfl (by kernel_rfl)) rfl ?_
             exact ⟨qE, qB⟩
            ·rw [if_neg c41] at H
             obtain ⟨c41b0, c41b1⟩ := qn c41
             have H' := Aside0.mk H
             clear H
             have hnb47 := NB343_341.out
             have hnc47 := NB341_343.out
             have z48_0 := bk3 BK343.out
             go_wp2_with (first | ((with_reducible refine gate_callee (f := 18) rfl ?_); refine goesL_ (some 53) rfl rfl Tryd.func18 (by kernel_rfl) rfl #[.agg #[.int .i64 x4_1, .string (⟨#[]⟩ : ByteArray), .string x344002_10]] rfl qL ?_; (with_reducible refine (cubbyref21_Print.calls kj17 x4_1 (⟨#[]⟩ : ByteArray) x344002_10 t346 t347 _ A39.out).mono ?_); rintro e w49 ⟨rfl, hb⟩; refine ⟨_, rfl, ?_⟩; replace BK341 := qW BK341 hb; replace BK343 := qW BK343 hb; replace HB := qH hb; (try clear hb)))
             go_roundg kj17
             case measure => have := HK1.out; have := HJ4.out; have := HJ10.out; have := HJ17.out; omega
             case rel => exact ⟨(wrap64 (x4_1 + 1)), (x342000_1), (x342001_1), (x342002_1), qT, H', ⟨by have := HK1.out; have := HJ4.out; have := HJ10.out; have := HJ17.out; omega⟩, ⟨qK BK341.out⟩, ⟨qB⟩⟩
           ·rw [if_neg c40] at H
            obtain ⟨c40b0, c40b1⟩ := qn c40
            have H' := Aside0.mk H
            clear H
            have hnb50 := NB343_341.out
            have hnc50 := NB341_343.out
            have z51_0 := bk3 BK343.out
            go_wp2_with (first | ((with_reducible refine gate_callee (f := 18) rfl ?_); refine goesL_ (some 53) rfl rfl Tryd.func18 (by kernel_rfl) rfl #[.agg #[.int .i64 x4_1, .string (⟨#[]⟩ : ByteArray), .string x344002_10]] rfl qL ?_; (with_reducible refine (cubbyref21_Print.calls kj17 x4_1 (⟨#[]⟩ : ByteArray) x344002_10 t346 t347 _ A39.out).mono ?_); rintro e w52 ⟨rfl, hb⟩; refine ⟨_, rfl, ?_⟩; replace BK341 := qW BK341 hb; replace BK343 := qW BK343 hb; replace HB := qH hb; (try clear hb)))
            go_roundg kj17
            case measure => have := HK1.out; have := HJ4.out; have := HJ10.out; have := HJ17.out; omega
            case rel => exact ⟨(wrap64 (x4_1 + 1)), (x342000_1), (x342001_1), (x342002_1), qT, H', ⟨by have := HK1.out; have := HJ4.out; have := HJ10.out; have := HJ17.out; omega⟩, ⟨qK BK341.out⟩, ⟨qB⟩⟩
   ·rw [if_neg c3] at H
    have c3b0 := decide_eq_false c3
    clear c3
    simp only [Option.some.injEq, Prod.mk.injEq] at H
    obtain ⟨rfl, rfl, rfl, rfl⟩ := H
    have z53_0 := bk3 BK341.out
    go_wp2
    refine bodyPost_ret (results_ct rfl _ _ gb341 43 #[.int .i64 0, .string (⟨#[]⟩ : ByteArray), .string (⟨#[]⟩ : ByteArray)] (0, 0) _ rfl (by (with_reducible repeat (first | refine blk_drewN ?_ _ | refine blk_drew ?_ | refine blk_alloc ?_ _)); refine blk_put (cs := #[.int .i64 0, .string (⟨#[]⟩ : ByteArray), .string x342002_1]) ?_ 2 _ rfl; (with_reducible repeat (first | refine blk_drewN ?_ _ | refine blk_drew ?_ | refine blk_alloc ?_ _)); refine blk_put (cs := #[.int .i64 0, .string x342001_1, .string x342002_1]) ?_ 1 _ rfl; (with_reducible repeat (first | refine blk_drewN ?_ _ | refine blk_drew ?_ | refine blk_alloc ?_ _)); refine blk_put (cs := #[.int .i64 x342000_1, .string x342001_1, .string x342002_1]) ?_ 0 _ rfl; (with_reducible repeat (first | refine blk_drewN ?_ _ | refine blk_drew ?_ | refine blk_alloc ?_ _)); exact BK341.out) Tryd.underlying43 rfl (by kernel_rfl)) rfl ?_
    exact ⟨qE, qB⟩

end Go.Proofs.YtbipipbfiekbgaaDoor.Q
