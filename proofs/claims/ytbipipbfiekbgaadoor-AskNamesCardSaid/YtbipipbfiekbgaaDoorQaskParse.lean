/- Lean functions that answer as the Go functions named below do, and the proofs of that. Written by a program out of the translation. -/
import Derived.Test.YtbipipbfiekbgaaDoorQ0
import Derived.Test.YtbipipbfiekbgaaDoorSq
import Derived.Test.YtbipipbfiekbgaaDoorCut
import Derived.Test.YtbipipbfiekbgaaDoorQaskword
import Derived.Test.YtbipipbfiekbgaaDoorQirName
import Derived.Test.YtbipipbfiekbgaaDoorQstringsCutPrefix
namespace Go.Proofs.YtbipipbfiekbgaaDoor.Q
open Go.RowKit Go.Proofs.YtbipipbfiekbgaaDoorW.PrintWords Go.Proofs.YtbipipbfiekbgaaDoorW.PrintLast Go.Proofs.YtbipipbfiekbgaaDoorW.PrintMore
attribute [local go_sem] max2_int min2_int max_two min_two max_three min_three max_four min_four   -- for this text's walks alone
set_option linter.unusedVariables false
set_option linter.unusedSimpArgs false

/-! ### ask_Parse: function 14 -/
def ask_Parse.l0 : Nat → ByteArray → ByteArray → Bool → Int → Option (Int × ByteArray × ByteArray × Int)
 | 0, _, _, _, _ => none
 | k + 1, x6, x7, x8, x9 => if x9 ≤ 9 then ((ask_word.f x9).bind fun t332 => (if t332.toList = x6.toList then (if (x8 == (decide (x9 < 7))) = true then (if x8 = true then ((ir_Name.f x7).bind fun t333 => (if t333 = true then (some (x9, x7, (⟨#[]⟩ : ByteArray), 0)) else (ask_Parse.l0 k x6 x7 x8 (wrap64 (x9 + 1))))) else (some (x9, x7, (⟨#[]⟩ : ByteArray), 0))) else (ask_Parse.l0 k x6 x7 x8 (wrap64 (x9 + 1)))) else (ask_Parse.l0 k x6 x7 x8 (wrap64 (x9 + 1))))) else (some (0, (⟨#[]⟩ : ByteArray), (⟨#[]⟩ : ByteArray), 210))
def ask_Parse.f (k : Nat) (a0 : ByteArray) : Option (Int × ByteArray × ByteArray × Int) := (strings_CutPrefix.f a0 (⟨#[115, 117, 98, 109, 105, 116, 10]⟩ : ByteArray)).bind fun bt327 => (if bt327.2 = true then (some (1, (⟨#[]⟩ : ByteArray), bt327.1, 0)) else ((strings_Cut.f a0 (⟨#[32]⟩ : ByteArray)).bind fun bt329 => (ask_Parse.l0 k bt329.1 bt329.2.1 bt329.2.2 2)))
theorem ask_Parse.mono_l : ∀ k, (∀ y0 y1 y2 y3, LeO (ask_Parse.l0 k y0 y1 y2 y3) (ask_Parse.l0 (k + 1) y0 y1 y2 y3))
 | 0 => fun _ _ _ _ r h => by simp [ask_Parse.l0] at h
 | k + 1 => by
  have ih0 := ask_Parse.mono_l k
  ·intro y0 y1 y2 y3
   unfold ask_Parse.l0
   repeat' first | (with_reducible exact ih0 _ _ _ _) | (with_reducible exact LeO.refl _) | (with_reducible exact LeO.none _) | (with_reducible refine LeO.ite ?_ ?_) | (with_reducible refine LeO.bind ?_ (fun _ => ?_)) | exact LeO.none _ | refine LeO.ite ?_ ?_ | refine LeO.bind ?_ (fun _ => ?_)
theorem ask_Parse.mono : ∀ a0 k, LeO (ask_Parse.f k a0) (ask_Parse.f (k + 1) a0) := by
 intro a0 k
 have ih0 := ask_Parse.mono_l k
 unfold ask_Parse.f
 repeat' first | (with_reducible exact ih0 _ _ _ _) | (with_reducible exact LeO.refl _) | (with_reducible exact LeO.none _) | (with_reducible refine LeO.ite ?_ ?_) | (with_reducible refine LeO.bind ?_ (fun _ => ?_)) | exact LeO.none _ | refine LeO.ite ?_ ?_ | refine LeO.bind ?_ (fun _ => ?_)
set_option maxHeartbeats 8000000 in
set_option maxRecDepth 100000 in
theorem ask_Parse.calls (k : Nat) (a0 : ByteArray) (r1 : Int) (r2 : ByteArray) (r3 : ByteArray) (r4 : Int) (w : World) (h : ask_Parse.f k a0 = some (r1, r2, r3, r4)) :
  Calls Tryd.prog 14 #[.string a0] w fun e w' => e = .returned (.tuple #[.agg #[.int .i64 r1, .string r2, .string r3], .int .i64 r4]) ∧ Below w.heap.size w w' := by
 have hu40 := Tryd.underlying40
 have HB := Aside0.mk (Below.refl w.heap.size w)
 have H := h; clear h; unfold ask_Parse.f at H
 replace H := Option.bind_eq_some_iff.mp H
 obtain ⟨⟨t327, t328⟩, A20, H⟩ := H
 replace H : (if t328 = true then (some (1, (⟨#[]⟩ : ByteArray), t327, 0)) else ((strings_Cut.f a0 (⟨#[32]⟩ : ByteArray)).bind fun bt329 => (ask_Parse.l0 k bt329.1 bt329.2.1 bt329.2.2 2))) = some (r1, r2, r3, r4) := H
 have A2 := Aside0.mk A20
 clear A20
 by_cases c3 : t328 = true
 ·subst c3
  have H1 : (some (1, (⟨#[]⟩ : ByteArray), t327, 0)) = some (r1, r2, r3, r4) := by rw [if_pos rfl] at H; exact H
  clear H
  have H := H1
  clear H1
  simp only [Option.some.injEq, Prod.mk.injEq] at H
  obtain ⟨rfl, rfl, rfl, rfl⟩ := H
  go_enter Tryd.func14, Tryd.ntmps14
  go_wp2_with (first | ((with_reducible refine gate_dst (N := 2) rfl ?_); refine box_event (by rfl) (N := 2) (by rfl) (cs := #[.int .i64 0, .string (⟨#[]⟩ : ByteArray), .string (⟨#[]⟩ : ByteArray)]) (t := 40) ?hr ?_; (case hr => first | (go_simp; done) | (go_simp; rfl)); intro gb326 hg w4 hbox hb; have BK326 := Aside0.mk (hbox); have GW326 := qG hg; have GE326 := GW326; replace HB := qH hb; clear hb hbox hg) | ((with_reducible refine gate_callee (f := 29) rfl ?_); refine goesL_ (some 12) rfl rfl Tryd.func29 (by kernel_rfl) rfl #[.string a0, .string (⟨#[115, 117, 98, 109, 105, 116, 10]⟩ : ByteArray)] rfl qL ?_; (with_reducible refine (strings_CutPrefix.calls a0 (⟨#[115, 117, 98, 109, 105, 116, 10]⟩ : ByteArray) t327 true _ A2.out).mono ?_); rintro e w' ⟨rfl, ⟨nd, rfl⟩⟩; refine ⟨_, rfl, ?_⟩; (try (rw [drewN_self w4]; generalize hq_ : World.drewN w4 _ = w4; have n0_ : Aside0 (w4.heap[gb326]? = some (.cells #[.int .i64 0, .string (⟨#[]⟩ : ByteArray), .string (⟨#[]⟩ : ByteArray)] 40 (0, 0))) := ⟨by rw [← hq_]; exact (qK BK326.out)⟩; have n1_ : Aside0 (Below w.heap.size w w4) := ⟨by rw [← hq_]; exact qB⟩; clear BK326 HB hq_; have BK326 := n0_; have HB := n1_; clear n0_ n1_)); have z5_0 := bk3 BK326.out))
  refine bodyPost_ret (results_ct rfl _ _ gb326 40 #[.int .i64 1, .string (⟨#[]⟩ : ByteArray), .string t327] (0, 0) _ rfl (by (with_reducible repeat (first | refine blk_drewN ?_ _ | refine blk_drew ?_ | refine blk_alloc ?_ _)); refine blk_put (cs := #[.int .i64 1, .string (⟨#[]⟩ : ByteArray), .string (⟨#[]⟩ : ByteArray)]) ?_ 2 _ rfl; (with_reducible repeat (first | refine blk_drewN ?_ _ | refine blk_drew ?_ | refine blk_alloc ?_ _)); refine blk_put (cs := #[.int .i64 1, .string (⟨#[]⟩ : ByteArray), .string (⟨#[]⟩ : ByteArray)]) ?_ 1 _ rfl; (with_reducible repeat (first | refine blk_drewN ?_ _ | refine blk_drew ?_ | refine blk_alloc ?_ _)); refine blk_put (cs := #[.int .i64 0, .string (⟨#[]⟩ : ByteArray), .string (⟨#[]⟩ : ByteArray)]) ?_ 0 _ rfl; (with_reducible repeat (first | refine blk_drewN ?_ _ | refine blk_drew ?_ | refine blk_alloc ?_ _)); exact BK326.out) Tryd.underlying40 rfl (by kernel_rfl)) rfl ?_
  exact ⟨qE, qB⟩
 ·replace c3 := Bool.eq_false_iff.mpr c3
  subst c3
  have H1 : ((strings_Cut.f a0 (⟨#[32]⟩ : ByteArray)).bind fun bt329 => (ask_Parse.l0 k bt329.1 bt329.2.1 bt329.2.2 2)) = some (r1, r2, r3, r4) := by rw [if_neg (show ¬ (false = true) by decide)] at H; exact H
  clear H
  have H := H1
  clear H1
  replace H := Option.bind_eq_some_iff.mp H
  obtain ⟨⟨t329, t330, t331⟩, A60, H⟩ := H
  replace H : (ask_Parse.l0 k t329 t330 t331 2) = some (r1, r2, r3, r4) := H
  have A6 := Aside0.mk A60
  clear A60
  have H' := Aside0.mk H
  clear H
  go_enter Tryd.func14, Tryd.ntmps14
  go_wp2_with (first | ((with_reducible refine gate_dst (N := 2) rfl ?_); refine box_event (by rfl) (N := 2) (by rfl) (cs := #[.int .i64 0, .string (⟨#[]⟩ : ByteArray), .string (⟨#[]⟩ : ByteArray)]) (t := 40) ?hr ?_; (case hr => first | (go_simp; done) | (go_simp; rfl)); intro gb326 hg w7 hbox hb; have BK326 := Aside0.mk (hbox); have GW326 := qG hg; have GE326 := GW326; replace HB := qH hb; clear hb hbox hg) | ((with_reducible refine gate_callee (f := 29) rfl ?_); refine goesL_ (some 12) rfl rfl Tryd.func29 (by kernel_rfl) rfl #[.string a0, .string (⟨#[115, 117, 98, 109, 105, 116, 10]⟩ : ByteArray)] rfl qL ?_; (with_reducible refine (strings_CutPrefix.calls a0 (⟨#[115, 117, 98, 109, 105, 116, 10]⟩ : ByteArray) t327 false _ A2.out).mono ?_); rintro e w' ⟨rfl, ⟨nd, rfl⟩⟩; refine ⟨_, rfl, ?_⟩) | ((with_reducible refine gate_callee (f := 30) rfl ?_); refine goesL_ (some 20) rfl rfl Tryd.func30 (by kernel_rfl) rfl #[.string a0, .string (⟨#[32]⟩ : ByteArray)] rfl qL ?_; (with_reducible refine (strings_Cut.calls a0 (⟨#[32]⟩ : ByteArray) t329 t330 t331 _ A6.out).mono ?_); rintro e w' ⟨rfl, ⟨nd, rfl⟩⟩; refine ⟨_, rfl, ?_⟩))
  go_loopg [9] k (fun kq v9 w' => ∃ (x9_1 : Int) (x327000_1 : Int) (x327001_1 : ByteArray) (x327002_1 : ByteArray), v9 = .int .i64 x9_1 ∧ Aside0 (ask_Parse.l0 kq t329 t330 t331 x9_1 = some (r1, r2, r3, r4)) ∧ Aside0 (kq ≤ k) ∧ Aside0 (w'.heap[gb326]? = some (.cells #[.int .i64 x327000_1, .string x327001_1, .string x327002_1] 40 (0, 0))) ∧ Aside0 (Below w.heap.size w w'))
  case atStart => exact ⟨(2), (0), ((⟨#[]⟩ : ByteArray)), ((⟨#[]⟩ : ByteArray)), qT, H', ⟨Nat.le_refl _⟩, ⟨qK BK326.out⟩, ⟨qB⟩⟩
  case round =>
   clear H'
   try clear c1; try clear c2; try clear p2; try clear c3; try clear z5_0
   obtain ⟨x9_1, x327000_1, x327001_1, x327002_1, rfl, HA, HK1, BK326, HB⟩ := hrel
   cases gk with
   | zero => exact absurd HA.out (by simp [ask_Parse.l0])
   | succ k1 =>
    have H := HA.out
    clear HA
    simp only [ask_Parse.l0] at H
    by_cases c8 : x9_1 ≤ 9
    ·rw [if_pos c8] at H
     have c8b0 := decide_eq_true c8
     clear c8
     replace H := qb H; obtain ⟨t332, A9, H⟩ := H
     by_cases c10 : t332.toList = t329.toList
     ·rw [if_pos c10] at H
      obtain ⟨c10b0, c10b1⟩ := qe c10; clear c10
      by_cases c11 : (t331 == (decide (x9_1 < 7))) = true
      ·rw [if_pos c11] at H
       have c11b0 : (t331 == (decide (x9_1 < 7))) = true := c11
       (try (have c11b1 : decide (t331 = (decide (x9_1 < 7))) = true := by simpa using c11))
       (try (have c11b2 : (t331 == (decide (x9_1 < 7))) = true := by simpa using c11))
       clear c11
       by_cases c12 : t331 = true
       ·subst c12
        have H1 : ((ir_Name.f t330).bind fun t333 => (if t333 = true then (some (x9_1, t330, (⟨#[]⟩ : ByteArray), 0)) else (ask_Parse.l0 k1 t329 t330 true (wrap64 (x9_1 + 1))))) = some (r1, r2, r3, r4) := by rw [if_pos rfl] at H; exact H
        clear H
        have H := H1
        clear H1
        replace H := qb H; obtain ⟨t333, A13, H⟩ := H
        by_cases c14 : t333 = true
        ·subst c14
         have H1 : (some (x9_1, t330, (⟨#[]⟩ : ByteArray), 0)) = some (r1, r2, r3, r4) := by rw [if_pos rfl] at H; exact H
         clear H
         have H := H1
         clear H1
         simp only [Option.some.injEq, Prod.mk.injEq] at H
         obtain ⟨rfl, rfl, rfl, rfl⟩ := H
         go_wp2_with (first | ((with_reducible refine gate_callee (f := 31) rfl ?_); refine goesL_ (some 29) rfl rfl Tryd.func31 (by kernel_rfl) rfl #[.int .i64 x9_1] rfl qL ?_; (with_reducible refine (ask_word.calls x9_1 t332 _ A9.out).mono ?_); rintro e w' ⟨rfl, ⟨nd, rfl⟩⟩; refine ⟨_, rfl, ?_⟩; (try (rw [drewN_self wr]; generalize hq_ : World.drewN wr _ = wr; have n0_ : Aside0 (wr.heap[gb326]? = some (.cells #[.int .i64 x327000_1, .string x327001_1, .string x327002_1] 40 (0, 0))) := ⟨by rw [← hq_]; exact (qK BK326.out)⟩; have n1_ : Aside0 (Below w.heap.size w wr) := ⟨by rw [← hq_]; exact qB⟩; clear BK326 HB hq_; have BK326 := n0_; have HB := n1_; clear n0_ n1_))) | (go_at_call 21; (with_reducible refine (ir_Name.calls t330 true _ A13.out).mono ?_); (try clear A13); rintro e w15 ⟨rfl, hb⟩; replace BK326 := qW BK326 hb; replace HB := qH hb; (try clear hb); have z16_0 := bk3 BK326.out))
         refine bodyPost_ret (results_ct rfl _ _ gb326 40 #[.int .i64 x9_1, .string t330, .string (⟨#[]⟩ : ByteArray)] (0, 0) _ rfl (by (with_reducible repeat (first | refine blk_drewN ?_ _ | refine blk_drew ?_ | refine blk_alloc ?_ _)); refine blk_put (cs := #[.int .i64 x9_1, .string t330, .string x327002_1]) ?_ 2 _ rfl; (with_reducible repeat (first | refine blk_drewN ?_ _ | refine blk_drew ?_ | refine blk_alloc ?_ _)); refine blk_put (cs := #[.int .i64 x9_1, .string x327001_1, .string x327002_1]) ?_ 1 _ rfl; (with_reducible repeat (first | refine blk_drewN ?_ _ | refine blk_drew ?_ | refine blk_alloc ?_ _)); refine blk_put (cs := #[.int .i64 x327000_1, .string x327001_1, .string x327002_1]) ?_ 0 _ rfl; (with_reducible repeat (first | refine blk_drewN ?_ _ | refine blk_drew ?_ | refine blk_alloc ?_ _)); exact BK326.out) Tryd.underlying40 rfl (by kernel_rfl)) rfl ?_
         exact ⟨qE, qB⟩
        ·replace c14 := Bool.eq_false_iff.mpr c14
         subst c14
         have H1 : (ask_Parse.l0 k1 t329 t330 true (wrap64 (x9_1 + 1))) = some (r1, r2, r3, r4) := by rw [if_neg (show ¬ (false = true) by decide)] at H; exact H
         clear H
         have H := H1
         clear H1
         have H' := Aside0.mk H
         clear H
         go_wp2_with (first | ((with_reducible refine gate_callee (f := 31) rfl ?_); refine goesL_ (some 29) rfl rfl Tryd.func31 (by kernel_rfl) rfl #[.int .i64 x9_1] rfl qL ?_; (with_reducible refine (ask_word.calls x9_1 t332 _ A9.out).mono ?_); rintro e w' ⟨rfl, ⟨nd, rfl⟩⟩; refine ⟨_, rfl, ?_⟩) | (go_at_call 21; (with_reducible refine (ir_Name.calls t330 false _ A13.out).mono ?_); (try clear A13); rintro e w17 ⟨rfl, hb⟩; replace BK326 := qW BK326 hb; replace HB := qH hb; (try clear hb)))
         go_roundg k1
         case measure => have := HK1.out; omega
         case rel => exact ⟨(wrap64 (x9_1 + 1)), (x327000_1), (x327001_1), (x327002_1), qT, H', ⟨by have := HK1.out; omega⟩, ⟨qK BK326.out⟩, ⟨qB⟩⟩
       ·replace c12 := Bool.eq_false_iff.mpr c12
        subst c12
        have H1 : (some (x9_1, t330, (⟨#[]⟩ : ByteArray), 0)) = some (r1, r2, r3, r4) := by rw [if_neg (show ¬ (false = true) by decide)] at H; exact H
        clear H
        have H := H1
        clear H1
        simp only [Option.some.injEq, Prod.mk.injEq] at H
        obtain ⟨rfl, rfl, rfl, rfl⟩ := H
        go_wp2_with (first | ((with_reducible refine gate_callee (f := 31) rfl ?_); refine goesL_ (some 29) rfl rfl Tryd.func31 (by kernel_rfl) rfl #[.int .i64 x9_1] rfl qL ?_; (with_reducible refine (ask_word.calls x9_1 t332 _ A9.out).mono ?_); rintro e w' ⟨rfl, ⟨nd, rfl⟩⟩; refine ⟨_, rfl, ?_⟩; (try (rw [drewN_self wr]; generalize hq_ : World.drewN wr _ = wr; have n0_ : Aside0 (wr.heap[gb326]? = some (.cells #[.int .i64 x327000_1, .string x327001_1, .string x327002_1] 40 (0, 0))) := ⟨by rw [← hq_]; exact (qK BK326.out)⟩; have n1_ : Aside0 (Below w.heap.size w wr) := ⟨by rw [← hq_]; exact qB⟩; clear BK326 HB hq_; have BK326 := n0_; have HB := n1_; clear n0_ n1_)); have z18_0 := bk3 BK326.out))
        refine bodyPost_ret (results_ct rfl _ _ gb326 40 #[.int .i64 x9_1, .string t330, .string (⟨#[]⟩ : ByteArray)] (0, 0) _ rfl (by (with_reducible repeat (first | refine blk_drewN ?_ _ | refine blk_drew ?_ | refine blk_alloc ?_ _)); refine blk_put (cs := #[.int .i64 x9_1, .string t330, .string x327002_1]) ?_ 2 _ rfl; (with_reducible repeat (first | refine blk_drewN ?_ _ | refine blk_drew ?_ | refine blk_alloc ?_ _)); refine blk_put (cs := #[.int .i64 x9_1, .string x327001_1, .string x327002_1]) ?_ 1 _ rfl; (with_reducible repeat (first | refine blk_drewN ?_ _ | refine blk_drew ?_ | refine blk_alloc ?_ _)); refine blk_put (cs := #[.int .i64 x327000_1, .string x327001_1, .string x327002_1]) ?_ 0 _ rfl; (with_reducible repeat (first | refine blk_drewN ?_ _ | refine blk_drew ?_ | refine blk_alloc ?_ _)); exact BK326.out) Tryd.underlying40 rfl (by kernel_rfl)) rfl ?_
        exact ⟨qE, qB⟩
      ·rw [if_neg c11] at H
       have c11b0 : (t331 == (decide (x9_1 < 7))) = false := by simpa using c11
       (try (have c11b1 : decide (t331 = (decide (x9_1 < 7))) = false := by simpa using c11))
       (try (have c11b2 : (t331 == (decide (x9_1 < 7))) = false := by simpa using c11))
       (try (have c11b3 : ¬ (t331 = (decide (x9_1 < 7))) := by simpa using c11))
       clear c11
       have H' := Aside0.mk H
       clear H
       go_wp2_with (first | ((with_reducible refine gate_callee (f := 31) rfl ?_); refine goesL_ (some 29) rfl rfl Tryd.func31 (by kernel_rfl) rfl #[.int .i64 x9_1] rfl qL ?_; (with_reducible refine (ask_word.calls x9_1 t332 _ A9.out).mono ?_); rintro e w' ⟨rfl, ⟨nd, rfl⟩⟩; refine ⟨_, rfl, ?_⟩))
       go_roundg k1
       case measure => have := HK1.out; omega
       case rel => exact ⟨(wrap64 (x9_1 + 1)), (x327000_1), (x327001_1), (x327002_1), qT, H', ⟨by have := HK1.out; omega⟩, ⟨qK BK326.out⟩, ⟨qB⟩⟩
     ·rw [if_neg c10] at H
      obtain ⟨c10b0, c10b1⟩ := qn c10
      have H' := Aside0.mk H
      clear H
      go_wp2_with (first | ((with_reducible refine gate_callee (f := 31) rfl ?_); refine goesL_ (some 29) rfl rfl Tryd.func31 (by kernel_rfl) rfl #[.int .i64 x9_1] rfl qL ?_; (with_reducible refine (ask_word.calls x9_1 t332 _ A9.out).mono ?_); rintro e w' ⟨rfl, ⟨nd, rfl⟩⟩; refine ⟨_, rfl, ?_⟩))
      go_roundg k1
      case measure => have := HK1.out; omega
      case rel => exact ⟨(wrap64 (x9_1 + 1)), (x327000_1), (x327001_1), (x327002_1), qT, H', ⟨by have := HK1.out; omega⟩, ⟨qK BK326.out⟩, ⟨qB⟩⟩
    ·rw [if_neg c8] at H
     have c8b0 := decide_eq_false c8
     clear c8
     simp only [Option.some.injEq, Prod.mk.injEq] at H
     obtain ⟨rfl, rfl, rfl, rfl⟩ := H
     have z19_0 := bk3 BK326.out
     go_wp2
     refine bodyPost_ret (results_ct rfl _ _ gb326 40 #[.int .i64 0, .string (⟨#[]⟩ : ByteArray), .string (⟨#[]⟩ : ByteArray)] (0, 0) _ rfl (by (with_reducible repeat (first | refine blk_drewN ?_ _ | refine blk_drew ?_ | refine blk_alloc ?_ _)); refine blk_put (cs := #[.int .i64 0, .string (⟨#[]⟩ : ByteArray), .string x327002_1]) ?_ 2 _ rfl; (with_reducible repeat (first | refine blk_drewN ?_ _ | refine blk_drew ?_ | refine blk_alloc ?_ _)); refine blk_put (cs := #[.int .i64 0, .string x327001_1, .string x327002_1]) ?_ 1 _ rfl; (with_reducible repeat (first | refine blk_drewN ?_ _ | refine blk_drew ?_ | refine blk_alloc ?_ _)); refine blk_put (cs := #[.int .i64 x327000_1, .string x327001_1, .string x327002_1]) ?_ 0 _ rfl; (with_reducible repeat (first | refine blk_drewN ?_ _ | refine blk_drew ?_ | refine blk_alloc ?_ _)); exact BK326.out) Tryd.underlying40 rfl (by kernel_rfl)) rfl ?_
     exact ⟨qE, qB⟩

end Go.Proofs.YtbipipbfiekbgaaDoor.Q
