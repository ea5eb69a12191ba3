/- LiveSmall: parts of the proofs, put together. -/
import Derived.Test.YtebnnknijbgekaaDoorMLiveSmall1
import Derived.Test.YtebnnknijbgekaaDoorMLiveSmall2
namespace Go.Proofs.YtebnnknijbgekaaDoor.Q
open Go.RowKit Go.Proofs.YtebnnknijbgekaaDoorW.PrintWords Go.Proofs.YtebnnknijbgekaaDoorW.PrintLast Go.Proofs.YtebnnknijbgekaaDoorW.PrintMore
attribute [local go_sem] max2_int min2_int max_two min_two max_three min_three max_four min_four   -- for this text's walks alone
set_option linter.unusedVariables false
set_option linter.unusedSimpArgs false

/-! ### cubbylaw11_heavy: function 19 -/
def cubbylaw11_heavy.f (k : Nat) (a0_0 : ByteArray) (a0_1 : Int) (a0_2 : Int) (l0_3 : List (List (SIns))) : Option (Bool) := if (a0_0.size : Int) > 100 then (some true) else (if (l0_3.length : Int) > 12 then (some true) else ((cubbyref07_Check.f k a0_0 a0_1 a0_2 l0_3).bind fun t167 => (if t167 = 0 then (some (decide (a0_2 > 40))) else (some true))))
theorem cubbylaw11_heavy.mono : ∀ a0 a1 a2 a3 k, LeO (cubbylaw11_heavy.f k a0 a1 a2 a3) (cubbylaw11_heavy.f (k + 1) a0 a1 a2 a3) := by
 intro a0 a1 a2 a3 k
 unfold cubbylaw11_heavy.f
 repeat' first | (with_reducible exact cubbyref07_Check.mono _ _ _ _ _) | (with_reducible exact LeO.refl _) | (with_reducible exact LeO.none _) | (with_reducible refine LeO.ite ?_ ?_) | (with_reducible refine LeO.bind ?_ (fun _ => ?_)) | exact LeO.none _ | refine LeO.ite ?_ ?_ | refine LeO.bind ?_ (fun _ => ?_)
set_option maxHeartbeats 8000000 in
set_option maxRecDepth 100000 in
theorem cubbylaw11_heavy.calls (k : Nat) (a0_0 : ByteArray) (a0_1 : Int) (a0_2 : Int) (A0_3 : Option Addr) (c0_3 : Nat) (l0_3 : List (List (SIns))) (r : Bool) (w : World) (hr0_3 : Kd.C (Kd.slice 31 kIns) w A0_3 l0_3.length l0_3) (hc0_3 : l0_3.length ≤ c0_3) (h : cubbylaw11_heavy.f k a0_0 a0_1 a0_2 l0_3 = some r) :
  Calls Tryd.prog 19 #[.agg #[.string a0_0, .int .i64 a0_1, .int .i64 a0_2, .slice A0_3 l0_3.length c0_3]] w fun e w' => e = .returned (.bool r) ∧ Below w.heap.size w w' := by
 have hu34 := Tryd.underlying34
 have HR0_3 := Aside0.mk hr0_3
 have HC0_3 := Aside0.mk hc0_3
 clear hr0_3 hc0_3
 have HB := Aside0.mk (Below.refl w.heap.size w)
 have H := h; clear h; unfold cubbylaw11_heavy.f at H
 by_cases c2 : (a0_0.size : Int) > 100
 ·rw [if_pos c2] at H
  have c2b0 : decide (100 < (a0_0.size : Int)) = true := decide_eq_true c2
  have c2b1 : decide (100 < a0_0.size) = true := decide_eq_true (by omega)
  clear c2
  obtain rfl := Option.some.inj H
  go_enter Tryd.func19, Tryd.ntmps19
  go_wp2_with (first | ((with_reducible refine gate_dst (N := 1) rfl ?_); (try (refine gate_guard (by rfl) ?_; dsimp only)); refine box_event (by rfl) (N := 1) (by rfl) (cs := #[.string a0_0, .int .i64 a0_1, .int .i64 a0_2, .slice A0_3 l0_3.length c0_3]) (t := 34) ?hr ?_; (case hr => first | (go_simp; done) | (go_simp; rfl)); intro gb166 hg w3 hbox hb; have BK166 := Aside0.mk (hbox); have GW166 := qG hg; have GE166 := GW166; replace HB := qH hb; clear hb hbox hg; obtain ⟨hcz4_0, hcz4_1, hcz4_2, hcz4_3, hfz4_0, hfz4_1, hfz4_2, hfz4_3⟩ := bk4 BK166.out))
  go_ret
  exact ⟨qE, qB⟩
 ·rw [if_neg c2] at H
  have c2b0 : decide (100 < (a0_0.size : Int)) = false := decide_eq_false c2
  have c2b1 : decide (100 < a0_0.size) = false := decide_eq_false (by omega)
  clear c2
  by_cases c5 : (l0_3.length : Int) > 12
  ·rw [if_pos c5] at H
   have c5b0 : decide (12 < (l0_3.length : Int)) = true := decide_eq_true c5
   have c5b1 : decide (12 < l0_3.length) = true := decide_eq_true (by omega)
   clear c5
   obtain rfl := Option.some.inj H
   go_enter Tryd.func19, Tryd.ntmps19
   go_wp2_with (first | ((with_reducible refine gate_dst (N := 1) rfl ?_); (try (refine gate_guard (by rfl) ?_; dsimp only)); refine box_event (by rfl) (N := 1) (by rfl) (cs := #[.string a0_0, .int .i64 a0_1, .int .i64 a0_2, .slice A0_3 l0_3.length c0_3]) (t := 34) ?hr ?_; (case hr => first | (go_simp; done) | (go_simp; rfl)); intro gb166 hg w6 hbox hb; have BK166 := Aside0.mk (hbox); have GW166 := qG hg; have GE166 := GW166; replace HB := qH hb; clear hb hbox hg; obtain ⟨hcz7_0, hcz7_1, hcz7_2, hcz7_3, hfz7_0, hfz7_1, hfz7_2, hfz7_3⟩ := bk4 BK166.out))
   go_ret
   exact ⟨qE, qB⟩
  ·rw [if_neg c5] at H
   have c5b0 : decide (12 < (l0_3.length : Int)) = false := decide_eq_false c5
   have c5b1 : decide (12 < l0_3.length) = false := decide_eq_false (by omega)
   clear c5
   replace H := qb H; obtain ⟨t167, A8, H⟩ := H
   by_cases c9 : t167 = 0
   ·rw [if_pos c9] at H
    obtain ⟨c9b0, c9b1⟩ := qe c9; clear c9
    obtain rfl := Option.some.inj H
    go_enter Tryd.func19, Tryd.ntmps19
    go_wp2_with (first | ((with_reducible refine gate_dst (N := 1) rfl ?_); (try (refine gate_guard (by rfl) ?_; dsimp only)); refine box_event (by rfl) (N := 1) (by rfl) (cs := #[.string a0_0, .int .i64 a0_1, .int .i64 a0_2, .slice A0_3 l0_3.length c0_3]) (t := 34) ?hr ?_; (case hr => first | (go_simp; done) | (go_simp; rfl)); intro gb166 hg w10 hbox hb; have BK166 := Aside0.mk (hbox); have GW166 := qG hg; have GE166 := GW166; replace HB := qH hb; clear hb hbox hg; obtain ⟨hcz11_0, hcz11_1, hcz11_2, hcz11_3, hfz11_0, hfz11_1, hfz11_2, hfz11_3⟩ := bk4 BK166.out) | (go_at_call 17; (with_reducible refine (cubbyref07_Check.calls k a0_0 a0_1 a0_2 _ _ l0_3 t167 _ ?side1 ?side2 A8.out).mono ?_); (case side1 => exact qCB HR0_3.out); (case side2 => exact HC0_3.out); (try clear A8); rintro e w12 ⟨rfl, hb⟩; replace BK166 := qW BK166 hb; replace HB := qH hb; (try clear hb); obtain ⟨hcz13_0, hcz13_1, hcz13_2, hcz13_3, hfz13_0, hfz13_1, hfz13_2, hfz13_3⟩ := bk4 BK166.out))
    go_ret
    exact ⟨qE, qB⟩
   ·rw [if_neg c9] at H
    obtain ⟨c9b0, c9b1⟩ := qn c9
    obtain rfl := Option.some.inj H
    go_enter Tryd.func19, Tryd.ntmps19
    go_wp2_with (first | ((with_reducible refine gate_dst (N := 1) rfl ?_); (try (refine gate_guard (by rfl) ?_; dsimp only)); refine box_event (by rfl) (N := 1) (by rfl) (cs := #[.string a0_0, .int .i64 a0_1, .int .i64 a0_2, .slice A0_3 l0_3.length c0_3]) (t := 34) ?hr ?_; (case hr => first | (go_simp; done) | (go_simp; rfl)); intro gb166 hg w14 hbox hb; have BK166 := Aside0.mk (hbox); have GW166 := qG hg; have GE166 := GW166; replace HB := qH hb; clear hb hbox hg; obtain ⟨hcz15_0, hcz15_1, hcz15_2, hcz15_3, hfz15_0, hfz15_1, hfz15_2, hfz15_3⟩ := bk4 BK166.out) | (go_at_call 17; (with_reducible refine (cubbyref07_Check.calls k a0_0 a0_1 a0_2 _ _ l0_3 t167 _ ?side1 ?side2 A8.out).mono ?_); (case side1 => exact qCB HR0_3.out); (case side2 => exact HC0_3.out); (try clear A8); rintro e w16 ⟨rfl, hb⟩; replace BK166 := qW BK166 hb; replace HB := qH hb; (try clear hb)))
    go_ret
    exact ⟨qE, qB⟩

end Go.Proofs.YtebnnknijbgekaaDoor.Q
namespace Go.Proofs.YtebnnknijbgekaaDoor.Q
open Go.RowKit Go.Proofs.YtebnnknijbgekaaDoorW.PrintWords Go.Proofs.YtebnnknijbgekaaDoorW.PrintLast Go.Proofs.YtebnnknijbgekaaDoorW.PrintMore
attribute [local go_sem] max2_int min2_int max_two min_two max_three min_three max_four min_four   -- for this text's walks alone
set_option linter.unusedVariables false
set_option linter.unusedSimpArgs false

/-! ### cubbyref10_Ints: function 35 -/
def cubbyref10_Ints.l0 : Nat → List Int → List Int → Int → Option (Bool)
 | 0, _, _, _ => none
 | k + 1, x0, x1, x5 => if x5 < (x0.length : Int) then (if 0 ≤ x5 then (if x5 < (x1.length : Int) then (if (rd x0 x5) = (rd x1 x5) then (cubbyref10_Ints.l0 k x0 x1 (wrap64 (x5 + 1))) else (some false)) else (none)) else (none)) else (some true)
def cubbyref10_Ints.f (k : Nat) (l0 : List Int) (l1 : List Int) : Option (Bool) := if (l0.length : Int) = (l1.length : Int) then (cubbyref10_Ints.l0 k l0 l1 0) else (some false)
theorem cubbyref10_Ints.mono_l : ∀ k, (∀ y0 y1 y2, LeO (cubbyref10_Ints.l0 k y0 y1 y2) (cubbyref10_Ints.l0 (k + 1) y0 y1 y2))
 | 0 => fun _ _ _ r h => by simp [cubbyref10_Ints.l0] at h
 | k + 1 => by
  have ih0 := cubbyref10_Ints.mono_l k
  ·intro y0 y1 y2
   unfold cubbyref10_Ints.l0
   repeat' first | (with_reducible exact ih0 _ _ _) | (with_reducible exact LeO.refl _) | (with_reducible exact LeO.none _) | (with_reducible refine LeO.ite ?_ ?_) | (with_reducible refine LeO.bind ?_ (fun _ => ?_)) | exact LeO.none _ | refine LeO.ite ?_ ?_ | refine LeO.bind ?_ (fun _ => ?_)
theorem cubbyref10_Ints.mono : ∀ a0 a1 k, LeO (cubbyref10_Ints.f k a0 a1) (cubbyref10_Ints.f (k + 1) a0 a1) := by
 intro a0 a1 k
 have ih0 := cubbyref10_Ints.mono_l k
 unfold cubbyref10_Ints.f
 repeat' first | (with_reducible exact ih0 _ _ _) | (with_reducible exact LeO.refl _) | (with_reducible exact LeO.none _) | (with_reducible refine LeO.ite ?_ ?_) | (with_reducible refine LeO.bind ?_ (fun _ => ?_)) | exact LeO.none _ | refine LeO.ite ?_ ?_ | refine LeO.bind ?_ (fun _ => ?_)
set_option maxHeartbeats 8000000 in
set_option maxRecDepth 100000 in
theorem cubbyref10_Ints.calls (k : Nat) (A0 : Option Addr) (c0 : Nat) (l0 : List Int) (A1 : Option Addr) (c1 : Nat) (l1 : List Int) (r : Bool) (w : World) (hr0 : Kd.C (Kd.int .i64) w A0 l0.length l0) (hc0 : l0.length ≤ c0) (hr1 : Kd.C (Kd.int .i64) w A1 l1.length l1) (hc1 : l1.length ≤ c1) (h : cubbyref10_Ints.f k l0 l1 = some r) :
  Calls Tryd.prog 35 #[.slice A0 l0.length c0, .slice A1 l1.length c1] w fun e w' => e = .returned (.bool r) ∧ Drawn0 w w' := by
 have HR0 := Aside0.mk hr0
 have HC0 := Aside0.mk hc0
 clear hr0 hc0
 have HR1 := Aside0.mk hr1
 have HC1 := Aside0.mk hc1
 clear hr1 hc1
 have H := h; clear h; unfold cubbyref10_Ints.f at H
 by_cases c3 : (l0.length : Int) = (l1.length : Int)
 ·rw [if_pos c3] at H
  obtain ⟨c3b0, c3b1⟩ := qe c3
  have c3b2 : (l0.length == l1.length) = true := by first | simpa using c3 | (simp at c3 ⊢; omega)
  clear c3
  have H' := Aside0.mk H
  clear H
  go_enter Tryd.func35, Tryd.ntmps35
  go_wp2
  repeat (go_quiet (fail); try go_wp2)
  go_loopg [5] k (fun kq v5 w' => ∃ (x5_1 : Int), v5 = .int .i64 x5_1 ∧ Aside0 (cubbyref10_Ints.l0 kq l0 l1 x5_1 = some r) ∧ Aside0 (kq ≤ k) ∧ Drawn0 w w')
  case atStart => exact ⟨(0), qT, H', ⟨Nat.le_refl _⟩, qD⟩
  case round =>
   clear H'
   try clear c1; try clear p2; try clear c3; try clear c3b0 c3b1 c3b2
   obtain ⟨x5_1, rfl, HA, HK1, ⟨m1, rfl⟩⟩ := hrel
   cases gk with
   | zero => exact absurd HA.out (by simp [cubbyref10_Ints.l0])
   | succ k1 =>
    have H := HA.out
    clear HA
    simp only [cubbyref10_Ints.l0] at H
    by_cases c4 : x5_1 < (l0.length : Int)
    ·rw [if_pos c4] at H
     have c4b0 := decide_eq_true c4
     clear c4
     by_cases c5 : 0 ≤ x5_1
     ·rw [if_pos c5] at H
      have c5b0 := decide_eq_true c5
      clear c5
      by_cases c6 : x5_1 < (l1.length : Int)
      ·rw [if_pos c6] at H
       have c6b0 := decide_eq_true c6
       clear c6
       by_cases c7 : (rd l0 x5_1) = (rd l1 x5_1)
       ·rw [if_pos c7] at H
        obtain ⟨c7b0, c7b1⟩ := qe c7; clear c7
        have H' := Aside0.mk H
        clear H
        have p267 : 0 ≤ (x5_1 : Int) := of_decide_eq_true qA
        have q267 : x5_1 < (l0.length : Int) := of_decide_eq_true qA
        obtain ⟨ad267, e267, hx267_0⟩ := Kd.at_int HR0.out x5_1 p267 q267
        cases e267
        replace p267 := eq_true p267
        replace q267 := eq_true q267
        have p268 : 0 ≤ (x5_1 : Int) := of_decide_eq_true qA
        have q268 : x5_1 < (l1.length : Int) := of_decide_eq_true qA
        obtain ⟨ad268, e268, hx268_0⟩ := Kd.at_int HR1.out x5_1 p268 q268
        cases e268
        replace p268 := eq_true p268
        replace q268 := eq_true q268
        go_wp2
        repeat (go_quiet (fail); try go_wp2)
        go_roundg k1
        case measure => have := HK1.out; omega
        case rel => exact ⟨(wrap64 (x5_1 + 1)), qT, H', ⟨by have := HK1.out; omega⟩, qD⟩
       ·rw [if_neg c7] at H
        obtain ⟨c7b0, c7b1⟩ := qn c7
        obtain rfl := Option.some.inj H
        have p267 : 0 ≤ (x5_1 : Int) := of_decide_eq_true qA
        have q267 : x5_1 < (l0.length : Int) := of_decide_eq_true qA
        obtain ⟨ad267, e267, hx267_0⟩ := Kd.at_int HR0.out x5_1 p267 q267
        cases e267
        replace p267 := eq_true p267
        replace q267 := eq_true q267
        have p268 : 0 ≤ (x5_1 : Int) := of_decide_eq_true qA
        have q268 : x5_1 < (l1.length : Int) := of_decide_eq_true qA
        obtain ⟨ad268, e268, hx268_0⟩ := Kd.at_int HR1.out x5_1 p268 q268
        cases e268
        replace p268 := eq_true p268
        replace q268 := eq_true q268
        go_wp2
        repeat (go_quiet (fail); try go_wp2)
        go_ret
        exact ⟨by first | rfl | (simp; done) | (simp [*]; done), qD⟩
      ·rw [if_neg c6] at H
       exact absurd H (by simp)
     ·rw [if_neg c5] at H
      exact absurd H (by simp)
    ·rw [if_neg c4] at H
     have c4b0 := decide_eq_false c4
     clear c4
     obtain rfl := Option.some.inj H
     go_wp2
     repeat (go_quiet (fail); try go_wp2)
     go_ret
     exact ⟨by first | rfl | (simp; done) | (simp [*]; done), qD⟩
 ·rw [if_neg c3] at H
  obtain ⟨c3b0, c3b1⟩ := qn c3
  have c3b2 : (l0.length == l1.length) = false := by first | simpa using c3 | (simp at c3 ⊢; omega)
  obtain rfl := Option.some.inj H
  go_enter Tryd.func35, Tryd.ntmps35
  go_wp2
  repeat (go_quiet (fail); try go_wp2)
  go_ret
  exact ⟨by first | rfl | (simp; done) | (simp [*]; done), qD⟩

end Go.Proofs.YtebnnknijbgekaaDoor.Q
namespace Go.Proofs.YtebnnknijbgekaaDoor.Q
open Go.RowKit Go.Proofs.YtebnnknijbgekaaDoorW.PrintWords Go.Proofs.YtebnnknijbgekaaDoorW.PrintLast Go.Proofs.YtebnnknijbgekaaDoorW.PrintMore
attribute [local go_sem] max2_int min2_int max_two min_two max_three min_three max_four min_four   -- for this text's walks alone
set_option linter.unusedVariables false
set_option linter.unusedSimpArgs false

/-! ### cubbylaw11_same: function 21 -/
def cubbylaw11_same.f (k : Nat) (l0 : List Int) (l1 : List Int) : Option (Bool) := (cubbyref10_Ints.f k l0 l1).bind fun t269 => (some t269)
theorem cubbylaw11_same.mono : ∀ a0 a1 k, LeO (cubbylaw11_same.f k a0 a1) (cubbylaw11_same.f (k + 1) a0 a1) := by
 intro a0 a1 k
 unfold cubbylaw11_same.f
 repeat' first | (with_reducible exact cubbyref10_Ints.mono _ _ _) | (with_reducible exact LeO.refl _) | (with_reducible exact LeO.none _) | (with_reducible refine LeO.ite ?_ ?_) | (with_reducible refine LeO.bind ?_ (fun _ => ?_)) | exact LeO.none _ | refine LeO.ite ?_ ?_ | refine LeO.bind ?_ (fun _ => ?_)
set_option maxHeartbeats 8000000 in
set_option maxRecDepth 100000 in
theorem cubbylaw11_same.calls (k : Nat) (A0 : Option Addr) (c0 : Nat) (l0 : List Int) (A1 : Option Addr) (c1 : Nat) (l1 : List Int) (r : Bool) (w : World) (hr0 : Kd.C (Kd.int .i64) w A0 l0.length l0) (hc0 : l0.length ≤ c0) (hr1 : Kd.C (Kd.int .i64) w A1 l1.length l1) (hc1 : l1.length ≤ c1) (h : cubbylaw11_same.f k l0 l1 = some r) :
  Calls Tryd.prog 21 #[.slice A0 l0.length c0, .slice A1 l1.length c1] w fun e w' => e = .returned (.bool r) ∧ Drawn0 w w' := by
 have HR0 := Aside0.mk hr0
 have HC0 := Aside0.mk hc0
 clear hr0 hc0
 have HR1 := Aside0.mk hr1
 have HC1 := Aside0.mk hc1
 clear hr1 hc1
 have H := h; clear h; unfold cubbylaw11_same.f at H
 replace H := qb H; obtain ⟨t269, A3, H⟩ := H
 obtain rfl := Option.some.inj H
 go_enter Tryd.func21, Tryd.ntmps21
 go_wp2_with (first | ((with_reducible refine gate_callee (f := 35) rfl ?_); refine goesL_ (some 7) rfl rfl Tryd.func35 (by kernel_rfl) rfl #[.slice A0 l0.length c0, .slice A1 l1.length c1] rfl qL ?_; (with_reducible refine (cubbyref10_Ints.calls k _ _ l0 _ _ l1 t269 _ ?side1 ?side2 ?side3 ?side4 A3.out).mono ?_); (case side1 => repeat (first | exact HR0.out | (with_reducible refine Kd.C_alloc ?_ _) | (with_reducible refine Kd.C_drewN ?_ _) | (with_reducible refine Kd.C_drew ?_))); (case side2 => exact HC0.out); (case side3 => repeat (first | exact HR1.out | (with_reducible refine Kd.C_alloc ?_ _) | (with_reducible refine Kd.C_drewN ?_ _) | (with_reducible refine Kd.C_drew ?_))); (case side4 => exact HC1.out); rintro e w' ⟨rfl, ⟨nd, rfl⟩⟩; refine ⟨_, rfl, ?_⟩))
 go_ret
 exact ⟨by first | rfl | (simp; done) | (simp [*]; done), qD⟩

end Go.Proofs.YtebnnknijbgekaaDoor.Q
namespace Go.Proofs.YtebnnknijbgekaaDoor.Q
open Go.RowKit Go.Proofs.YtebnnknijbgekaaDoorW.PrintWords Go.Proofs.YtebnnknijbgekaaDoorW.PrintLast Go.Proofs.YtebnnknijbgekaaDoorW.PrintMore
attribute [local go_sem] max2_int min2_int max_two min_two max_three min_three max_four min_four   -- for this text's walks alone
set_option linter.unusedVariables false
set_option linter.unusedSimpArgs false

/-! ### cubbyref09_has: function 98 -/
def cubbyref09_has.l0 : Nat → List Int → Int → Int → Option (Bool)
 | 0, _, _, _ => none
 | k + 1, x0, x1, x5 => if x5 < (x0.length : Int) then (if 0 ≤ x5 then (if (rd x0 x5) = x1 then (some true) else (cubbyref09_has.l0 k x0 x1 (wrap64 (x5 + 1)))) else (none)) else (some false)
def cubbyref09_has.f (k : Nat) (l0 : List Int) (a1 : Int) : Option (Bool) := cubbyref09_has.l0 k l0 a1 0
theorem cubbyref09_has.mono_l : ∀ k, (∀ y0 y1 y2, LeO (cubbyref09_has.l0 k y0 y1 y2) (cubbyref09_has.l0 (k + 1) y0 y1 y2))
 | 0 => fun _ _ _ r h => by simp [cubbyref09_has.l0] at h
 | k + 1 => by
  have ih0 := cubbyref09_has.mono_l k
  ·intro y0 y1 y2
   unfold cubbyref09_has.l0
   repeat' first | (with_reducible exact ih0 _ _ _) | (with_reducible exact LeO.refl _) | (with_reducible exact LeO.none _) | (with_reducible refine LeO.ite ?_ ?_) | (with_reducible refine LeO.bind ?_ (fun _ => ?_)) | exact LeO.none _ | refine LeO.ite ?_ ?_ | refine LeO.bind ?_ (fun _ => ?_)
theorem cubbyref09_has.mono : ∀ a0 a1 k, LeO (cubbyref09_has.f k a0 a1) (cubbyref09_has.f (k + 1) a0 a1) := by
 intro a0 a1 k
 have ih0 := cubbyref09_has.mono_l k
 unfold cubbyref09_has.f
 repeat' first | (with_reducible exact ih0 _ _ _) | (with_reducible exact LeO.refl _) | (with_reducible exact LeO.none _) | (with_reducible refine LeO.ite ?_ ?_) | (with_reducible refine LeO.bind ?_ (fun _ => ?_)) | exact LeO.none _ | refine LeO.ite ?_ ?_ | refine LeO.bind ?_ (fun _ => ?_)
set_option maxHeartbeats 8000000 in
set_option maxRecDepth 100000 in
theorem cubbyref09_has.calls (k : Nat) (A0 : Option Addr) (c0 : Nat) (l0 : List Int) (a1 : Int) (r : Bool) (w : World) (hr0 : Kd.C (Kd.int .i64) w A0 l0.length l0) (hc0 : l0.length ≤ c0) (h : cubbyref09_has.f k l0 a1 = some r) :
  Calls Tryd.prog 98 #[.slice A0 l0.length c0, .int .i64 a1] w fun e w' => e = .returned (.bool r) ∧ Drawn0 w w' := by
 have HR0 := Aside0.mk hr0
 have HC0 := Aside0.mk hc0
 clear hr0 hc0
 have H := h; clear h; unfold cubbyref09_has.f at H
 have H' := Aside0.mk H
 clear H
 go_enter Tryd.func98, Tryd.ntmps98
 go_wp2
 go_loopg [5] k (fun kq v5 w' => ∃ (x5_1 : Int), v5 = .int .i64 x5_1 ∧ Aside0 (cubbyref09_has.l0 kq l0 a1 x5_1 = some r) ∧ Aside0 (kq ≤ k) ∧ Drawn0 w w')
 case atStart => exact ⟨(0), qT, H', ⟨Nat.le_refl _⟩, qD⟩
 case round =>
  clear H'
  try clear p2
  obtain ⟨x5_1, rfl, HA, HK1, ⟨m1, rfl⟩⟩ := hrel
  cases gk with
  | zero => exact absurd HA.out (by simp [cubbyref09_has.l0])
  | succ k1 =>
   have H := HA.out
   clear HA
   simp only [cubbyref09_has.l0] at H
   by_cases c3 : x5_1 < (l0.length : Int)
   ·rw [if_pos c3] at H
    have c3b0 := decide_eq_true c3
    clear c3
    by_cases c4 : 0 ≤ x5_1
    ·rw [if_pos c4] at H
     have c4b0 := decide_eq_true c4
     clear c4
     by_cases c5 : (rd l0 x5_1) = a1
     ·rw [if_pos c5] at H
      obtain ⟨c5b0, c5b1⟩ := qe c5; clear c5
      obtain rfl := Option.some.inj H
      have p284 : 0 ≤ (x5_1 : Int) := of_decide_eq_true qA
      have q284 : x5_1 < (l0.length : Int) := of_decide_eq_true qA
      obtain ⟨ad284, e284, hx284_0⟩ := Kd.at_int HR0.out x5_1 p284 q284
      cases e284
      replace p284 := eq_true p284
      replace q284 := eq_true q284
      go_wp2
      go_ret
      exact ⟨by first | rfl | (simp; done) | (simp [*]; done), qD⟩
     ·rw [if_neg c5] at H
      obtain ⟨c5b0, c5b1⟩ := qn c5
      have H' := Aside0.mk H
      clear H
      have p284 : 0 ≤ (x5_1 : Int) := of_decide_eq_true qA
      have q284 : x5_1 < (l0.length : Int) := of_decide_eq_true qA
      obtain ⟨ad284, e284, hx284_0⟩ := Kd.at_int HR0.out x5_1 p284 q284
      cases e284
      replace p284 := eq_true p284
      replace q284 := eq_true q284
      go_wp2
      go_roundg k1
      case measure => have := HK1.out; omega
      case rel => exact ⟨(wrap64 (x5_1 + 1)), qT, H', ⟨by have := HK1.out; omega⟩, qD⟩
    ·rw [if_neg c4] at H
     exact absurd H (by simp)
   ·rw [if_neg c3] at H
    have c3b0 := decide_eq_false c3
    clear c3
    obtain rfl := Option.some.inj H
    go_wp2
    go_ret
    exact ⟨by first | rfl | (simp; done) | (simp [*]; done), qD⟩

end Go.Proofs.YtebnnknijbgekaaDoor.Q
namespace Go.Proofs.YtebnnknijbgekaaDoor.Q
open Go.RowKit Go.Proofs.YtebnnknijbgekaaDoorW.PrintWords Go.Proofs.YtebnnknijbgekaaDoorW.PrintLast Go.Proofs.YtebnnknijbgekaaDoorW.PrintMore
attribute [local go_sem] max2_int min2_int max_two min_two max_three min_three max_four min_four   -- for this text's walks alone
set_option linter.unusedVariables false
set_option linter.unusedSimpArgs false

/-! ### cubbyref09_Succs: function 96 -/
mutual
def cubbyref09_Succs.j0 : Nat → List (List (SIns)) → Int → List Int → Bool → Option (List Int)
 | 0, _, _, _, _ => none
 | k + 1, x0, x1, x5, x24 => if x24 = true then (some x5) else (if 0 ≤ x1 then (if x1 < (x0.length : Int) then (if 0 ≤ (wrap64 (((rd_LIns x0 x1).length : Int) - 1)) then (if (wrap64 (((rd_LIns x0 x1).length : Int) - 1)) < ((rd_LIns x0 x1).length : Int) then ((cubbyref07_Targets.f ((rd_TIns (rd_LIns x0 x1) (wrap64 (((rd_LIns x0 x1).length : Int) - 1))).f0) ((rd_TIns (rd_LIns x0 x1) (wrap64 (((rd_LIns x0 x1).length : Int) - 1))).f1) ((rd_TIns (rd_LIns x0 x1) (wrap64 (((rd_LIns x0 x1).length : Int) - 1))).f2) ((rd_TIns (rd_LIns x0 x1) (wrap64 (((rd_LIns x0 x1).length : Int) - 1))).f3) ((rd_TIns (rd_LIns x0 x1) (wrap64 (((rd_LIns x0 x1).length : Int) - 1))).f4) ((rd_TIns (rd_LIns x0 x1) (wrap64 (((rd_LIns x0 x1).length : Int) - 1))).f5)).bind fun t292 => (cubbyref09_Succs.l0 k x0 x5 t292 0)) else (none)) else (none)) else (none)) else (none))
def cubbyref09_Succs.l0 : Nat → List (List (SIns)) → List Int → List Int → Int → Option (List Int)
 | 0, _, _, _, _ => none
 | k + 1, x0, x5, x6, x7 => if x7 < (x6.length : Int) then (if 0 ≤ x7 then (if (rd x6 x7) ≥ 0 then (if (rd x6 x7) < (x0.length : Int) then ((cubbyref09_has.f k x5 (rd x6 x7)).bind fun t298 => (if t298 = true then (cubbyref09_Succs.l0 k x0 x5 x6 (wrap64 (x7 + 1))) else (if x5.length < 17592186044416 then (cubbyref09_Succs.l0 k x0 (x5 ++ [rd x6 x7]) x6 (wrap64 (x7 + 1))) else (none)))) else (cubbyref09_Succs.l0 k x0 x5 x6 (wrap64 (x7 + 1)))) else (cubbyref09_Succs.l0 k x0 x5 x6 (wrap64 (x7 + 1)))) else (none)) else (some x5)
end
def cubbyref09_Succs.f (k : Nat) (l0 : List (List (SIns))) (a1 : Int) : Option (List Int) := (some (([] : List Int) : List Int)).bind fun y285 => (if a1 < 0 then (cubbyref09_Succs.j0 k l0 a1 y285 true) else (if a1 ≥ (l0.length : Int) then (cubbyref09_Succs.j0 k l0 a1 y285 true) else (if 0 ≤ a1 then (if a1 < (l0.length : Int) then (cubbyref09_Succs.j0 k l0 a1 y285 (((rd_LIns l0 a1).length : Int) == 0)) else (none)) else (none))))
theorem cubbyref09_Succs.mono_l : ∀ k, (∀ y0 y1 y2 y3, LeO (cubbyref09_Succs.j0 k y0 y1 y2 y3) (cubbyref09_Succs.j0 (k + 1) y0 y1 y2 y3)) ∧ (∀ y0 y1 y2 y3, LeO (cubbyref09_Succs.l0 k y0 y1 y2 y3) (cubbyref09_Succs.l0 (k + 1) y0 y1 y2 y3))
 | 0 => ⟨fun _ _ _ _ r h => by simp [cubbyref09_Succs.j0] at h, fun _ _ _ _ r h => by simp [cubbyref09_Succs.l0] at h⟩
 | k + 1 => by
  obtain ⟨ih0, ih1⟩ := cubbyref09_Succs.mono_l k
  refine ⟨?_, ?_⟩ <;> intros <;> (first | unfold cubbyref09_Succs.j0 | unfold cubbyref09_Succs.l0) <;> repeat' first | (with_reducible exact ih0 _ _ _ _) | (with_reducible exact ih1 _ _ _ _) | (with_reducible exact cubbyref09_has.mono _ _ _) | (with_reducible exact LeO.refl _) | (with_reducible exact LeO.none _) | (with_reducible refine LeO.ite ?_ ?_) | (with_reducible refine LeO.bind ?_ (fun _ => ?_)) | exact LeO.none _ | refine LeO.ite ?_ ?_ | refine LeO.bind ?_ (fun _ => ?_)
theorem cubbyref09_Succs.mono : ∀ a0 a1 k, LeO (cubbyref09_Succs.f k a0 a1) (cubbyref09_Succs.f (k + 1) a0 a1) := by
 intro a0 a1 k
 obtain ⟨ih0, ih1⟩ := cubbyref09_Succs.mono_l k
 unfold cubbyref09_Succs.f
 repeat' first | (with_reducible exact ih0 _ _ _ _) | (with_reducible exact ih1 _ _ _ _) | (with_reducible exact cubbyref09_has.mono _ _ _) | (with_reducible exact LeO.refl _) | (with_reducible exact LeO.none _) | (with_reducible refine LeO.ite ?_ ?_) | (with_reducible refine LeO.bind ?_ (fun _ => ?_)) | exact LeO.none _ | refine LeO.ite ?_ ?_ | refine LeO.bind ?_ (fun _ => ?_)
def cubbyref09_Succs.T4 : Bool × List (List Nat × List Nat) := (true, [([], []), ([], []), ([0, 1], [0, 1]), ([2], [2]), ([], []), ([], []), ([4, 5], [4, 5]), ([6], [6]), ([7], [7]), ([8], [8]), ([3, 9], [3, 9]), ([10], [10]), ([11], [11]), ([12, 12, 0, 1, 2, 3, 4, 5, 6, 7, 8, 9, 10, 11, 12], [12])])
def cubbyref09_Succs.B4 : List Nat := [0, 0, 3, 7, 0, 0, 48, 112, 240, 496, 1023, 2047, 4095, 8191]
theorem cubbyref09_Succs.tab4 : rtab .any (opsOf Tryd.f96 4) = cubbyref09_Succs.T4 := by kernel_rfl
theorem cubbyref09_Succs.bits4 : waitsOk cubbyref09_Succs.T4.2 cubbyref09_Succs.B4 = true := by kernel_rfl
set_option maxHeartbeats 8000000 in
set_option maxRecDepth 100000 in
theorem cubbyref09_Succs.calls (k : Nat) (A0 : Option Addr) (c0 : Nat) (l0 : List (List (SIns))) (a1 : Int) (r : List Int) (w : World) (hr0 : Kd.C (Kd.slice 31 kIns) w A0 l0.length l0) (hc0 : l0.length ≤ c0) (h : cubbyref09_Succs.f k l0 a1 = some r) :
  Calls Tryd.prog 96 #[.slice A0 l0.length c0, .int .i64 a1] w fun e w' => ∃ v0_ : Value, e = .returned (v0_) ∧ Kd.R (Kd.int .i64) 3 w' w.heap.size (fun _ => True) v0_ r ∧ Below w.heap.size w w' := by
 have hu31 := Tryd.underlying31
 have HR0 := Aside0.mk hr0
 have HC0 := Aside0.mk hc0
 clear hr0 hc0
 have HB := Aside0.mk (Below.refl w.heap.size w)
 have H := h; clear h; unfold cubbyref09_Succs.f at H
 obtain ⟨y285, hy285⟩ : ∃ y_ : List Int, y_ = (([] : List Int)) := ⟨_, rfl⟩
 replace H : (if a1 < 0 then (cubbyref09_Succs.j0 k l0 a1 y285 true) else (if a1 ≥ (l0.length : Int) then (cubbyref09_Succs.j0 k l0 a1 y285 true) else (if 0 ≤ a1 then (if a1 < (l0.length : Int) then (cubbyref09_Succs.j0 k l0 a1 y285 (((rd_LIns l0 a1).length : Int) == 0)) else (none)) else (none)))) = some r := by first | (rw [hy285]; with_reducible exact H) | (have H2_ := (Option.bind_some _ _).symm.trans H; rw [hy285]; with_reducible exact H2_) | (have H2_ := (Option.bind_some _ _).symm.trans H; with_reducible exact H2_) | with_reducible exact H | (rw [hy285]; exact H) | exact H
 have Ny285 := Aside0.mk hy285
 clear hy285
 have HC3 := Aside0.mk H
 clear H
 go_enter Tryd.func96, Tryd.ntmps96
 go_upto_region 2 with (first | ((with_reducible refine gate_dst (N := 8) rfl ?_); (try (refine gate_guard (by rfl) ?_; dsimp only)); refine Kd.R_lit (Kd.int .i64) _ 3 (by rfl) (N := 8) (by rfl) (xs := ([] : List Int)) (inner := []) (ok := fun _ => True) (okp := fun _ => True) ?hr ?hp (fun _ hk => hk) trivial (Below.refl _ _) (Nat.le_refl _) (by simp) ?_; (case hr => first | (go_simp; done) | (go_simp; rfl)); (case hp => exact (Reps.none _ _)); intro v286 w4 ho5 hb hg_ hnew_; clear hg_ hnew_; (first | rw [← Ny285.out] at ho5 | (simp only [Int.reduceToNat] at ho5; rw [← Ny285.out] at ho5)); have HO287 := Aside0.mk (Kd.R_lower ho5 (below_size qB)); replace HB := qH hb; clear hb ho5))
 (try simp only [Act.put, List.setIfInBounds_toArray, List.set_cons_zero, List.set_cons_succ])
 go_cut [24] (fun v24 wc => ∃ (kq : Nat) (x24_2 : Bool), v24 = .bool x24_2 ∧ Aside0 (cubbyref09_Succs.j0 kq l0 a1 y285 x24_2 = some r) ∧ Aside0 (kq ≤ k) ∧ Aside0 (Kd.R (Kd.int .i64) 3 wc w.heap.size (fun _ => True) v286 y285) ∧ Aside0 (Below w.heap.size w wc))
 case first =>
  have H := HC3.out
  clear HC3
  by_cases c6 : a1 < 0
  ·rw [if_pos c6] at H
   have c6b0 := decide_eq_true c6
   clear c6
   (first | rw [c6b0] | (simp only [i64_w, i32_w]; rw [c6b0]) | skip)
   have H' := Aside0.mk H
   clear H
   go_wp2
   go_meet
   case rel => exact ⟨_, (true), qT, H', ⟨qO⟩, ⟨qR HO287.out⟩, ⟨qB⟩⟩
  ·rw [if_neg c6] at H
   have c6b0 := decide_eq_false c6
   clear c6
   (first | rw [c6b0] | (simp only [i64_w, i32_w]; rw [c6b0]) | skip)
   by_cases c7 : a1 ≥ (l0.length : Int)
   ·rw [if_pos c7] at H
    have c7b0 : decide ((l0.length : Int) ≤ a1) = true := decide_eq_true c7
    clear c7
    have H' := Aside0.mk H
    clear H
    go_wp2
    go_meet
    case rel => exact ⟨_, (true), qT, H', ⟨qO⟩, ⟨qR HO287.out⟩, ⟨qB⟩⟩
   ·rw [if_neg c7] at H
    have c7b0 : decide ((l0.length : Int) ≤ a1) = false := decide_eq_false c7
    clear c7
    by_cases c8 : 0 ≤ a1
    ·rw [if_pos c8] at H
     have c8b0 := decide_eq_true c8
     clear c8
     by_cases c9 : a1 < (l0.length : Int)
     ·rw [if_pos c9] at H
      have c9b0 := decide_eq_true c9
      clear c9
      have H' := Aside0.mk H
      clear H
      have p288 : 0 ≤ (a1 : Int) := of_decide_eq_true qA
      have q288 : a1 < (l0.length : Int) := of_decide_eq_true qA
      obtain ⟨ad288, A288_0, c288_0, e288, hx288_0, hl288_0, hi288_0⟩ := at_LIns HR0.out a1 p288 q288
      cases e288
      replace hx288_0 := (HB.out.cell (World.block_lt_of_cell? w _ hx288_0)).trans hx288_0
      have HR288_0 := Aside0.mk hi288_0
      have HC288_0 := Aside0.mk hl288_0
      clear hi288_0 hl288_0
      replace p288 := eq_true p288
      replace q288 := eq_true q288
      go_wp2
      go_meet
      case rel => exact ⟨_, ((((rd_LIns l0 a1).length : Int) == 0)), qT, H', ⟨qO⟩, ⟨qR HO287.out⟩, ⟨qB⟩⟩
     ·rw [if_neg c9] at H
      exact absurd H (by simp)
    ·rw [if_neg c8] at H
     exact absurd H (by simp)
 case rest =>
  clear HC3
  try clear c2; try clear p2; try clear q2; try clear hx2; try clear c6; try clear c6b0; try clear c7; try clear c7b0; try clear c8; try clear c8b0; try clear c9; try clear c9b0; try clear hx288_0; try clear p288; try clear q288
  obtain ⟨kq, x24_2, rfl, HA, HJ2, HO_5, HB⟩ := hcut
  cases kq with
  | zero => exact absurd HA.out (by simp [cubbyref09_Succs.j0])
  | succ kj2 =>
   have H := HA.out
   clear HA
   simp only [cubbyref09_Succs.j0] at H
   by_cases c10 : x24_2 = true
   ·subst c10
    have H1 : (some y285) = some r := by rw [if_pos rfl] at H; exact H
    clear H
    have H := H1
    clear H1
    obtain rfl := Option.some.inj H
    go_wp2
    go_ret
    exact ⟨_, qE, qR HO_5.out, qB⟩
   ·replace c10 := Bool.eq_false_iff.mpr c10
    subst c10
    have H1 : (if 0 ≤ a1 then (if a1 < (l0.length : Int) then (if 0 ≤ (wrap64 (((rd_LIns l0 a1).length : Int) - 1)) then (if (wrap64 (((rd_LIns l0 a1).length : Int) - 1)) < ((rd_LIns l0 a1).length : Int) then ((cubbyref07_Targets.f ((rd_TIns (rd_LIns l0 a1) (wrap64 (((rd_LIns l0 a1).length : Int) - 1))).f0) ((rd_TIns (rd_LIns l0 a1) (wrap64 (((rd_LIns l0 a1).length : Int) - 1))).f1) ((rd_TIns (rd_LIns l0 a1) (wrap64 (((rd_LIns l0 a1).length : Int) - 1))).f2) ((rd_TIns (rd_LIns l0 a1) (wrap64 (((rd_LIns l0 a1).length : Int) - 1))).f3) ((rd_TIns (rd_LIns l0 a1) (wrap64 (((rd_LIns l0 a1).length : Int) - 1))).f4) ((rd_TIns (rd_LIns l0 a1) (wrap64 (((rd_LIns l0 a1).length : Int) - 1))).f5)).bind fun t292 => (cubbyref09_Succs.l0 kj2 l0 y285 t292 0)) else (none)) else (none)) else (none)) else (none)) = some r := by rw [if_neg (show ¬ (false = true) by decide)] at H; exact H
    clear H
    have H := H1
    clear H1
    by_cases c11 : 0 ≤ a1
    ·rw [if_pos c11] at H
     have c11b0 := decide_eq_true c11
     clear c11
     by_cases c12 : a1 < (l0.length : Int)
     ·rw [if_pos c12] at H
      have c12b0 := decide_eq_true c12
      clear c12
      obtain ⟨ji13, hji13⟩ : ∃ j_ : Int, (wrap64 (((rd_LIns l0 a1).length : Int) - 1)) = j_ := ⟨_, rfl⟩
      replace H : (if 0 ≤ (ji13) then (if (ji13) < ((rd_LIns l0 a1).length : Int) then ((cubbyref07_Targets.f ((rd_TIns (rd_LIns l0 a1) (ji13)).f0) ((rd_TIns (rd_LIns l0 a1) (ji13)).f1) ((rd_TIns (rd_LIns l0 a1) (ji13)).f2) ((rd_TIns (rd_LIns l0 a1) (ji13)).f3) ((rd_TIns (rd_LIns l0 a1) (ji13)).f4) ((rd_TIns (rd_LIns l0 a1) (ji13)).f5)).bind fun t292 => (cubbyref09_Succs.l0 kj2 l0 y285 t292 0)) else (none)) else (none)) = some r := by first | (rw [hji13] at H; exact H) | (simp only [hji13] at H ⊢; exact H)
      have hji13w : (IntKind.i64.wrap (((rd_LIns l0 a1).length : Int) - 1)) = ji13 := (i64_w _).trans hji13
      by_cases c14 : 0 ≤ (ji13)
      ·rw [if_pos c14] at H
       have c14b0 := decide_eq_true c14
       clear c14
       by_cases c15 : (ji13) < ((rd_LIns l0 a1).length : Int)
       ·rw [if_pos c15] at H
        have c15b0 := decide_eq_true c15
        clear c15
        replace H := qb H; obtain ⟨t292, A16, H⟩ := H
        have H' := Aside0.mk H
        clear H
        try go_wp2
        have n0_ := Aside0.mk (Kd.R_drew HO_5.out)
        have n1_ := Aside0.mk (below_drew1 HB.out)
        clear HO_5
        clear HB
        have HO_5 := n0_
        have HB := n1_
        clear n0_ n1_
        have p289 : 0 ≤ (a1 : Int) := of_decide_eq_true qA
        have q289 : a1 < (l0.length : Int) := of_decide_eq_true qA
        obtain ⟨ad289, A289_0, c289_0, e289, hx289_0, hl289_0, hi289_0⟩ := at_LIns HR0.out a1 p289 q289
        have hw289_0 := hx289_0
        cases e289
        replace hx289_0 := (HB.out.cell (World.block_lt_of_cell? w _ hx289_0)).trans hx289_0
        have HR289_0 := Aside0.mk hi289_0
        have HC289_0 := Aside0.mk hl289_0
        clear hi289_0 hl289_0
        replace p289 := eq_true p289
        replace q289 := eq_true q289
        have p290 : 0 ≤ (a1 : Int) := of_decide_eq_true qA
        have q290 : a1 < (l0.length : Int) := of_decide_eq_true qA
        obtain ⟨ad290, A290_0, c290_0, e290, hx290_0, hl290_0, hi290_0⟩ := at_LIns HR0.out a1 p290 q290
        have hw290_0 := hx290_0
        obtain rfl : ad289 = ad290 := (by injection e290)
        replace hx290_0 := (HB.out.cell (World.block_lt_of_cell? w _ hx290_0)).trans hx290_0
        have HR290_0 := Aside0.mk hi290_0
        have HC290_0 := Aside0.mk hl290_0
        clear hi290_0 hl290_0
        replace p290 := eq_true p290
        replace q290 := eq_true q290
        have ea_ := Option.some.inj (hx289_0.symm.trans hx290_0)
        injection ea_ with ea_ en_ ec_
        subst ea_
        subst ec_
        clear en_
        have p291 : 0 ≤ ((ji13) : Int) := of_decide_eq_true qA
        have q291 : (ji13) < ((rd_LIns l0 a1).length : Int) := of_decide_eq_true qA
        obtain ⟨ad291, A291_5, c291_5, e291, hx291_0, hx291_1, hx291_2, hx291_3, hx291_4, hx291_5, hl291_5, hi291_5⟩ := at_TIns HR289_0.out (ji13) p291 q291
        have hw291_5 := hx291_5
        have hw291_4 := hx291_4
        have hw291_3 := hx291_3
        have hw291_2 := hx291_2
        have hw291_1 := hx291_1
        have hw291_0 := hx291_0
        cases e291
        replace hx291_0 := (HB.out.cell (World.block_lt_of_cell? w _ hx291_0)).trans hx291_0
        replace hx291_1 := (HB.out.cell (World.block_lt_of_cell? w _ hx291_1)).trans hx291_1
        replace hx291_2 := (HB.out.cell (World.block_lt_of_cell? w _ hx291_2)).trans hx291_2
        replace hx291_3 := (HB.out.cell (World.block_lt_of_cell? w _ hx291_3)).trans hx291_3
        replace hx291_4 := (HB.out.cell (World.block_lt_of_cell? w _ hx291_4)).trans hx291_4
        replace hx291_5 := (HB.out.cell (World.block_lt_of_cell? w _ hx291_5)).trans hx291_5
        have HR291_5 := Aside0.mk hi291_5
        have HC291_5 := Aside0.mk hl291_5
        clear hi291_5 hl291_5
        replace p291 := eq_true p291
        replace q291 := eq_true q291
        refine start_ (n := 14) (S := fun w' => w'.cell? (ad289.add (a1).toNat) = some (.slice (some ad291) (rd_LIns l0 a1).length c289_0) ∧ w'.cell? (ad289.add (a1).toNat) = some (.slice (some ad291) (rd_LIns l0 a1).length c289_0) ∧ w'.cell? (ad291.add (((ji13)).toNat * 6)) = some (.int .i64 ((rd_TIns (rd_LIns l0 a1) (ji13)).f0)) ∧ w'.cell? ⟨(ad291.add (((ji13)).toNat * 6)).block, (ad291.add (((ji13)).toNat * 6)).off + 1, none⟩ = some (.int .i64 ((rd_TIns (rd_LIns l0 a1) (ji13)).f1)) ∧ w'.cell? ⟨(ad291.add (((ji13)).toNat * 6)).block, (ad291.add (((ji13)).toNat * 6)).off + 2, none⟩ = some (.int .i64 ((rd_TIns (rd_LIns l0 a1) (ji13)).f2)) ∧ w'.cell? ⟨(ad291.add (((ji13)).toNat * 6)).block, (ad291.add (((ji13)).toNat * 6)).off + 3, none⟩ = some (.int .i64 ((rd_TIns (rd_LIns l0 a1) (ji13)).f3)) ∧ w'.cell? ⟨(ad291.add (((ji13)).toNat * 6)).block, (ad291.add (((ji13)).toNat * 6)).off + 4, none⟩ = some (.string ((rd_TIns (rd_LIns l0 a1) (ji13)).f4)) ∧ w'.cell? ⟨(ad291.add (((ji13)).toNat * 6)).block, (ad291.add (((ji13)).toNat * 6)).off + 5, none⟩ = some (.slice A291_5 ((rd_TIns (rd_LIns l0 a1) (ji13)).f5).length c291_5)) (ds := []) #[false, false, false, false, false, false, false, false, false, false, false, false, false, false] (by kernel_rfl) rfl rfl ⟨((HB.out.cell (World.block_lt_of_cell? w _ hw289_0)).trans hw289_0), ((HB.out.cell (World.block_lt_of_cell? w _ hw290_0)).trans hw290_0), ((HB.out.cell (World.block_lt_of_cell? w _ hw291_0)).trans hw291_0), ((HB.out.cell (World.block_lt_of_cell? w _ hw291_1)).trans hw291_1), ((HB.out.cell (World.block_lt_of_cell? w _ hw291_2)).trans hw291_2), ((HB.out.cell (World.block_lt_of_cell? w _ hw291_3)).trans hw291_3), ((HB.out.cell (World.block_lt_of_cell? w _ hw291_4)).trans hw291_4), ((HB.out.cell (World.block_lt_of_cell? w _ hw291_5)).trans hw291_5)⟩ (fun hHeld => ?_); refine with_tabW cubbyref09_Succs.tab4 cubbyref09_Succs.bits4 (fun HT_ HW_ => ?_)
        generalize wc.drew = w17 at HO_5 HB HR289_0 HR290_0 HR291_5 hx289_0 hx290_0 hx291_0 hx291_1 hx291_2 hx291_3 hx291_4 hx291_5 hHeld ⊢
        refine pure_ (i := 0) (N := some 26) (v := ?_) (a' := ?_) #[true, false, false, false, false, false, false, false, false, false, false, false, false, false] rfl rfl (any_of HT_.out (by kernel_rfl)) (fun _ _ _ h => h) (Or.inl ⟨by rfl, ?_⟩) ?_ ?_
        rotate_left
        ·intro w'
         go_simp
         with_reducible rfl
        rotate_left
        ·simp only [Act.put, List.setIfInBounds_toArray, List.set_cons_zero, List.set_cons_succ, i64_w, i32_w]
         rfl
        refine pure_ (i := 1) (N := some 27) (v := ?_) (a' := ?_) #[true, true, false, false, false, false, false, false, false, false, false, false, false, false] rfl rfl (any_of HT_.out (by kernel_rfl)) (fun _ _ _ h => h) (Or.inl ⟨by rfl, ?_⟩) ?_ ?_
        rotate_left
        ·intro w'
         go_simp
         with_reducible rfl
        rotate_left
        ·simp only [Act.put, List.setIfInBounds_toArray, List.set_cons_zero, List.set_cons_succ, i64_w, i32_w]
         rfl
        refine pure_ (i := 2) (N := some 28) (v := ?_) (a' := ?_) #[true, true, true, false, false, false, false, false, false, false, false, false, false, false] rfl rfl (any_of HT_.out (by kernel_rfl)) (fun _ _ _ h => h) (Or.inl ⟨by rfl, ?_⟩) ?_ ?_
        rotate_left
        ·intro w'
         go_simp
         with_reducible rfl
        rotate_left
        ·simp only [Act.put, List.setIfInBounds_toArray, List.set_cons_zero, List.set_cons_succ, i64_w, i32_w]
         rfl
        refine pure_ (i := 4) (N := some 30) (v := ?_) (a' := ?_) #[true, true, true, false, true, false, false, false, false, false, false, false, false, false] rfl rfl (any_of HT_.out (by kernel_rfl)) (fun _ _ _ h => h) (Or.inl ⟨by rfl, ?_⟩) ?_ ?_
        rotate_left
        ·intro w'
         go_simp
         with_reducible rfl
        rotate_left
        ·simp only [Act.put, List.setIfInBounds_toArray, List.set_cons_zero, List.set_cons_succ, i64_w, i32_w]
         rfl
        refine pure_ (i := 5) (N := some 31) (v := ?_) (a' := ?_) #[true, true, true, false, true, true, false, false, false, false, false, false, false, false] rfl rfl (any_of HT_.out (by kernel_rfl)) (fun _ _ _ h => h) (Or.inl ⟨by rfl, ?_⟩) ?_ ?_
        rotate_left
        ·intro w'
         go_simp
         with_reducible rfl
        rotate_left
        ·simp only [Act.put, List.setIfInBounds_toArray, List.set_cons_zero, List.set_cons_succ, i64_w, i32_w]
         rfl
        refine pure_ (i := 6) (N := some 32) (v := ?_) (a' := ?_) #[true, true, true, false, true, true, true, false, false, false, false, false, false, false] rfl rfl (any_of HT_.out (by kernel_rfl)) (fun _ _ _ h => h) (Or.inl ⟨by rfl, ?_⟩) ?_ ?_
        rotate_left
        ·intro w'
         go_simp
         with_reducible rfl
        rotate_left
        ·simp only [Act.put, List.setIfInBounds_toArray, List.set_cons_zero, List.set_cons_succ, i64_w, i32_w]
         rfl
        refine take_ (i := 3) (N := some 29) (v := ?_) (a' := ?_) #[true, true, true, true, true, true, true, false, false, false, false, false, false, false] rfl rfl (take_ofW HT_.out HW_.out (by kernel_rfl)) (fun _ _ _ h => h) (Or.inl ⟨by rfl, ?_⟩) hHeld ?_ ?_
        rotate_left
        ·rintro w' ⟨s0, s1, s2, s3, s4, s5, s6, s7⟩
         go_simp
         with_reducible rfl
        rotate_left
        ·simp only [Act.put, List.setIfInBounds_toArray, List.set_cons_zero, List.set_cons_succ, i64_w, i32_w]
         rfl
        refine take_ (i := 7) (N := some 33) (v := ?_) (a' := ?_) #[true, true, true, true, true, true, true, true, false, false, false, false, false, false] rfl rfl (take_ofW HT_.out HW_.out (by kernel_rfl)) (fun _ _ _ h => h) (Or.inl ⟨by rfl, ?_⟩) hHeld ?_ ?_
        rotate_left
        ·rintro w' ⟨s0, s1, s2, s3, s4, s5, s6, s7⟩
         go_simp
         with_reducible rfl
        rotate_left
        ·simp only [Act.put, List.setIfInBounds_toArray, List.set_cons_zero, List.set_cons_succ, i64_w, i32_w]
         rfl
        refine pure_ (i := 8) (N := some 34) (v := ?_) (a' := ?_) #[true, true, true, true, true, true, true, true, true, false, false, false, false, false] rfl rfl (any_of HT_.out (by kernel_rfl)) (fun _ _ _ h => h) (Or.inl ⟨by rfl, ?_⟩) ?_ ?_
        rotate_left
        ·intro w'
         go_simp
         with_reducible rfl
        rotate_left
        ·simp only [Act.put, List.setIfInBounds_toArray, List.set_cons_zero, List.set_cons_succ, i64_w, i32_w]
         rfl
        refine pure_ (i := 9) (N := some 35) (v := ?_) (a' := ?_) #[true, true, true, true, true, true, true, true, true, true, false, false, false, false] rfl rfl (any_of HT_.out (by kernel_rfl)) (fun _ _ _ h => h) (Or.inl ⟨by rfl, ?_⟩) ?_ ?_
        rotate_left
        ·intro w'
         go_simp
         with_reducible rfl
        rotate_left
        ·simp only [Act.put, List.setIfInBounds_toArray, List.set_cons_zero, List.set_cons_succ, i64_w, i32_w]
         rfl
        refine pure_ (i := 10) (N := some 36) (v := ?_) (a' := ?_) #[true, true, true, true, true, true, true, true, true, true, true, false, false, false] rfl rfl (any_of HT_.out (by kernel_rfl)) (fun _ _ _ h => h) (Or.inl ⟨by rfl, ?_⟩) ?_ ?_
        rotate_left
        ·intro w'
         go_simp
         with_reducible rfl
        rotate_left
        ·simp only [Act.put, List.setIfInBounds_toArray, List.set_cons_zero, List.set_cons_succ, i64_w, i32_w]
         rfl
        refine take_ (i := 11) (N := some 37) (v := ?_) (a' := ?_) #[true, true, true, true, true, true, true, true, true, true, true, true, false, false] rfl rfl (take_ofW HT_.out HW_.out (by kernel_rfl)) (fun _ _ _ h => h) (Or.inl ⟨by rfl, ?_⟩) hHeld ?_ ?_
        rotate_left
        ·rintro w' ⟨s0, s1, s2, s3, s4, s5, s6, s7⟩
         go_simp
         with_reducible rfl
        rotate_left
        ·simp only [Act.put, List.setIfInBounds_toArray, List.set_cons_zero, List.set_cons_succ, i64_w, i32_w]
         rfl
        refine one_ (i := 12) (N := some 38) #[true, true, true, true, true, true, true, true, true, true, true, true, true, false] rfl rfl (one_of HT_.out (by kernel_rfl)) (by decide) (fun K hK => ?_)
        refine goes_ Tryd.func70 (by kernel_rfl) rfl #[.agg #[.int .i64 ((rd_TIns (rd_LIns l0 a1) (ji13)).f0), .int .i64 ((rd_TIns (rd_LIns l0 a1) (ji13)).f1), .int .i64 ((rd_TIns (rd_LIns l0 a1) (ji13)).f2), .int .i64 ((rd_TIns (rd_LIns l0 a1) (ji13)).f3), .string ((rd_TIns (rd_LIns l0 a1) (ji13)).f4), .slice A291_5 ((rd_TIns (rd_LIns l0 a1) (ji13)).f5).length c291_5]] (by rfl) rfl rfl (by (try simp only [List.map_toArray, List.map_cons, List.map_nil]); first | done | (simp only [hji13]; rfl) | rfl | (simp only [List.length_drop, List.length_take]; rfl)) ?_
        with_reducible refine (cubbyref07_Targets.calls ((rd_TIns (rd_LIns l0 a1) (ji13)).f0) ((rd_TIns (rd_LIns l0 a1) (ji13)).f1) ((rd_TIns (rd_LIns l0 a1) (ji13)).f2) ((rd_TIns (rd_LIns l0 a1) (ji13)).f3) ((rd_TIns (rd_LIns l0 a1) (ji13)).f4) _ _ ((rd_TIns (rd_LIns l0 a1) (ji13)).f5) t292 _ ?side1 ?side2 A16.out).mono ?_
        (case side1 => exact qCB HR291_5.out)
        (case side2 => exact HC291_5.out)
        rintro e w18 ⟨v293, rfl, ho0, hb⟩
        refine ⟨_, rfl, ?_⟩
        have n0_ := Aside0.mk (Kd.R_elder' (qR HO_5.out) (Kd.R_base ho0) hb)
        have n1_ := Aside0.mk (Kd.R_lower (Kd.R_new' ho0 (Kd.R_lt (qR HO_5.out))) (below_size qB))
        have n2_ := qH hb
        clear HO_5
        clear HB
        have HO_5 := n0_
        have HO294 := n1_
        have HB := n2_
        clear n0_ n1_ n2_
        (try clear hb)
        (try clear hb2)
        (try clear hk)
        (try clear hi)
        (try clear ho0)
        refine hK.out _ _ ⟨((HB.out.cell (World.block_lt_of_cell? w _ hw289_0)).trans hw289_0), ((HB.out.cell (World.block_lt_of_cell? w _ hw290_0)).trans hw290_0), ((HB.out.cell (World.block_lt_of_cell? w _ hw291_0)).trans hw291_0), ((HB.out.cell (World.block_lt_of_cell? w _ hw291_1)).trans hw291_1), ((HB.out.cell (World.block_lt_of_cell? w _ hw291_2)).trans hw291_2), ((HB.out.cell (World.block_lt_of_cell? w _ hw291_3)).trans hw291_3), ((HB.out.cell (World.block_lt_of_cell? w _ hw291_4)).trans hw291_4), ((HB.out.cell (World.block_lt_of_cell? w _ hw291_5)).trans hw291_5)⟩ (fun hHeld => ?_)
        clear hK K
        refine norm_ (a' := ?_) ?_ ?_
        rotate_left
        ·show Act.put _ (some 38) _ = _
         simp only [Act.put, List.setIfInBounds_toArray, List.set_cons_zero, List.set_cons_succ, i64_w, i32_w]
         rfl
        refine pure_ (i := 13) (N := some 6) (v := ?_) (a' := ?_) #[true, true, true, true, true, true, true, true, true, true, true, true, true, true] rfl rfl (any_of HT_.out (by kernel_rfl)) (fun _ _ _ h => h) (Or.inl ⟨by rfl, ?_⟩) ?_ ?_
        rotate_left
        ·intro w'
         go_simp
         with_reducible rfl
        rotate_left
        ·simp only [Act.put, List.setIfInBounds_toArray, List.set_cons_zero, List.set_cons_succ, i64_w, i32_w]
         rfl
        refine done_ (done_of HT_.out (by kernel_rfl)) ?_
        try go_wp2
        go_loopg [5, 7] kj2 (fun kq v5 v7 w' => ∃ (x5_2 : List Int) (x7_2 : Int), v7 = .int .i64 x7_2 ∧ Aside0 (cubbyref09_Succs.l0 kq l0 x5_2 t292 x7_2 = some r) ∧ Aside0 (kq ≤ kj2) ∧ Aside0 (Kd.R (Kd.int .i64) 3 w' w.heap.size (fun k_ => some k_ ≠ (v293 : Value).ownBlock) v5 x5_2) ∧ Aside0 (Kd.R (Kd.int .i64) 3 w' w.heap.size (fun k_ => some k_ ≠ (v5 : Value).ownBlock) v293 t292) ∧ Aside0 (Below w.heap.size w w'))
        case atStart => exact ⟨(y285), (0), qT, H', ⟨Nat.le_refl _⟩, ⟨by (with_reducible repeat (first | apply Kd.R_alloc | apply Kd.R_drewN | apply Kd.R_drew)); exact Kd.R_mono HO_5.out (fun _ hk => hk.2)⟩, ⟨by (with_reducible repeat (first | apply Kd.R_alloc | apply Kd.R_drewN | apply Kd.R_drew)); exact Kd.R_mono HO294.out (fun _ hk => hk.2)⟩, ⟨qB⟩⟩
        case round =>
         clear H'
         try clear c1; try clear c2; try clear p2; try clear q2; try clear hx2; try clear c6; try clear c6b0; try clear p6; try clear c7; try clear c7b0; try clear c8; try clear c8b0; try clear c9; try clear c9b0; try clear c10; try clear c11; try clear c11b0; try clear c12; try clear c12b0; try clear c14; try clear c14b0; try clear c15; try clear c15b0; try clear hx288_0; try clear hx289_0; try clear hx290_0; try clear hx291_0; try clear hx291_1; try clear hx291_2; try clear hx291_3; try clear hx291_4; try clear hx291_5; try clear p288; try clear p289; try clear p290; try clear p291; try clear q288; try clear q289; try clear q290; try clear q291
         obtain ⟨x5_2, x7_2, rfl, HA, HK2, HO_5, HO_6, HB⟩ := hrel
         cases gk with
         | zero => exact absurd HA.out (by simp [cubbyref09_Succs.l0])
         | succ k2 =>
          have H := HA.out
          clear HA
          simp only [cubbyref09_Succs.l0] at H
          by_cases c19 : x7_2 < (t292.length : Int)
          ·rw [if_pos c19] at H
           have c19b0 := decide_eq_true c19
           clear c19
           by_cases c20 : 0 ≤ x7_2
           ·rw [if_pos c20] at H
            have c20b0 := decide_eq_true c20
            clear c20
            by_cases c21 : (rd t292 x7_2) ≥ 0
            ·rw [if_pos c21] at H
             have c21b0 : decide (0 ≤ (rd t292 x7_2)) = true := decide_eq_true c21
             clear c21
             by_cases c22 : (rd t292 x7_2) < (l0.length : Int)
             ·rw [if_pos c22] at H
              have c22b0 := decide_eq_true c22
              clear c22
              replace H := qb H; obtain ⟨t298, A23, H⟩ := H
              by_cases c24 : t298 = true
              ·subst c24
               have H1 : (cubbyref09_Succs.l0 k2 l0 x5_2 t292 (wrap64 (x7_2 + 1))) = some r := by rw [if_pos rfl] at H; exact H
               clear H
               have H := H1
               clear H1
               have H' := Aside0.mk H
               clear H
               obtain ⟨Ao25, co25, eo25⟩ := Kd.R_slice HO_6.out
               subst eo25
               have p295 : 0 ≤ (x7_2 : Int) := of_decide_eq_true qA
               have q295 : x7_2 < (t292.length : Int) := of_decide_eq_true qA
               obtain ⟨ad295, e295, hx295_0⟩ := Kd.at_int (Kd.R_reads' HO_6.out).2.2 x7_2 p295 q295
               cases e295
               replace p295 := eq_true p295
               replace q295 := eq_true q295
               have p296 : 0 ≤ (x7_2 : Int) := of_decide_eq_true qA
               have q296 : x7_2 < (t292.length : Int) := of_decide_eq_true qA
               obtain ⟨ad296, e296, hx296_0⟩ := Kd.at_int (Kd.R_reads' HO_6.out).2.2 x7_2 p296 q296
               obtain rfl : ad295 = ad296 := (by injection e296)
               replace p296 := eq_true p296
               replace q296 := eq_true q296
               have p297 : 0 ≤ (x7_2 : Int) := of_decide_eq_true qA
               have q297 : x7_2 < (t292.length : Int) := of_decide_eq_true qA
               obtain ⟨ad297, e297, hx297_0⟩ := Kd.at_int (Kd.R_reads' HO_6.out).2.2 x7_2 p297 q297
               obtain rfl : ad295 = ad297 := (by injection e297)
               replace p297 := eq_true p297
               replace q297 := eq_true q297
               obtain ⟨Ao26, co26, eo26⟩ := Kd.R_slice HO_5.out
               subst eo26
               go_wp2_with (first | (go_at_call 98; (with_reducible refine (cubbyref09_has.calls k2 _ _ x5_2 (rd t292 x7_2) true _ ?side1 ?side2 A23.out).mono ?_); (case side1 => repeat (first | exact (Kd.R_reads' HO_5.out).2.2 | (with_reducible refine Kd.C_alloc ?_ _) | (with_reducible refine Kd.C_drewN ?_ _) | (with_reducible refine Kd.C_drew ?_))); (case side2 => exact (Kd.R_reads' HO_5.out).2.1); (try clear A23); rintro e w' ⟨rfl, ⟨nd, rfl⟩⟩))
               go_roundg k2
               case measure => have := HJ2.out; have := HK2.out; omega
               case rel => exact ⟨(x5_2), (wrap64 (x7_2 + 1)), qT, H', ⟨by have := HJ2.out; have := HK2.out; omega⟩, ⟨qR HO_5.out⟩, ⟨qR HO_6.out⟩, ⟨qB⟩⟩
              ·replace c24 := Bool.eq_false_iff.mpr c24
               subst c24
               have H1 : (if x5_2.length < 17592186044416 then (cubbyref09_Succs.l0 k2 l0 (x5_2 ++ [rd t292 x7_2]) t292 (wrap64 (x7_2 + 1))) else (none)) = some r := by rw [if_neg (show ¬ (false = true) by decide)] at H; exact H
               clear H
               have H := H1
               clear H1
               by_cases c27 : x5_2.length < 17592186044416
               ·rw [if_pos c27] at H
                have LMc27 := Aside0.mk c27
                clear c27
                obtain ⟨y300, hy300⟩ : ∃ y_ : List Int, y_ = (x5_2 ++ [rd t292 x7_2]) := ⟨_, rfl⟩
                replace H : (cubbyref09_Succs.l0 k2 l0 y300 t292 (wrap64 (x7_2 + 1))) = some r := by first | (rw [hy300]; with_reducible exact H) | (have H2_ := (Option.bind_some _ _).symm.trans H; rw [hy300]; with_reducible exact H2_) | (have H2_ := (Option.bind_some _ _).symm.trans H; with_reducible exact H2_) | with_reducible exact H | (rw [hy300]; exact H) | exact H
                have Ny300 := Aside0.mk hy300
                clear hy300
                have H' := Aside0.mk H
                clear H
                obtain ⟨Ao28, co28, eo28⟩ := Kd.R_slice HO_6.out
                subst eo28
                have p295 : 0 ≤ (x7_2 : Int) := of_decide_eq_true qA
                have q295 : x7_2 < (t292.length : Int) := of_decide_eq_true qA
                obtain ⟨ad295, e295, hx295_0⟩ := Kd.at_int (Kd.R_reads' HO_6.out).2.2 x7_2 p295 q295
                cases e295
                replace p295 := eq_true p295
                replace q295 := eq_true q295
                have p296 : 0 ≤ (x7_2 : Int) := of_decide_eq_true qA
                have q296 : x7_2 < (t292.length : Int) := of_decide_eq_true qA
                obtain ⟨ad296, e296, hx296_0⟩ := Kd.at_int (Kd.R_reads' HO_6.out).2.2 x7_2 p296 q296
                obtain rfl : ad295 = ad296 := (by injection e296)
                replace p296 := eq_true p296
                replace q296 := eq_true q296
                have p297 : 0 ≤ (x7_2 : Int) := of_decide_eq_true qA
                have q297 : x7_2 < (t292.length : Int) := of_decide_eq_true qA
                obtain ⟨ad297, e297, hx297_0⟩ := Kd.at_int (Kd.R_reads' HO_6.out).2.2 x7_2 p297 q297
                obtain rfl : ad295 = ad297 := (by injection e297)
                replace p297 := eq_true p297
                replace q297 := eq_true q297
                obtain ⟨Ao29, co29, eo29⟩ := Kd.R_slice HO_5.out
                subst eo29
                go_wp2_with (first | (go_at_call 98; (with_reducible refine (cubbyref09_has.calls k2 _ _ x5_2 (rd t292 x7_2) false _ ?side1 ?side2 A23.out).mono ?_); (case side1 => repeat (first | exact (Kd.R_reads' HO_5.out).2.2 | (with_reducible refine Kd.C_alloc ?_ _) | (with_reducible refine Kd.C_drewN ?_ _) | (with_reducible refine Kd.C_drew ?_))); (case side2 => exact (Kd.R_reads' HO_5.out).2.1); (try clear A23); rintro e w' ⟨rfl, ⟨nd, rfl⟩⟩; have p299 : 0 ≤ (x7_2 : Int) := of_decide_eq_true qA; have q299 : x7_2 < (t292.length : Int) := of_decide_eq_true qA; obtain ⟨ad299, e299, hx299_0⟩ := Kd.at_int (Kd.R_reads' HO_6.out).2.2 x7_2 p299 q299; obtain rfl : ad295 = ad299 := (by injection e299); replace p299 := eq_true p299; replace q299 := eq_true q299) | ((with_reducible refine gate_builtin (b := .append) (xs := #[.tmp 68, .tmp 73]) rfl ?_); (try (refine gate_guard (by rfl) ?_; dsimp only)); at_builtin; refine Kd.R_append (Kd.int .i64) (w0 := w) w.heap.size rfl (.tmp 68) (.tmp 73) 29 3 (.int .i64 0) 8 rfl Tryd.underlying29 info3 rfl (by decide) (by omega) (.slice Ao29 x5_2.length co29) x5_2 (rd t292 x7_2) [.int .i64 (rd t292 x7_2)] (fun k_ => some k_ ≠ (.slice (some ad295) t292.length co28 : Value).ownBlock) (fun _ => False) rfl rfl ?aP (fun _ hk => hk.elim) ?aF ?aO ?aB ?aS ?aL ?_; (case aP => exact rfl); (case aB => exact qB); (case aF => exact (fun k_ hk => Kd.fresh' (Kd.R_lt (qR HO_6.out)) k_ hk)); (case aO => exact (qR HO_5.out)); (case aS => exact (below_size qB)); (case aL => have := LMc27.out; omega); intro v301 w30 ho hb hg hat; rw [← Ny300.out] at ho; replace HO_6 := Aside0.mk (Kd.R_after (ok := (fun _ => True)) (by (with_reducible repeat (first | apply Kd.R_alloc | apply Kd.R_drewN | apply Kd.R_drew)); exact Kd.R_mono HO_6.out (fun _ hk => ⟨trivial, hk⟩)) hg hat); replace HB := Aside0.mk (hb); have HO302 := Aside0.mk (ho); clear HO_5; clear ho hb hg hat))
                go_roundg k2
                case measure => have := HJ2.out; have := HK2.out; omega
                case rel => exact ⟨(y300), (wrap64 (x7_2 + 1)), qT, H', ⟨by have := HJ2.out; have := HK2.out; omega⟩, ⟨qR HO302.out⟩, ⟨by (with_reducible repeat (first | apply Kd.R_alloc | apply Kd.R_drewN | apply Kd.R_drew)); exact Kd.R_mono HO_6.out (fun _ hk => hk.2)⟩, ⟨qB⟩⟩
               ·rw [if_neg c27] at H
                exact absurd H (by simp)
             ·rw [if_neg c22] at H
              have c22b0 := decide_eq_false c22
              clear c22
              have H' := Aside0.mk H
              clear H
              obtain ⟨Ao31, co31, eo31⟩ := Kd.R_slice HO_6.out
              subst eo31
              have p295 : 0 ≤ (x7_2 : Int) := of_decide_eq_true qA
              have q295 : x7_2 < (t292.length : Int) := of_decide_eq_true qA
              obtain ⟨ad295, e295, hx295_0⟩ := Kd.at_int (Kd.R_reads' HO_6.out).2.2 x7_2 p295 q295
              cases e295
              replace p295 := eq_true p295
              replace q295 := eq_true q295
              have p296 : 0 ≤ (x7_2 : Int) := of_decide_eq_true qA
              have q296 : x7_2 < (t292.length : Int) := of_decide_eq_true qA
              obtain ⟨ad296, e296, hx296_0⟩ := Kd.at_int (Kd.R_reads' HO_6.out).2.2 x7_2 p296 q296
              obtain rfl : ad295 = ad296 := (by injection e296)
              replace p296 := eq_true p296
              replace q296 := eq_true q296
              go_wp2
              go_roundg k2
              case measure => have := HJ2.out; have := HK2.out; omega
              case rel => exact ⟨(x5_2), (wrap64 (x7_2 + 1)), qT, H', ⟨by have := HJ2.out; have := HK2.out; omega⟩, ⟨qR HO_5.out⟩, ⟨qR HO_6.out⟩, ⟨qB⟩⟩
            ·rw [if_neg c21] at H
             have c21b0 : decide (0 ≤ (rd t292 x7_2)) = false := decide_eq_false c21
             clear c21
             have H' := Aside0.mk H
             clear H
             obtain ⟨Ao32, co32, eo32⟩ := Kd.R_slice HO_6.out
             subst eo32
             have p295 : 0 ≤ (x7_2 : Int) := of_decide_eq_true qA
             have q295 : x7_2 < (t292.length : Int) := of_decide_eq_true qA
             obtain ⟨ad295, e295, hx295_0⟩ := Kd.at_int (Kd.R_reads' HO_6.out).2.2 x7_2 p295 q295
             cases e295
             replace p295 := eq_true p295
             replace q295 := eq_true q295
             go_wp2
             go_roundg k2
             case measure => have := HJ2.out; have := HK2.out; omega
             case rel => exact ⟨(x5_2), (wrap64 (x7_2 + 1)), qT, H', ⟨by have := HJ2.out; have := HK2.out; omega⟩, ⟨qR HO_5.out⟩, ⟨qR HO_6.out⟩, ⟨qB⟩⟩
           ·rw [if_neg c20] at H
            exact absurd H (by simp)
          ·rw [if_neg c19] at H
           have c19b0 := decide_eq_false c19
           clear c19
           obtain rfl := Option.some.inj H
           obtain ⟨Ao33, co33, eo33⟩ := Kd.R_slice HO_6.out
           subst eo33
           go_wp2
           go_ret
           exact ⟨_, by first | rfl | (simp [errW_none, errW_some] <;> rfl) | (simp only [← hji13]; first | rfl | (simp [errW_none, errW_some] <;> rfl)) | (simp [*, errW_none, errW_some] <;> rfl), by (with_reducible repeat (first | apply Kd.R_alloc | apply Kd.R_drewN | apply Kd.R_drew)); exact Kd.R_mono HO_5.out (fun _ hk => trivial), qB⟩
       ·rw [if_neg c15] at H
        exact absurd H (by simp)
      ·rw [if_neg c14] at H
       exact absurd H (by simp)
     ·rw [if_neg c12] at H
      exact absurd H (by simp)
    ·rw [if_neg c11] at H
     exact absurd H (by simp)

end Go.Proofs.YtebnnknijbgekaaDoor.Q
namespace Go.Proofs.YtebnnknijbgekaaDoor.Q
open Go.RowKit Go.Proofs.YtebnnknijbgekaaDoorW.PrintWords Go.Proofs.YtebnnknijbgekaaDoorW.PrintLast Go.Proofs.YtebnnknijbgekaaDoorW.PrintMore
attribute [local go_sem] max2_int min2_int max_two min_two max_three min_three max_four min_four   -- for this text's walks alone
set_option linter.unusedVariables false
set_option linter.unusedSimpArgs false

/-! ### cubbyref11_has: function 105 -/
def cubbyref11_has.l0 : Nat → List Int → Int → Int → Option (Bool)
 | 0, _, _, _ => none
 | k + 1, x0, x1, x5 => if x5 < (x0.length : Int) then (if 0 ≤ x5 then (if (rd x0 x5) = x1 then (some true) else (cubbyref11_has.l0 k x0 x1 (wrap64 (x5 + 1)))) else (none)) else (some false)
def cubbyref11_has.f (k : Nat) (l0 : List Int) (a1 : Int) : Option (Bool) := cubbyref11_has.l0 k l0 a1 0
theorem cubbyref11_has.mono_l : ∀ k, (∀ y0 y1 y2, LeO (cubbyref11_has.l0 k y0 y1 y2) (cubbyref11_has.l0 (k + 1) y0 y1 y2))
 | 0 => fun _ _ _ r h => by simp [cubbyref11_has.l0] at h
 | k + 1 => by
  have ih0 := cubbyref11_has.mono_l k
  ·intro y0 y1 y2
   unfold cubbyref11_has.l0
   repeat' first | (with_reducible exact ih0 _ _ _) | (with_reducible exact LeO.refl _) | (with_reducible exact LeO.none _) | (with_reducible refine LeO.ite ?_ ?_) | (with_reducible refine LeO.bind ?_ (fun _ => ?_)) | exact LeO.none _ | refine LeO.ite ?_ ?_ | refine LeO.bind ?_ (fun _ => ?_)
theorem cubbyref11_has.mono : ∀ a0 a1 k, LeO (cubbyref11_has.f k a0 a1) (cubbyref11_has.f (k + 1) a0 a1) := by
 intro a0 a1 k
 have ih0 := cubbyref11_has.mono_l k
 unfold cubbyref11_has.f
 repeat' first | (with_reducible exact ih0 _ _ _) | (with_reducible exact LeO.refl _) | (with_reducible exact LeO.none _) | (with_reducible refine LeO.ite ?_ ?_) | (with_reducible refine LeO.bind ?_ (fun _ => ?_)) | exact LeO.none _ | refine LeO.ite ?_ ?_ | refine LeO.bind ?_ (fun _ => ?_)
set_option maxHeartbeats 8000000 in
set_option maxRecDepth 100000 in
theorem cubbyref11_has.calls (k : Nat) (A0 : Option Addr) (c0 : Nat) (l0 : List Int) (a1 : Int) (r : Bool) (w : World) (hr0 : Kd.C (Kd.int .i64) w A0 l0.length l0) (hc0 : l0.length ≤ c0) (h : cubbyref11_has.f k l0 a1 = some r) :
  Calls Tryd.prog 105 #[.slice A0 l0.length c0, .int .i64 a1] w fun e w' => e = .returned (.bool r) ∧ Drawn0 w w' := by
 have HR0 := Aside0.mk hr0
 have HC0 := Aside0.mk hc0
 clear hr0 hc0
 have H := h; clear h; unfold cubbyref11_has.f at H
 have H' := Aside0.mk H
 clear H
 go_enter Tryd.func105, Tryd.ntmps105
 go_wp2
 go_loopg [5] k (fun kq v5 w' => ∃ (x5_1 : Int), v5 = .int .i64 x5_1 ∧ Aside0 (cubbyref11_has.l0 kq l0 a1 x5_1 = some r) ∧ Aside0 (kq ≤ k) ∧ Drawn0 w w')
 case atStart => exact ⟨(0), qT, H', ⟨Nat.le_refl _⟩, qD⟩
 case round =>
  clear H'
  try clear c1; try clear p2
  obtain ⟨x5_1, rfl, HA, HK1, ⟨m1, rfl⟩⟩ := hrel
  cases gk with
  | zero => exact absurd HA.out (by simp [cubbyref11_has.l0])
  | succ k1 =>
   have H := HA.out
   clear HA
   simp only [cubbyref11_has.l0] at H
   by_cases c3 : x5_1 < (l0.length : Int)
   ·rw [if_pos c3] at H
    have c3b0 := decide_eq_true c3
    clear c3
    by_cases c4 : 0 ≤ x5_1
    ·rw [if_pos c4] at H
     have c4b0 := decide_eq_true c4
     clear c4
     by_cases c5 : (rd l0 x5_1) = a1
     ·rw [if_pos c5] at H
      obtain ⟨c5b0, c5b1⟩ := qe c5; clear c5
      obtain rfl := Option.some.inj H
      have p303 : 0 ≤ (x5_1 : Int) := of_decide_eq_true qA
      have q303 : x5_1 < (l0.length : Int) := of_decide_eq_true qA
      obtain ⟨ad303, e303, hx303_0⟩ := Kd.at_int HR0.out x5_1 p303 q303
      cases e303
      replace p303 := eq_true p303
      replace q303 := eq_true q303
      go_wp2
      go_ret
      exact ⟨by first | rfl | (simp; done) | (simp [*]; done), qD⟩
     ·rw [if_neg c5] at H
      obtain ⟨c5b0, c5b1⟩ := qn c5
      have H' := Aside0.mk H
      clear H
      have p303 : 0 ≤ (x5_1 : Int) := of_decide_eq_true qA
      have q303 : x5_1 < (l0.length : Int) := of_decide_eq_true qA
      obtain ⟨ad303, e303, hx303_0⟩ := Kd.at_int HR0.out x5_1 p303 q303
      cases e303
      replace p303 := eq_true p303
      replace q303 := eq_true q303
      go_wp2
      go_roundg k1
      case measure => have := HK1.out; omega
      case rel => exact ⟨(wrap64 (x5_1 + 1)), qT, H', ⟨by have := HK1.out; omega⟩, qD⟩
    ·rw [if_neg c4] at H
     exact absurd H (by simp)
   ·rw [if_neg c3] at H
    have c3b0 := decide_eq_false c3
    clear c3
    obtain rfl := Option.some.inj H
    go_wp2
    go_ret
    exact ⟨by first | rfl | (simp; done) | (simp [*]; done), qD⟩

end Go.Proofs.YtebnnknijbgekaaDoor.Q
namespace Go.Proofs.YtebnnknijbgekaaDoor.Q
open Go.RowKit Go.Proofs.YtebnnknijbgekaaDoorW.PrintWords Go.Proofs.YtebnnknijbgekaaDoorW.PrintLast Go.Proofs.YtebnnknijbgekaaDoorW.PrintMore
attribute [local go_sem] max2_int min2_int max_two min_two max_three min_three max_four min_four   -- for this text's walks alone
set_option linter.unusedVariables false
set_option linter.unusedSimpArgs false

/-! ### cubbyref11_union: function 97 -/
def cubbyref11_union.l0 : Nat → List Int → List Int → Int → List Int → Int → Option (List Int)
 | 0, _, _, _, _, _ => none
 | k + 1, x0, x1, x2, x7, x8 => if x8 < x2 then ((cubbyref11_has.f k x0 x8).bind fun t307 => (if t307 = true then (if x7.length < 17592186044416 then (cubbyref11_union.l0 k x0 x1 x2 (x7 ++ [x8]) (wrap64 (x8 + 1))) else (none)) else ((cubbyref11_has.f k x1 x8).bind fun t311 => (if t311 = true then (if x7.length < 17592186044416 then (cubbyref11_union.l0 k x0 x1 x2 (x7 ++ [x8]) (wrap64 (x8 + 1))) else (none)) else (cubbyref11_union.l0 k x0 x1 x2 x7 (wrap64 (x8 + 1))))))) else (some x7)
def cubbyref11_union.f (k : Nat) (l0 : List Int) (l1 : List Int) (a2 : Int) : Option (List Int) := cubbyref11_union.l0 k l0 l1 a2 (([] : List Int)) 0
theorem cubbyref11_union.mono_l : ∀ k, (∀ y0 y1 y2 y3 y4, LeO (cubbyref11_union.l0 k y0 y1 y2 y3 y4) (cubbyref11_union.l0 (k + 1) y0 y1 y2 y3 y4))
 | 0 => fun _ _ _ _ _ r h => by simp [cubbyref11_union.l0] at h
 | k + 1 => by
  have ih0 := cubbyref11_union.mono_l k
  ·intro y0 y1 y2 y3 y4
   unfold cubbyref11_union.l0
   repeat' first | (with_reducible exact ih0 _ _ _ _ _) | (with_reducible exact cubbyref11_has.mono _ _ _) | (with_reducible exact LeO.refl _) | (with_reducible exact LeO.none _) | (with_reducible refine LeO.ite ?_ ?_) | (with_reducible refine LeO.bind ?_ (fun _ => ?_)) | exact LeO.none _ | refine LeO.ite ?_ ?_ | refine LeO.bind ?_ (fun _ => ?_)
theorem cubbyref11_union.mono : ∀ a0 a1 a2 k, LeO (cubbyref11_union.f k a0 a1 a2) (cubbyref11_union.f (k + 1) a0 a1 a2) := by
 intro a0 a1 a2 k
 have ih0 := cubbyref11_union.mono_l k
 unfold cubbyref11_union.f
 repeat' first | (with_reducible exact ih0 _ _ _ _ _) | (with_reducible exact cubbyref11_has.mono _ _ _) | (with_reducible exact LeO.refl _) | (with_reducible exact LeO.none _) | (with_reducible refine LeO.ite ?_ ?_) | (with_reducible refine LeO.bind ?_ (fun _ => ?_)) | exact LeO.none _ | refine LeO.ite ?_ ?_ | refine LeO.bind ?_ (fun _ => ?_)
set_option maxHeartbeats 8000000 in
set_option maxRecDepth 100000 in
theorem cubbyref11_union.calls (k : Nat) (A0 : Option Addr) (c0 : Nat) (l0 : List Int) (A1 : Option Addr) (c1 : Nat) (l1 : List Int) (a2 : Int) (r : List Int) (w : World) (hr0 : Kd.C (Kd.int .i64) w A0 l0.length l0) (hc0 : l0.length ≤ c0) (hr1 : Kd.C (Kd.int .i64) w A1 l1.length l1) (hc1 : l1.length ≤ c1) (h : cubbyref11_union.f k l0 l1 a2 = some r) :
  Calls Tryd.prog 97 #[.slice A0 l0.length c0, .slice A1 l1.length c1, .int .i64 a2] w fun e w' => ∃ v0_ : Value, e = .returned (v0_) ∧ Kd.R (Kd.int .i64) 3 w' w.heap.size (fun _ => True) v0_ r ∧ Below w.heap.size w w' := by
 have HR0 := Aside0.mk hr0
 have HC0 := Aside0.mk hc0
 clear hr0 hc0
 have HR1 := Aside0.mk hr1
 have HC1 := Aside0.mk hc1
 clear hr1 hc1
 have HB := Aside0.mk (Below.refl w.heap.size w)
 have H := h; clear h; unfold cubbyref11_union.f at H
 obtain ⟨y304, hy304⟩ : ∃ y_ : List Int, y_ = (([] : List Int)) := ⟨_, rfl⟩
 replace H : (cubbyref11_union.l0 k l0 l1 a2 y304 0) = some r := by first | (rw [hy304]; with_reducible exact H) | (have H2_ := (Option.bind_some _ _).symm.trans H; rw [hy304]; with_reducible exact H2_) | (have H2_ := (Option.bind_some _ _).symm.trans H; with_reducible exact H2_) | with_reducible exact H | (rw [hy304]; exact H) | exact H
 have Ny304 := Aside0.mk hy304
 clear hy304
 have H' := Aside0.mk H
 clear H
 go_enter Tryd.func97, Tryd.ntmps97
 go_wp2_with (first | ((with_reducible refine gate_dst (N := 9) rfl ?_); refine Kd.R_lit (Kd.int .i64) _ 3 (by rfl) (N := 9) (by rfl) (xs := ([] : List Int)) (inner := []) (ok := fun _ => True) (okp := fun _ => True) ?hr ?hp (fun _ hk => hk) trivial (Below.refl _ _) (Nat.le_refl _) (by simp) ?_; (case hr => first | (go_simp; done) | (go_simp; rfl)); (case hp => exact (Reps.none _ _)); intro v305 w4 ho5 hb hg_ hnew_; clear hg_ hnew_; (first | rw [← Ny304.out] at ho5 | (simp only [Int.reduceToNat] at ho5; rw [← Ny304.out] at ho5)); have HO306 := Aside0.mk (Kd.R_lower ho5 (below_size qB)); replace HB := qH hb; clear hb ho5))
 go_loopg [7, 8] k (fun kq v7 v8 w' => ∃ (x7_1 : List Int) (x8_1 : Int), v8 = .int .i64 x8_1 ∧ Aside0 (cubbyref11_union.l0 kq l0 l1 a2 x7_1 x8_1 = some r) ∧ Aside0 (kq ≤ k) ∧ Aside0 (Kd.R (Kd.int .i64) 3 w' w.heap.size (fun _ => True) v7 x7_1) ∧ Aside0 (Below w.heap.size w w'))
 case atStart => exact ⟨(y304), (0), qT, H', ⟨Nat.le_refl _⟩, ⟨qR HO306.out⟩, ⟨qB⟩⟩
 case round =>
  clear H'
  try clear c1; try clear p2
  obtain ⟨x7_1, x8_1, rfl, HA, HK1, HO_7, HB⟩ := hrel
  cases gk with
  | zero => exact absurd HA.out (by simp [cubbyref11_union.l0])
  | succ k1 =>
   have H := HA.out
   clear HA
   simp only [cubbyref11_union.l0] at H
   by_cases c6 : x8_1 < a2
   ·rw [if_pos c6] at H
    have c6b0 := decide_eq_true c6
    clear c6
    replace H := qb H; obtain ⟨t307, A7, H⟩ := H
    by_cases c8 : t307 = true
    ·subst c8
     have H1 : (if x7_1.length < 17592186044416 then (cubbyref11_union.l0 k1 l0 l1 a2 (x7_1 ++ [x8_1]) (wrap64 (x8_1 + 1))) else (none)) = some r := by rw [if_pos rfl] at H; exact H
     clear H
     have H := H1
     clear H1
     by_cases c9 : x7_1.length < 17592186044416
     ·rw [if_pos c9] at H
      have LMc9 := Aside0.mk c9
      clear c9
      obtain ⟨y308, hy308⟩ : ∃ y_ : List Int, y_ = (x7_1 ++ [x8_1]) := ⟨_, rfl⟩
      replace H : (cubbyref11_union.l0 k1 l0 l1 a2 y308 (wrap64 (x8_1 + 1))) = some r := by first | (rw [hy308]; with_reducible exact H) | (have H2_ := (Option.bind_some _ _).symm.trans H; rw [hy308]; with_reducible exact H2_) | (have H2_ := (Option.bind_some _ _).symm.trans H; with_reducible exact H2_) | with_reducible exact H | (rw [hy308]; exact H) | exact H
      have Ny308 := Aside0.mk hy308
      clear hy308
      have H' := Aside0.mk H
      clear H
      go_wp2_with (first | ((with_reducible refine gate_callee (f := 105) rfl ?_); refine goesL_ (some 17) rfl rfl Tryd.func105 (by kernel_rfl) rfl #[.slice A0 l0.length c0, .int .i64 x8_1] rfl qL ?_; (with_reducible refine (cubbyref11_has.calls k1 _ _ l0 x8_1 true _ ?side1 ?side2 A7.out).mono ?_); (case side1 => exact qCB HR0.out); (case side2 => exact HC0.out); rintro e w' ⟨rfl, ⟨nd, rfl⟩⟩; refine ⟨_, rfl, ?_⟩) | ((with_reducible refine gate_builtin (b := .append) (xs := #[.tmp 23, .tmp 25]) rfl ?_); at_builtin; refine Kd.R_append (Kd.int .i64) (w0 := w) w.heap.size rfl (.tmp 23) (.tmp 25) 29 3 (.int .i64 0) 8 rfl Tryd.underlying29 info3 rfl (by decide) (by omega) u7 x7_1 x8_1 [.int .i64 x8_1] (fun _ => True) (fun _ => False) rfl rfl ?aP (fun _ hk => hk.elim) ?aF ?aO ?aB ?aS ?aL ?_; (case aP => exact rfl); (case aB => exact qB); (case aF => exact (fun _ _ => trivial)); (case aO => exact (qR HO_7.out)); (case aS => exact (below_size qB)); (case aL => have := LMc9.out; omega); intro v309 w10 ho hb hg hat; rw [← Ny308.out] at ho; replace HB := Aside0.mk (hb); have HO310 := Aside0.mk (ho); clear HO_7; clear ho hb hg hat))
      go_roundg k1
      case measure => have := HK1.out; omega
      case rel => exact ⟨(y308), (wrap64 (x8_1 + 1)), qT, H', ⟨by have := HK1.out; omega⟩, ⟨qR HO310.out⟩, ⟨qB⟩⟩
     ·rw [if_neg c9] at H
      exact absurd H (by simp)
    ·replace c8 := Bool.eq_false_iff.mpr c8
     subst c8
     have H1 : ((cubbyref11_has.f k1 l1 x8_1).bind fun t311 => (if t311 = true then (if x7_1.length < 17592186044416 then (cubbyref11_union.l0 k1 l0 l1 a2 (x7_1 ++ [x8_1]) (wrap64 (x8_1 + 1))) else (none)) else (cubbyref11_union.l0 k1 l0 l1 a2 x7_1 (wrap64 (x8_1 + 1))))) = some r := by rw [if_neg (show ¬ (false = true) by decide)] at H; exact H
     clear H
     have H := H1
     clear H1
     replace H := qb H; obtain ⟨t311, A11, H⟩ := H
     by_cases c12 : t311 = true
     ·subst c12
      have H1 : (if x7_1.length < 17592186044416 then (cubbyref11_union.l0 k1 l0 l1 a2 (x7_1 ++ [x8_1]) (wrap64 (x8_1 + 1))) else (none)) = some r := by rw [if_pos rfl] at H; exact H
      clear H
      have H := H1
      clear H1
      by_cases c13 : x7_1.length < 17592186044416
      ·rw [if_pos c13] at H
       have LMc13 := Aside0.mk c13
       clear c13
       obtain ⟨y312, hy312⟩ : ∃ y_ : List Int, y_ = (x7_1 ++ [x8_1]) := ⟨_, rfl⟩
       replace H : (cubbyref11_union.l0 k1 l0 l1 a2 y312 (wrap64 (x8_1 + 1))) = some r := by first | (rw [hy312]; with_reducible exact H) | (have H2_ := (Option.bind_some _ _).symm.trans H; rw [hy312]; with_reducible exact H2_) | (have H2_ := (Option.bind_some _ _).symm.trans H; with_reducible exact H2_) | with_reducible exact H | (rw [hy312]; exact H) | exact H
       have Ny312 := Aside0.mk hy312
       clear hy312
       have H' := Aside0.mk H
       clear H
       go_wp2_with (first | ((with_reducible refine gate_callee (f := 105) rfl ?_); refine goesL_ (some 17) rfl rfl Tryd.func105 (by kernel_rfl) rfl #[.slice A0 l0.length c0, .int .i64 x8_1] rfl qL ?_; (with_reducible refine (cubbyref11_has.calls k1 _ _ l0 x8_1 false _ ?side1 ?side2 A7.out).mono ?_); (case side1 => exact qCB HR0.out); (case side2 => exact HC0.out); rintro e w' ⟨rfl, ⟨nd, rfl⟩⟩; refine ⟨_, rfl, ?_⟩) | (go_at_call 105; (with_reducible refine (cubbyref11_has.calls k1 _ _ l1 x8_1 true _ ?side1 ?side2 A11.out).mono ?_); (case side1 => repeat (first | exact (Kd.C_below HR1.out qB) | (with_reducible refine Kd.C_alloc ?_ _) | (with_reducible refine Kd.C_drewN ?_ _) | (with_reducible refine Kd.C_drew ?_))); (case side2 => exact HC1.out); (try clear A11); rintro e w' ⟨rfl, ⟨nd, rfl⟩⟩) | ((with_reducible refine gate_builtin (b := .append) (xs := #[.tmp 23, .tmp 25]) rfl ?_); at_builtin; refine Kd.R_append (Kd.int .i64) (w0 := w) w.heap.size rfl (.tmp 23) (.tmp 25) 29 3 (.int .i64 0) 8 rfl Tryd.underlying29 info3 rfl (by decide) (by omega) u7 x7_1 x8_1 [.int .i64 x8_1] (fun _ => True) (fun _ => False) rfl rfl ?aP (fun _ hk => hk.elim) ?aF ?aO ?aB ?aS ?aL ?_; (case aP => exact rfl); (case aB => exact qB); (case aF => exact (fun _ _ => trivial)); (case aO => exact (qR HO_7.out)); (case aS => exact (below_size qB)); (case aL => have := LMc13.out; omega); intro v313 w14 ho hb hg hat; rw [← Ny312.out] at ho; replace HB := Aside0.mk (hb); have HO314 := Aside0.mk (ho); clear HO_7; clear ho hb hg hat))
       go_roundg k1
       case measure => have := HK1.out; omega
       case rel => exact ⟨(y312), (wrap64 (x8_1 + 1)), qT, H', ⟨by have := HK1.out; omega⟩, ⟨qR HO314.out⟩, ⟨qB⟩⟩
      ·rw [if_neg c13] at H
       exact absurd H (by simp)
     ·replace c12 := Bool.eq_false_iff.mpr c12
      subst c12
      have H1 : (cubbyref11_union.l0 k1 l0 l1 a2 x7_1 (wrap64 (x8_1 + 1))) = some r := by rw [if_neg (show ¬ (false = true) by decide)] at H; exact H
      clear H
      have H := H1
      clear H1
      have H' := Aside0.mk H
      clear H
      go_wp2_with (first | ((with_reducible refine gate_callee (f := 105) rfl ?_); refine goesL_ (some 17) rfl rfl Tryd.func105 (by kernel_rfl) rfl #[.slice A0 l0.length c0, .int .i64 x8_1] rfl qL ?_; (with_reducible refine (cubbyref11_has.calls k1 _ _ l0 x8_1 false _ ?side1 ?side2 A7.out).mono ?_); (case side1 => exact qCB HR0.out); (case side2 => exact HC0.out); rintro e w' ⟨rfl, ⟨nd, rfl⟩⟩; refine ⟨_, rfl, ?_⟩) | (go_at_call 105; (with_reducible refine (cubbyref11_has.calls k1 _ _ l1 x8_1 false _ ?side1 ?side2 A11.out).mono ?_); (case side1 => repeat (first | exact (Kd.C_below HR1.out qB) | (with_reducible refine Kd.C_alloc ?_ _) | (with_reducible refine Kd.C_drewN ?_ _) | (with_reducible refine Kd.C_drew ?_))); (case side2 => exact HC1.out); (try clear A11); rintro e w' ⟨rfl, ⟨nd, rfl⟩⟩))
      go_roundg k1
      case measure => have := HK1.out; omega
      case rel => exact ⟨(x7_1), (wrap64 (x8_1 + 1)), qT, H', ⟨by have := HK1.out; omega⟩, ⟨qR HO_7.out⟩, ⟨qB⟩⟩
   ·rw [if_neg c6] at H
    have c6b0 := decide_eq_false c6
    clear c6
    obtain rfl := Option.some.inj H
    go_wp2
    go_ret
    exact ⟨_, qE, qR HO_7.out, qB⟩

end Go.Proofs.YtebnnknijbgekaaDoor.Q
namespace Go.Proofs.YtebnnknijbgekaaDoor.Q
open Go.RowKit Go.Proofs.YtebnnknijbgekaaDoorW.PrintWords Go.Proofs.YtebnnknijbgekaaDoorW.PrintLast Go.Proofs.YtebnnknijbgekaaDoorW.PrintMore
attribute [local go_sem] max2_int min2_int max_two min_two max_three min_three max_four min_four   -- for this text's walks alone
set_option linter.unusedVariables false
set_option linter.unusedSimpArgs false

/-! ### cubbyref11_behind: function 76 -/
def cubbyref11_behind.l0 : Nat → List (List Int) → List Int → List Int → Int → ByteArray → Int → Int → List (List (SIns)) → Option (List Int)
 | 0, _, _, _, _, _, _, _, _ => none
 | k + 1, x1, x7, x8, x9, x316000, x316001, x316002, x316003 => if x9 < (x8.length : Int) then (if 0 ≤ x9 then (if 0 ≤ (rd x8 x9) then (if (rd x8 x9) < (x1.length : Int) then ((cubbyref11_union.f k x7 (rd_LInt x1 (rd x8 x9)) x316002).bind fun t324 => (cubbyref11_behind.l0 k x1 t324 x8 (wrap64 (x9 + 1)) x316000 x316001 x316002 x316003)) else (none)) else (none)) else (none)) else (some x7)
def cubbyref11_behind.f (k : Nat) (a0_0 : ByteArray) (a0_1 : Int) (a0_2 : Int) (l0_3 : List (List (SIns))) (l1 : List (List Int)) (a2 : Int) : Option (List Int) := (cubbyref09_Succs.f k l0_3 a2).bind fun t319 => (cubbyref11_behind.l0 k l1 (([] : List Int)) t319 0 a0_0 a0_1 a0_2 l0_3)
theorem cubbyref11_behind.mono_l : ∀ k, (∀ y0 y1 y2 y3 y4 y5 y6 y7, LeO (cubbyref11_behind.l0 k y0 y1 y2 y3 y4 y5 y6 y7) (cubbyref11_behind.l0 (k + 1) y0 y1 y2 y3 y4 y5 y6 y7))
 | 0 => fun _ _ _ _ _ _ _ _ r h => by simp [cubbyref11_behind.l0] at h
 | k + 1 => by
  have ih0 := cubbyref11_behind.mono_l k
  ·intro y0 y1 y2 y3 y4 y5 y6 y7
   unfold cubbyref11_behind.l0
   repeat' first | (with_reducible exact ih0 _ _ _ _ _ _ _ _) | (with_reducible exact cubbyref09_Succs.mono _ _ _) | (with_reducible exact cubbyref11_union.mono _ _ _ _) | (with_reducible exact LeO.refl _) | (with_reducible exact LeO.none _) | (with_reducible refine LeO.ite ?_ ?_) | (with_reducible refine LeO.bind ?_ (fun _ => ?_)) | exact LeO.none _ | refine LeO.ite ?_ ?_ | refine LeO.bind ?_ (fun _ => ?_)
theorem cubbyref11_behind.mono : ∀ a0 a1 a2 a3 a4 a5 k, LeO (cubbyref11_behind.f k a0 a1 a2 a3 a4 a5) (cubbyref11_behind.f (k + 1) a0 a1 a2 a3 a4 a5) := by
 intro a0 a1 a2 a3 a4 a5 k
 have ih0 := cubbyref11_behind.mono_l k
 unfold cubbyref11_behind.f
 repeat' first | (with_reducible exact ih0 _ _ _ _ _ _ _ _) | (with_reducible exact cubbyref09_Succs.mono _ _ _) | (with_reducible exact cubbyref11_union.mono _ _ _ _) | (with_reducible exact LeO.refl _) | (with_reducible exact LeO.none _) | (with_reducible refine LeO.ite ?_ ?_) | (with_reducible refine LeO.bind ?_ (fun _ => ?_)) | exact LeO.none _ | refine LeO.ite ?_ ?_ | refine LeO.bind ?_ (fun _ => ?_)
def cubbyref11_behind.T6 : Bool × List (List Nat × List Nat) := (true, [([], []), ([], []), ([], []), ([], []), ([2, 3], [2, 3]), ([4], [4]), ([1, 5], [1, 5]), ([6], [6]), ([], []), ([8], [8]), ([0, 7, 9], [0, 7, 9]), ([10, 10, 0, 1, 2, 3, 4, 5, 6, 7, 8, 9, 10], [0, 10])])
def cubbyref11_behind.B6 : List Nat := [0, 0, 0, 0, 12, 28, 62, 126, 0, 256, 1023, 2047]
theorem cubbyref11_behind.tab6 : rtab .any (opsOf Tryd.f76 6) = cubbyref11_behind.T6 := by kernel_rfl
theorem cubbyref11_behind.bits6 : waitsOk cubbyref11_behind.T6.2 cubbyref11_behind.B6 = true := by kernel_rfl
set_option maxHeartbeats 8000000 in
set_option maxRecDepth 100000 in
theorem cubbyref11_behind.calls (k : Nat) (a0_0 : ByteArray) (a0_1 : Int) (a0_2 : Int) (A0_3 : Option Addr) (c0_3 : Nat) (l0_3 : List (List (SIns))) (A1 : Option Addr) (c1 : Nat) (l1 : List (List Int)) (a2 : Int) (r : List Int) (w : World) (hr0_3 : Kd.C (Kd.slice 31 kIns) w A0_3 l0_3.length l0_3) (hc0_3 : l0_3.length ≤ c0_3) (hr1 : Kd.C (Kd.slice 3 (Kd.int .i64)) w A1 l1.length l1) (hc1 : l1.length ≤ c1) (h : cubbyref11_behind.f k a0_0 a0_1 a0_2 l0_3 l1 a2 = some r) :
  Calls Tryd.prog 76 #[.agg #[.string a0_0, .int .i64 a0_1, .int .i64 a0_2, .slice A0_3 l0_3.length c0_3], .slice A1 l1.length c1, .int .i64 a2] w fun e w' => ∃ v0_ : Value, e = .returned (v0_) ∧ Kd.R (Kd.int .i64) 3 w' w.heap.size (fun _ => True) v0_ r ∧ Below w.heap.size w w' := by
 have hu34 := Tryd.underlying34
 have HR0_3 := Aside0.mk hr0_3
 have HC0_3 := Aside0.mk hc0_3
 clear hr0_3 hc0_3
 have HR1 := Aside0.mk hr1
 have HC1 := Aside0.mk hc1
 clear hr1 hc1
 have HB := Aside0.mk (Below.refl w.heap.size w)
 have H := h; clear h; unfold cubbyref11_behind.f at H
 obtain ⟨y316, hy316⟩ : ∃ y_ : List Int, y_ = (([] : List Int)) := ⟨_, rfl⟩
 replace H : ((cubbyref09_Succs.f k l0_3 a2).bind fun t319 => (cubbyref11_behind.l0 k l1 y316 t319 0 a0_0 a0_1 a0_2 l0_3)) = some r := by first | (rw [hy316]; with_reducible exact H) | (have H2_ := (Option.bind_some _ _).symm.trans H; rw [hy316]; with_reducible exact H2_) | (have H2_ := (Option.bind_some _ _).symm.trans H; with_reducible exact H2_) | with_reducible exact H | (rw [hy316]; exact H) | exact H
 have Ny316 := Aside0.mk hy316
 clear hy316
 replace H := qb H; obtain ⟨t319, A4, H⟩ := H
 have H' := Aside0.mk H
 clear H
 go_enter Tryd.func76, Tryd.ntmps76
 go_wp2_with (first | ((with_reducible refine gate_dst (N := 3) rfl ?_); refine box_event (by rfl) (N := 3) (by rfl) (cs := #[.string a0_0, .int .i64 a0_1, .int .i64 a0_2, .slice A0_3 l0_3.length c0_3]) (t := 34) ?hr ?_; (case hr => first | (go_simp; done) | (go_simp; rfl)); intro gb315 hg w5 hbox hb; have BK315 := Aside0.mk (hbox); have GW315 := qG hg; have GE315 := GW315; replace HB := qH hb; clear hb hbox hg) | ((with_reducible refine gate_dst (N := 10) rfl ?_); refine Kd.R_lit (Kd.int .i64) _ 3 (by rfl) (N := 10) (by rfl) (xs := ([] : List Int)) (inner := []) (ok := fun _ => True) (okp := fun _ => True) ?hr ?hp (fun _ hk => hk) trivial (Below.refl _ _) (Nat.le_refl _) (by simp) ?_; (case hr => first | (go_simp; done) | (go_simp; rfl)); (case hp => exact (Reps.none _ _)); intro v317 w6 ho7 hb hg_ hnew_; clear hg_ hnew_; (first | rw [← Ny316.out] at ho7 | (simp only [Int.reduceToNat] at ho7; rw [← Ny316.out] at ho7)); have HO318 := Aside0.mk (Kd.R_lower ho7 (below_size qB)); replace BK315 := qW BK315 hb; replace HB := qH hb; clear hb ho7; obtain ⟨hcz8_0, hcz8_1, hcz8_2, hcz8_3, hfz8_0, hfz8_1, hfz8_2, hfz8_3⟩ := bk4 BK315.out) | ((with_reducible refine gate_callee (f := 96) rfl ?_); refine goesL_ (some 14) rfl rfl Tryd.func96 (by kernel_rfl) rfl #[.slice A0_3 l0_3.length c0_3, .int .i64 a2] rfl qL ?_; (with_reducible refine (cubbyref09_Succs.calls k _ _ l0_3 a2 t319 _ ?side1 ?side2 A4.out).mono ?_); (case side1 => exact qCB HR0_3.out); (case side2 => exact HC0_3.out); rintro e w9 ⟨v320, rfl, ho0, hb⟩; refine ⟨_, rfl, ?_⟩; have HO321 := Aside0.mk (Kd.R_lower (Kd.R_new' ho0 (Kd.R_lt (qR HO318.out))) (below_size qB)); replace HO318 := Aside0.mk (Kd.R_elder' (qR HO318.out) (Kd.R_base ho0) hb); replace BK315 := qW BK315 hb; replace HB := qH hb; (try clear hb); (try clear ho0)))
 go_loopg [7, 9] k (fun kq v7 v9 w' => ∃ (x7_1 : List Int) (x9_1 : Int), v9 = .int .i64 x9_1 ∧ Aside0 (cubbyref11_behind.l0 kq l1 x7_1 t319 x9_1 a0_0 a0_1 a0_2 l0_3 = some r) ∧ Aside0 (kq ≤ k) ∧ Aside0 (Kd.R (Kd.int .i64) 3 w' w.heap.size (fun k_ => some k_ ≠ (v320 : Value).ownBlock) v7 x7_1) ∧ Aside0 (Kd.R (Kd.int .i64) 3 w' w.heap.size (fun k_ => some k_ ≠ (v7 : Value).ownBlock) v320 t319) ∧ Aside0 (w'.heap[gb315]? = some (.cells #[.string a0_0, .int .i64 a0_1, .int .i64 a0_2, (.slice A0_3 l0_3.length c0_3)] 34 (0, 0))) ∧ Aside0 (Below w.heap.size w w'))
 case atStart => exact ⟨(y316), (0), qT, H', ⟨Nat.le_refl _⟩, ⟨by (with_reducible repeat (first | apply Kd.R_alloc | apply Kd.R_drewN | apply Kd.R_drew)); exact Kd.R_mono HO318.out (fun _ hk => hk.2)⟩, ⟨by (with_reducible repeat (first | apply Kd.R_alloc | apply Kd.R_drewN | apply Kd.R_drew)); exact Kd.R_mono HO321.out (fun _ hk => hk.2)⟩, ⟨qK BK315.out⟩, ⟨qB⟩⟩
 case round =>
  clear H'
  try clear c1; try clear p2; try clear c7; try clear c9; try clear hcz8_0 hcz8_1 hcz8_2 hcz8_3 hfz8_0 hfz8_1 hfz8_2 hfz8_3
  obtain ⟨x7_1, x9_1, rfl, HA, HK1, HO_7, HO_8, BK315, HB⟩ := hrel
  cases gk with
  | zero => exact absurd HA.out (by simp [cubbyref11_behind.l0])
  | succ k1 =>
   have H := HA.out
   clear HA
   simp only [cubbyref11_behind.l0] at H
   by_cases c10 : x9_1 < (t319.length : Int)
   ·rw [if_pos c10] at H
    have c10b0 := decide_eq_true c10
    clear c10
    by_cases c11 : 0 ≤ x9_1
    ·rw [if_pos c11] at H
     have c11b0 := decide_eq_true c11
     clear c11
     by_cases c12 : 0 ≤ (rd t319 x9_1)
     ·rw [if_pos c12] at H
      have c12b0 := decide_eq_true c12
      clear c12
      by_cases c13 : (rd t319 x9_1) < (l1.length : Int)
      ·rw [if_pos c13] at H
       have c13b0 := decide_eq_true c13
       clear c13
       replace H := qb H; obtain ⟨t324, A14, H⟩ := H
       have H' := Aside0.mk H
       clear H
       obtain ⟨Ao15, co15, eo15⟩ := Kd.R_slice HO_8.out
       subst eo15
       try go_wp2
       have n0_ := Aside0.mk (Kd.R_drew HO_7.out)
       have n1_ := Aside0.mk (Kd.R_drew HO_8.out)
       have n2_ := Aside0.mk (blk_drew BK315.out)
       have n3_ := Aside0.mk (below_drew1 HB.out)
       clear HO_7
       clear HO_8
       clear BK315
       clear HB
       have HO_7 := n0_
       have HO_8 := n1_
       have BK315 := n2_
       have HB := n3_
       clear n0_ n1_ n2_ n3_
       have p322 : 0 ≤ (x9_1 : Int) := of_decide_eq_true qA
       have q322 : x9_1 < (t319.length : Int) := of_decide_eq_true qA
       obtain ⟨ad322, e322, hx322_0⟩ := Kd.at_int (Kd.R_reads' HO_8.out).2.2 x9_1 p322 q322
       cases e322
       replace p322 := eq_true p322
       replace q322 := eq_true q322
       have p323 : 0 ≤ ((rd t319 x9_1) : Int) := of_decide_eq_true qA
       have q323 : (rd t319 x9_1) < (l1.length : Int) := of_decide_eq_true qA
       obtain ⟨ad323, A323_0, c323_0, e323, hx323_0, hl323_0, hi323_0⟩ := at_LInt HR1.out (rd t319 x9_1) p323 q323
       have hw323_0 := hx323_0
       cases e323
       replace hx323_0 := (HB.out.cell (World.block_lt_of_cell? w _ hx323_0)).trans hx323_0
       have HR323_0 := Aside0.mk hi323_0
       have HC323_0 := Aside0.mk hl323_0
       clear hi323_0 hl323_0
       replace p323 := eq_true p323
       replace q323 := eq_true q323
       obtain ⟨Ao17, co17, eo17⟩ := Kd.R_slice HO_7.out
       (first | subst eo17 | (injection eo17 with f1_ f2_ f3_; have f4_ := f1_.symm; have f5_ := f3_.symm; clear f1_ f2_ f3_; subst f4_; subst f5_))
       refine start_ (n := 12) (S := fun w' => w'.cell? ⟨gb315, 0, none⟩ = some (.string a0_0) ∧ w'.cell? ⟨gb315, 1, none⟩ = some (.int .i64 a0_1) ∧ w'.cell? ⟨gb315, 2, none⟩ = some (.int .i64 a0_2) ∧ w'.cell? ⟨gb315, 3, none⟩ = some (.slice A0_3 l0_3.length c0_3) ∧ w'.cell? (ad322.add (x9_1).toNat) = some (.int .i64 (rd t319 x9_1)) ∧ w'.cell? (ad323.add ((rd t319 x9_1)).toNat) = some (.slice A323_0 (rd_LInt l1 (rd t319 x9_1)).length c323_0)) (ds := []) #[false, false, false, false, false, false, false, false, false, false, false, false] (by kernel_rfl) rfl rfl ⟨(blk_cell BK315.out 0).trans rfl, (blk_cell BK315.out 1).trans rfl, (blk_cell BK315.out 2).trans rfl, (blk_cell BK315.out 3).trans rfl, hx322_0, ((HB.out.cell (World.block_lt_of_cell? w _ hw323_0)).trans hw323_0)⟩ (fun hHeld => ?_); refine with_tabW cubbyref11_behind.tab6 cubbyref11_behind.bits6 (fun HT_ HW_ => ?_)
       generalize wr.drew = w16 at HO_7 HO_8 BK315 HB HR323_0 hx322_0 hx323_0 hHeld ⊢
       refine pure_ (i := 0) (N := some 21) (v := ?_) (a' := ?_) #[true, false, false, false, false, false, false, false, false, false, false, false] rfl rfl (any_of HT_.out (by kernel_rfl)) (fun _ _ _ h => h) (Or.inl ⟨by rfl, ?_⟩) ?_ ?_
       rotate_left
       ·intro w'
        go_simp
        with_reducible rfl
       rotate_left
       ·simp only [Act.put, List.setIfInBounds_toArray, List.set_cons_zero, List.set_cons_succ, i64_w, i32_w]
        rfl
       refine pure_ (i := 1) (N := some 22) (v := ?_) (a' := ?_) #[true, true, false, false, false, false, false, false, false, false, false, false] rfl rfl (any_of HT_.out (by kernel_rfl)) (fun _ _ _ h => h) (Or.inl ⟨by rfl, ?_⟩) ?_ ?_
       rotate_left
       ·intro w'
        go_simp
        with_reducible rfl
       rotate_left
       ·simp only [Act.put, List.setIfInBounds_toArray, List.set_cons_zero, List.set_cons_succ, i64_w, i32_w]
        rfl
       refine pure_ (i := 2) (N := some 23) (v := ?_) (a' := ?_) #[true, true, true, false, false, false, false, false, false, false, false, false] rfl rfl (any_of HT_.out (by kernel_rfl)) (fun _ _ _ h => h) (Or.inl ⟨by rfl, ?_⟩) ?_ ?_
       rotate_left
       ·intro w'
        go_simp
        with_reducible rfl
       rotate_left
       ·simp only [Act.put, List.setIfInBounds_toArray, List.set_cons_zero, List.set_cons_succ, i64_w, i32_w]
        rfl
       refine pure_ (i := 3) (N := some 24) (v := ?_) (a' := ?_) #[true, true, true, true, false, false, false, false, false, false, false, false] rfl rfl (any_of HT_.out (by kernel_rfl)) (fun _ _ _ h => h) (Or.inl ⟨by rfl, ?_⟩) ?_ ?_
       rotate_left
       ·intro w'
        go_simp
        with_reducible rfl
       rotate_left
       ·simp only [Act.put, List.setIfInBounds_toArray, List.set_cons_zero, List.set_cons_succ, i64_w, i32_w]
        rfl
       refine pure_ (i := 4) (N := some 25) (v := ?_) (a' := ?_) #[true, true, true, true, true, false, false, false, false, false, false, false] rfl rfl (any_of HT_.out (by kernel_rfl)) (fun _ _ _ h => h) (Or.inl ⟨by rfl, ?_⟩) ?_ ?_
       rotate_left
       ·intro w'
        go_simp
        with_reducible rfl
       rotate_left
       ·simp only [Act.put, List.setIfInBounds_toArray, List.set_cons_zero, List.set_cons_succ, i64_w, i32_w]
        rfl
       refine pure_ (i := 8) (N := some 29) (v := ?_) (a' := ?_) #[true, true, true, true, true, false, false, false, true, false, false, false] rfl rfl (any_of HT_.out (by kernel_rfl)) (fun _ _ _ h => h) (Or.inl ⟨by rfl, ?_⟩) ?_ ?_
       rotate_left
       ·intro w'
        go_simp
        with_reducible rfl
       rotate_left
       ·simp only [Act.put, List.setIfInBounds_toArray, List.set_cons_zero, List.set_cons_succ, i64_w, i32_w]
        rfl
       refine take_ (i := 5) (N := some 26) (v := ?_) (a' := ?_) #[true, true, true, true, true, true, false, false, true, false, false, false] rfl rfl (take_ofW HT_.out HW_.out (by kernel_rfl)) (fun _ _ _ h => h) (Or.inl ⟨by rfl, ?_⟩) hHeld ?_ ?_
       rotate_left
       ·rintro w' ⟨s0, s1, s2, s3, s4, s5⟩
        go_simp
        with_reducible rfl
       rotate_left
       ·simp only [Act.put, List.setIfInBounds_toArray, List.set_cons_zero, List.set_cons_succ, i64_w, i32_w]
        rfl
       refine pure_ (i := 6) (N := some 27) (v := ?_) (a' := ?_) #[true, true, true, true, true, true, true, false, true, false, false, false] rfl rfl (any_of HT_.out (by kernel_rfl)) (fun _ _ _ h => h) (Or.inl ⟨by rfl, ?_⟩) ?_ ?_
       rotate_left
       ·intro w'
        go_simp
        with_reducible rfl
       rotate_left
       ·simp only [Act.put, List.setIfInBounds_toArray, List.set_cons_zero, List.set_cons_succ, i64_w, i32_w]
        rfl
       refine take_ (i := 7) (N := some 28) (v := ?_) (a' := ?_) #[true, true, true, true, true, true, true, true, true, false, false, false] rfl rfl (take_ofW HT_.out HW_.out (by kernel_rfl)) (fun _ _ _ h => h) (Or.inl ⟨by rfl, ?_⟩) hHeld ?_ ?_
       rotate_left
       ·rintro w' ⟨s0, s1, s2, s3, s4, s5⟩
        go_simp
        with_reducible rfl
       rotate_left
       ·simp only [Act.put, List.setIfInBounds_toArray, List.set_cons_zero, List.set_cons_succ, i64_w, i32_w]
        rfl
       refine take_ (i := 9) (N := some 30) (v := ?_) (a' := ?_) #[true, true, true, true, true, true, true, true, true, true, false, false] rfl rfl (take_ofW HT_.out HW_.out (by kernel_rfl)) (fun _ _ _ h => h) (Or.inl ⟨by rfl, ?_⟩) hHeld ?_ ?_
       rotate_left
       ·rintro w' ⟨s0, s1, s2, s3, s4, s5⟩
        go_simp
        with_reducible rfl
       rotate_left
       ·simp only [Act.put, List.setIfInBounds_toArray, List.set_cons_zero, List.set_cons_succ, i64_w, i32_w]
        rfl
       refine one_ (i := 10) (N := some 31) #[true, true, true, true, true, true, true, true, true, true, true, false] rfl rfl (one_of HT_.out (by kernel_rfl)) (by decide) (fun K hK => ?_)
       refine goes_ Tryd.func97 (by kernel_rfl) rfl #[.slice Ao17 x7_1.length co17, .slice A323_0 (rd_LInt l1 (rd t319 x9_1)).length c323_0, .int .i64 a0_2] (by rfl) rfl rfl qL ?_
       with_reducible refine (cubbyref11_union.calls k1 _ _ x7_1 _ _ (rd_LInt l1 (rd t319 x9_1)) a0_2 t324 _ ?side1 ?side2 ?side3 ?side4 A14.out).mono ?_
       (case side1 => repeat (first | exact (Kd.R_reads' HO_7.out).2.2 | (with_reducible refine Kd.C_alloc ?_ _) | (with_reducible refine Kd.C_drewN ?_ _) | (with_reducible refine Kd.C_drew ?_)))
       (case side2 => exact (Kd.R_reads' HO_7.out).2.1)
       (case side3 => exact qCB HR323_0.out)
       (case side4 => exact HC323_0.out)
       rintro e w18 ⟨v325, rfl, ho0, hb⟩
       have HS4_ := (hb.cell (World.block_lt_of_cell? _ _ (hHeld.2.2.2.2.1))).trans (hHeld.2.2.2.2.1)
       refine ⟨_, rfl, ?_⟩
       have n0_ := Aside0.mk (Kd.R_elder' (qR HO_7.out) (Kd.R_base ho0) hb)
       have n1_ := Aside0.mk (Kd.R_elder' (qR HO_8.out) (Kd.R_base ho0) hb)
       have n2_ := Aside0.mk (Kd.R_lower (Kd.R_new' (Kd.R_new' ho0 (Kd.R_lt (qR HO_7.out))) (Kd.R_lt (qR HO_8.out))) (below_size qB))
       have n3_ := qW BK315 hb
       have n4_ := qH hb
       clear HO_7
       clear HO_8
       clear BK315
       clear HB
       have HO_7 := n0_
       have HO_8 := n1_
       have HO326 := n2_
       have BK315 := n3_
       have HB := n4_
       clear n0_ n1_ n2_ n3_ n4_
       (try clear hb)
       (try clear hb2)
       (try clear hk)
       (try clear hi)
       (try clear ho0)
       refine hK.out _ _ ⟨(blk_cell BK315.out 0).trans rfl, (blk_cell BK315.out 1).trans rfl, (blk_cell BK315.out 2).trans rfl, (blk_cell BK315.out 3).trans rfl, HS4_, ((HB.out.cell (World.block_lt_of_cell? w _ hw323_0)).trans hw323_0)⟩ (fun hHeld => ?_)
       clear hK K
       refine norm_ (a' := ?_) ?_ ?_
       rotate_left
       ·show Act.put _ (some 31) _ = _
        simp only [Act.put, List.setIfInBounds_toArray, List.set_cons_zero, List.set_cons_succ, i64_w, i32_w]
        rfl
       refine pure_ (i := 11) (N := some 7) (v := ?_) (a' := ?_) #[true, true, true, true, true, true, true, true, true, true, true, true] rfl rfl (any_of HT_.out (by kernel_rfl)) (fun _ _ _ h => h) (Or.inl ⟨by rfl, ?_⟩) ?_ ?_
       rotate_left
       ·intro w'
        go_simp
        with_reducible rfl
       rotate_left
       ·simp only [Act.put, List.setIfInBounds_toArray, List.set_cons_zero, List.set_cons_succ, i64_w, i32_w]
        rfl
       refine done_ (done_of HT_.out (by kernel_rfl)) ?_
       try go_wp2
       go_roundg k1
       case measure => have := HK1.out; omega
       case rel => exact ⟨(t324), (wrap64 (x9_1 + 1)), qT, H', ⟨by have := HK1.out; omega⟩, ⟨by (with_reducible repeat (first | apply Kd.R_alloc | apply Kd.R_drewN | apply Kd.R_drew)); exact Kd.R_mono HO326.out (fun _ hk => hk.2)⟩, ⟨by (with_reducible repeat (first | apply Kd.R_alloc | apply Kd.R_drewN | apply Kd.R_drew)); exact Kd.R_mono HO_8.out (fun _ hk => hk.2)⟩, ⟨qK BK315.out⟩, ⟨qB⟩⟩
      ·rw [if_neg c13] at H
       exact absurd H (by simp)
     ·rw [if_neg c12] at H
      exact absurd H (by simp)
    ·rw [if_neg c11] at H
     exact absurd H (by simp)
   ·rw [if_neg c10] at H
    have c10b0 := decide_eq_false c10
    clear c10
    obtain rfl := Option.some.inj H
    obtain ⟨Ao19, co19, eo19⟩ := Kd.R_slice HO_8.out
    subst eo19
    go_wp2
    go_ret
    exact ⟨_, qE, by (with_reducible repeat (first | apply Kd.R_alloc | apply Kd.R_drewN | apply Kd.R_drew)); exact Kd.R_mono HO_7.out (fun _ hk => trivial), qB⟩

end Go.Proofs.YtebnnknijbgekaaDoor.Q
namespace Go.Proofs.YtebnnknijbgekaaDoor.Q
open Go.RowKit Go.Proofs.YtebnnknijbgekaaDoorW.PrintWords Go.Proofs.YtebnnknijbgekaaDoorW.PrintLast Go.Proofs.YtebnnknijbgekaaDoorW.PrintMore
attribute [local go_sem] max2_int min2_int max_two min_two max_three min_three max_four min_four   -- for this text's walks alone
set_option linter.unusedVariables false
set_option linter.unusedSimpArgs false

/-! ### cubbyref11_through: function 77 -/
def cubbyref11_through.l0 : Nat → List Int → Int → List Int → Int → Int → Int → Int → Int → ByteArray → List Int → Option (List Int)
 | 0, _, _, _, _, _, _, _, _, _, _ => none
 | k + 1, x1, x2, x7, x8, x328000, x328001, x328002, x328003, x328004, x328005 => if x8 < (x1.length : Int) then (if 0 ≤ x8 then ((cubbyref07_Def.f x328000 x328001 x328002 x328003 x328004 x328005).bind fun t332 => (if (rd x1 x8) = t332 then (cubbyref11_through.l0 k x1 x2 x7 (wrap64 (x8 + 1)) x328000 x328001 x328002 x328003 x328004 x328005) else (if x7.length < 17592186044416 then (cubbyref11_through.l0 k x1 x2 (x7 ++ [rd x1 x8]) (wrap64 (x8 + 1)) x328000 x328001 x328002 x328003 x328004 x328005) else (none)))) else (none)) else ((cubbyref07_Uses.f k x328000 x328001 x328002 x328003 x328004 x328005).bind fun t337 => ((cubbyref11_union.f k x7 t337 x2).bind fun t340 => (some t340)))
def cubbyref11_through.f (k : Nat) (a0_0 : Int) (a0_1 : Int) (a0_2 : Int) (a0_3 : Int) (a0_4 : ByteArray) (l0_5 : List Int) (l1 : List Int) (a2 : Int) : Option (List Int) := cubbyref11_through.l0 k l1 a2 (([] : List Int)) 0 a0_0 a0_1 a0_2 a0_3 a0_4 l0_5
theorem cubbyref11_through.mono_l : ∀ k, (∀ y0 y1 y2 y3 y4 y5 y6 y7 y8 y9, LeO (cubbyref11_through.l0 k y0 y1 y2 y3 y4 y5 y6 y7 y8 y9) (cubbyref11_through.l0 (k + 1) y0 y1 y2 y3 y4 y5 y6 y7 y8 y9))
 | 0 => fun _ _ _ _ _ _ _ _ _ _ r h => by simp [cubbyref11_through.l0] at h
 | k + 1 => by
  have ih0 := cubbyref11_through.mono_l k
  ·intro y0 y1 y2 y3 y4 y5 y6 y7 y8 y9
   unfold cubbyref11_through.l0
   repeat' first | (with_reducible exact ih0 _ _ _ _ _ _ _ _ _ _) | (with_reducible exact cubbyref07_Uses.mono _ _ _ _ _ _ _) | (with_reducible exact cubbyref11_union.mono _ _ _ _) | (with_reducible exact LeO.refl _) | (with_reducible exact LeO.none _) | (with_reducible refine LeO.ite ?_ ?_) | (with_reducible refine LeO.bind ?_ (fun _ => ?_)) | exact LeO.none _ | refine LeO.ite ?_ ?_ | refine LeO.bind ?_ (fun _ => ?_)
theorem cubbyref11_through.mono : ∀ a0 a1 a2 a3 a4 a5 a6 a7 k, LeO (cubbyref11_through.f k a0 a1 a2 a3 a4 a5 a6 a7) (cubbyref11_through.f (k + 1) a0 a1 a2 a3 a4 a5 a6 a7) := by
 intro a0 a1 a2 a3 a4 a5 a6 a7 k
 have ih0 := cubbyref11_through.mono_l k
 unfold cubbyref11_through.f
 repeat' first | (with_reducible exact ih0 _ _ _ _ _ _ _ _ _ _) | (with_reducible exact cubbyref07_Uses.mono _ _ _ _ _ _ _) | (with_reducible exact cubbyref11_union.mono _ _ _ _) | (with_reducible exact LeO.refl _) | (with_reducible exact LeO.none _) | (with_reducible refine LeO.ite ?_ ?_) | (with_reducible refine LeO.bind ?_ (fun _ => ?_)) | exact LeO.none _ | refine LeO.ite ?_ ?_ | refine LeO.bind ?_ (fun _ => ?_)
set_option maxHeartbeats 8000000 in
set_option maxRecDepth 100000 in
theorem cubbyref11_through.calls (k : Nat) (a0_0 : Int) (a0_1 : Int) (a0_2 : Int) (a0_3 : Int) (a0_4 : ByteArray) (A0_5 : Option Addr) (c0_5 : Nat) (l0_5 : List Int) (A1 : Option Addr) (c1 : Nat) (l1 : List Int) (a2 : Int) (r : List Int) (w : World) (hr0_5 : Kd.C (Kd.int .i64) w A0_5 l0_5.length l0_5) (hc0_5 : l0_5.length ≤ c0_5) (hr1 : Kd.C (Kd.int .i64) w A1 l1.length l1) (hc1 : l1.length ≤ c1) (h : cubbyref11_through.f k a0_0 a0_1 a0_2 a0_3 a0_4 l0_5 l1 a2 = some r) :
  Calls Tryd.prog 77 #[.agg #[.int .i64 a0_0, .int .i64 a0_1, .int .i64 a0_2, .int .i64 a0_3, .string a0_4, .slice A0_5 l0_5.length c0_5], .slice A1 l1.length c1, .int .i64 a2] w fun e w' => ∃ v0_ : Value, e = .returned (v0_) ∧ Kd.R (Kd.int .i64) 3 w' w.heap.size (fun _ => True) v0_ r ∧ Below w.heap.size w w' := by
 have hu31 := Tryd.underlying31
 have HR0_5 := Aside0.mk hr0_5
 have HC0_5 := Aside0.mk hc0_5
 clear hr0_5 hc0_5
 have HR1 := Aside0.mk hr1
 have HC1 := Aside0.mk hc1
 clear hr1 hc1
 have HB := Aside0.mk (Below.refl w.heap.size w)
 have H := h; clear h; unfold cubbyref11_through.f at H
 obtain ⟨y328, hy328⟩ : ∃ y_ : List Int, y_ = (([] : List Int)) := ⟨_, rfl⟩
 replace H : (cubbyref11_through.l0 k l1 a2 y328 0 a0_0 a0_1 a0_2 a0_3 a0_4 l0_5) = some r := by first | (rw [hy328]; with_reducible exact H) | (have H2_ := (Option.bind_some _ _).symm.trans H; rw [hy328]; with_reducible exact H2_) | (have H2_ := (Option.bind_some _ _).symm.trans H; with_reducible exact H2_) | with_reducible exact H | (rw [hy328]; exact H) | exact H
 have Ny328 := Aside0.mk hy328
 clear hy328
 have H' := Aside0.mk H
 clear H
 go_enter Tryd.func77, Tryd.ntmps77
 go_wp2_with (first | ((with_reducible refine gate_dst (N := 3) rfl ?_); refine box_event (by rfl) (N := 3) (by rfl) (cs := #[.int .i64 a0_0, .int .i64 a0_1, .int .i64 a0_2, .int .i64 a0_3, .string a0_4, .slice A0_5 l0_5.length c0_5]) (t := 31) ?hr ?_; (case hr => first | (go_simp; done) | (go_simp; rfl)); intro gb327 hg w4 hbox hb; have BK327 := Aside0.mk (hbox); have GW327 := qG hg; have GE327 := GW327; replace HB := qH hb; clear hb hbox hg) | ((with_reducible refine gate_dst (N := 9) rfl ?_); refine Kd.R_lit (Kd.int .i64) _ 3 (by rfl) (N := 9) (by rfl) (xs := ([] : List Int)) (inner := []) (ok := fun _ => True) (okp := fun _ => True) ?hr ?hp (fun _ hk => hk) trivial (Below.refl _ _) (Nat.le_refl _) (by simp) ?_; (case hr => first | (go_simp; done) | (go_simp; rfl)); (case hp => exact (Reps.none _ _)); intro v329 w5 ho6 hb hg_ hnew_; clear hg_ hnew_; (first | rw [← Ny328.out] at ho6 | (simp only [Int.reduceToNat] at ho6; rw [← Ny328.out] at ho6)); have HO330 := Aside0.mk (Kd.R_lower ho6 (below_size qB)); replace BK327 := qW BK327 hb; replace HB := qH hb; clear hb ho6))
 go_loopg [7, 8] k (fun kq v7 v8 w' => ∃ (x7_1 : List Int) (x8_1 : Int), v8 = .int .i64 x8_1 ∧ Aside0 (cubbyref11_through.l0 kq l1 a2 x7_1 x8_1 a0_0 a0_1 a0_2 a0_3 a0_4 l0_5 = some r) ∧ Aside0 (kq ≤ k) ∧ Aside0 (Kd.R (Kd.int .i64) 3 w' w.heap.size (fun _ => True) v7 x7_1) ∧ Aside0 (w'.heap[gb327]? = some (.cells #[.int .i64 a0_0, .int .i64 a0_1, .int .i64 a0_2, .int .i64 a0_3, .string a0_4, (.slice A0_5 l0_5.length c0_5)] 31 (0, 0))) ∧ Aside0 (Below w.heap.size w w'))
 case atStart => exact ⟨(y328), (0), qT, H', ⟨Nat.le_refl _⟩, ⟨qR HO330.out⟩, ⟨qK BK327.out⟩, ⟨qB⟩⟩
 case round =>
  clear H'
  try clear c1; try clear p2
  obtain ⟨x7_1, x8_1, rfl, HA, HK1, HO_7, BK327, HB⟩ := hrel
  cases gk with
  | zero => exact absurd HA.out (by simp [cubbyref11_through.l0])
  | succ k1 =>
   have H := HA.out
   clear HA
   simp only [cubbyref11_through.l0] at H
   by_cases c7 : x8_1 < (l1.length : Int)
   ·rw [if_pos c7] at H
    have c7b0 := decide_eq_true c7
    clear c7
    by_cases c8 : 0 ≤ x8_1
    ·rw [if_pos c8] at H
     have c8b0 := decide_eq_true c8
     clear c8
     replace H := qb H; obtain ⟨t332, A9, H⟩ := H
     by_cases c10 : (rd l1 x8_1) = t332
     ·rw [if_pos c10] at H
      obtain ⟨c10b0, c10b1⟩ := qe c10; clear c10
      have H' := Aside0.mk H
      clear H
      try go_wp2
      have n0_ := Aside0.mk (Kd.R_drew HO_7.out)
      have n1_ := Aside0.mk (blk_drew BK327.out)
      have n2_ := Aside0.mk (below_drew1 HB.out)
      clear HO_7
      clear BK327
      clear HB
      have HO_7 := n0_
      have BK327 := n1_
      have HB := n2_
      clear n0_ n1_ n2_
      have p331 : 0 ≤ (x8_1 : Int) := of_decide_eq_true qA
      have q331 : x8_1 < (l1.length : Int) := of_decide_eq_true qA
      obtain ⟨ad331, e331, hx331_0⟩ := Kd.at_int HR1.out x8_1 p331 q331
      have hw331_0 := hx331_0
      cases e331
      replace hx331_0 := (HB.out.cell (World.block_lt_of_cell? w _ hx331_0)).trans hx331_0
      replace p331 := eq_true p331
      replace q331 := eq_true q331
      refine start_ (n := 7) (S := fun w' => w'.cell? ⟨gb327, 0, none⟩ = some (.int .i64 a0_0) ∧ w'.cell? ⟨gb327, 1, none⟩ = some (.int .i64 a0_1) ∧ w'.cell? ⟨gb327, 2, none⟩ = some (.int .i64 a0_2) ∧ w'.cell? ⟨gb327, 3, none⟩ = some (.int .i64 a0_3) ∧ w'.cell? ⟨gb327, 4, none⟩ = some (.string a0_4) ∧ w'.cell? ⟨gb327, 5, none⟩ = some (.slice A0_5 l0_5.length c0_5) ∧ w'.cell? (ad331.add (x8_1).toNat) = some (.int .i64 (rd l1 x8_1))) (ds := []) #[false, false, false, false, false, false, false] (by kernel_rfl) rfl rfl ⟨(blk_cell BK327.out 0).trans rfl, (blk_cell BK327.out 1).trans rfl, (blk_cell BK327.out 2).trans rfl, (blk_cell BK327.out 3).trans rfl, (blk_cell BK327.out 4).trans rfl, (blk_cell BK327.out 5).trans rfl, ((HB.out.cell (World.block_lt_of_cell? w _ hw331_0)).trans hw331_0)⟩ (fun hHeld => ?_)
      generalize wr.drew = w11 at HO_7 BK327 HB hx331_0 hHeld ⊢
      refine pure_ (i := 0) (N := some 16) (v := ?_) (a' := ?_) #[true, false, false, false, false, false, false] rfl rfl (by kernel_rfl) (fun _ _ _ h => h) (Or.inl ⟨by rfl, ?_⟩) ?_ ?_
      rotate_left
      ·intro w'
       go_simp
       with_reducible rfl
      rotate_left
      ·simp only [Act.put, List.setIfInBounds_toArray, List.set_cons_zero, List.set_cons_succ, i64_w, i32_w]
       rfl
      refine pure_ (i := 1) (N := some 17) (v := ?_) (a' := ?_) #[true, true, false, false, false, false, false] rfl rfl (by kernel_rfl) (fun _ _ _ h => h) (Or.inl ⟨by rfl, ?_⟩) ?_ ?_
      rotate_left
      ·intro w'
       go_simp
       with_reducible rfl
      rotate_left
      ·simp only [Act.put, List.setIfInBounds_toArray, List.set_cons_zero, List.set_cons_succ, i64_w, i32_w]
       rfl
      refine pure_ (i := 2) (N := some 18) (v := ?_) (a' := ?_) #[true, true, true, false, false, false, false] rfl rfl (by kernel_rfl) (fun _ _ _ h => h) (Or.inl ⟨by rfl, ?_⟩) ?_ ?_
      rotate_left
      ·intro w'
       go_simp
       with_reducible rfl
      rotate_left
      ·simp only [Act.put, List.setIfInBounds_toArray, List.set_cons_zero, List.set_cons_succ, i64_w, i32_w]
       rfl
      refine take_ (i := 3) (N := some 19) (v := ?_) (a' := ?_) #[true, true, true, true, false, false, false] rfl rfl (by kernel_rfl) (fun _ _ _ h => h) (Or.inl ⟨by rfl, ?_⟩) hHeld ?_ ?_
      rotate_left
      ·rintro w' ⟨s0, s1, s2, s3, s4, s5, s6⟩
       go_simp
       with_reducible rfl
      rotate_left
      ·simp only [Act.put, List.setIfInBounds_toArray, List.set_cons_zero, List.set_cons_succ, i64_w, i32_w]
       rfl
      refine take_ (i := 4) (N := some 20) (v := ?_) (a' := ?_) #[true, true, true, true, true, false, false] rfl rfl (by kernel_rfl) (fun _ _ _ h => h) (Or.inl ⟨by rfl, ?_⟩) hHeld ?_ ?_
      rotate_left
      ·rintro w' ⟨s0, s1, s2, s3, s4, s5, s6⟩
       go_simp
       with_reducible rfl
      rotate_left
      ·simp only [Act.put, List.setIfInBounds_toArray, List.set_cons_zero, List.set_cons_succ, i64_w, i32_w]
       rfl
      refine one_ (i := 5) (N := some 21) #[true, true, true, true, true, true, false] rfl rfl (by kernel_rfl) (by decide) (fun K hK => ?_)
      refine goes_ Tryd.func26 (by kernel_rfl) rfl #[.agg #[.int .i64 a0_0, .int .i64 a0_1, .int .i64 a0_2, .int .i64 a0_3, .string a0_4, .slice A0_5 l0_5.length c0_5]] (by rfl) rfl rfl qL ?_
      with_reducible refine (cubbyref07_Def.calls a0_0 a0_1 a0_2 a0_3 a0_4 _ _ l0_5 t332 _ ?side1 ?side2 A9.out).mono ?_
      (case side1 => exact qCB HR0_5.out)
      (case side2 => exact HC0_5.out)
      rintro e w12 ⟨rfl, hb⟩
      refine ⟨_, rfl, ?_⟩
      have n0_ := Aside0.mk (Kd.R_below (qR HO_7.out) hb)
      have n1_ := qW BK327 hb
      have n2_ := qH hb
      clear HO_7
      clear BK327
      clear HB
      have HO_7 := n0_
      have BK327 := n1_
      have HB := n2_
      clear n0_ n1_ n2_
      (try clear hb)
      (try clear hb2)
      (try clear hk)
      (try clear hi)
      refine hK.out _ _ ⟨(blk_cell BK327.out 0).trans rfl, (blk_cell BK327.out 1).trans rfl, (blk_cell BK327.out 2).trans rfl, (blk_cell BK327.out 3).trans rfl, (blk_cell BK327.out 4).trans rfl, (blk_cell BK327.out 5).trans rfl, ((HB.out.cell (World.block_lt_of_cell? w _ hw331_0)).trans hw331_0)⟩ (fun hHeld => ?_)
      clear hK K
      refine norm_ (a' := ?_) ?_ ?_
      rotate_left
      ·show Act.put _ (some 21) _ = _
       simp only [Act.put, List.setIfInBounds_toArray, List.set_cons_zero, List.set_cons_succ, i64_w, i32_w]
       rfl
      refine pure_ (i := 6) (N := some 22) (v := ?_) (a' := ?_) #[true, true, true, true, true, true, true] rfl rfl (by kernel_rfl) (fun _ _ _ h => h) (Or.inl ⟨by rfl, ?_⟩) ?_ ?_
      rotate_left
      ·intro w'
       go_simp
       with_reducible rfl
      rotate_left
      ·simp only [Act.put, List.setIfInBounds_toArray, List.set_cons_zero, List.set_cons_succ, i64_w, i32_w]
       rfl
      refine done_ (by kernel_rfl) ?_
      try go_wp2
      go_roundg k1
      case measure => have := HK1.out; omega
      case rel => exact ⟨(x7_1), (wrap64 (x8_1 + 1)), qT, H', ⟨by have := HK1.out; omega⟩, ⟨qR HO_7.out⟩, ⟨qK BK327.out⟩, ⟨qB⟩⟩
     ·rw [if_neg c10] at H
      obtain ⟨c10b0, c10b1⟩ := qn c10
      by_cases c13 : x7_1.length < 17592186044416
      ·rw [if_pos c13] at H
       have LMc13 := Aside0.mk c13
       clear c13
       obtain ⟨y334, hy334⟩ : ∃ y_ : List Int, y_ = (x7_1 ++ [rd l1 x8_1]) := ⟨_, rfl⟩
       replace H : (cubbyref11_through.l0 k1 l1 a2 y334 (wrap64 (x8_1 + 1)) a0_0 a0_1 a0_2 a0_3 a0_4 l0_5) = some r := by first | (rw [hy334]; with_reducible exact H) | (have H2_ := (Option.bind_some _ _).symm.trans H; rw [hy334]; with_reducible exact H2_) | (have H2_ := (Option.bind_some _ _).symm.trans H; with_reducible exact H2_) | with_reducible exact H | (rw [hy334]; exact H) | exact H
       have Ny334 := Aside0.mk hy334
       clear hy334
       have H' := Aside0.mk H
       clear H
       try go_wp2
       have n0_ := Aside0.mk (Kd.R_drew HO_7.out)
       have n1_ := Aside0.mk (blk_drew BK327.out)
       have n2_ := Aside0.mk (below_drew1 HB.out)
       clear HO_7
       clear BK327
       clear HB
       have HO_7 := n0_
       have BK327 := n1_
       have HB := n2_
       clear n0_ n1_ n2_
       have p331 : 0 ≤ (x8_1 : Int) := of_decide_eq_true qA
       have q331 : x8_1 < (l1.length : Int) := of_decide_eq_true qA
       obtain ⟨ad331, e331, hx331_0⟩ := Kd.at_int HR1.out x8_1 p331 q331
       have hw331_0 := hx331_0
       cases e331
       replace hx331_0 := (HB.out.cell (World.block_lt_of_cell? w _ hx331_0)).trans hx331_0
       replace p331 := eq_true p331
       replace q331 := eq_true q331
       refine start_ (n := 7) (S := fun w' => w'.cell? ⟨gb327, 0, none⟩ = some (.int .i64 a0_0) ∧ w'.cell? ⟨gb327, 1, none⟩ = some (.int .i64 a0_1) ∧ w'.cell? ⟨gb327, 2, none⟩ = some (.int .i64 a0_2) ∧ w'.cell? ⟨gb327, 3, none⟩ = some (.int .i64 a0_3) ∧ w'.cell? ⟨gb327, 4, none⟩ = some (.string a0_4) ∧ w'.cell? ⟨gb327, 5, none⟩ = some (.slice A0_5 l0_5.length c0_5) ∧ w'.cell? (ad331.add (x8_1).toNat) = some (.int .i64 (rd l1 x8_1))) (ds := []) #[false, false, false, false, false, false, false] (by kernel_rfl) rfl rfl ⟨(blk_cell BK327.out 0).trans rfl, (blk_cell BK327.out 1).trans rfl, (blk_cell BK327.out 2).trans rfl, (blk_cell BK327.out 3).trans rfl, (blk_cell BK327.out 4).trans rfl, (blk_cell BK327.out 5).trans rfl, ((HB.out.cell (World.block_lt_of_cell? w _ hw331_0)).trans hw331_0)⟩ (fun hHeld => ?_)
       generalize wr.drew = w14 at HO_7 BK327 HB hx331_0 hHeld ⊢
       refine pure_ (i := 0) (N := some 16) (v := ?_) (a' := ?_) #[true, false, false, false, false, false, false] rfl rfl (by kernel_rfl) (fun _ _ _ h => h) (Or.inl ⟨by rfl, ?_⟩) ?_ ?_
       rotate_left
       ·intro w'
        go_simp
        with_reducible rfl
       rotate_left
       ·simp only [Act.put, List.setIfInBounds_toArray, List.set_cons_zero, List.set_cons_succ, i64_w, i32_w]
        rfl
       refine pure_ (i := 1) (N := some 17) (v := ?_) (a' := ?_) #[true, true, false, false, false, false, false] rfl rfl (by kernel_rfl) (fun _ _ _ h => h) (Or.inl ⟨by rfl, ?_⟩) ?_ ?_
       rotate_left
       ·intro w'
        go_simp
        with_reducible rfl
       rotate_left
       ·simp only [Act.put, List.setIfInBounds_toArray, List.set_cons_zero, List.set_cons_succ, i64_w, i32_w]
        rfl
       refine pure_ (i := 2) (N := some 18) (v := ?_) (a' := ?_) #[true, true, true, false, false, false, false] rfl rfl (by kernel_rfl) (fun _ _ _ h => h) (Or.inl ⟨by rfl, ?_⟩) ?_ ?_
       rotate_left
       ·intro w'
        go_simp
        with_reducible rfl
       rotate_left
       ·simp only [Act.put, List.setIfInBounds_toArray, List.set_cons_zero, List.set_cons_succ, i64_w, i32_w]
        rfl
       refine take_ (i := 3) (N := some 19) (v := ?_) (a' := ?_) #[true, true, true, true, false, false, false] rfl rfl (by kernel_rfl) (fun _ _ _ h => h) (Or.inl ⟨by rfl, ?_⟩) hHeld ?_ ?_
       rotate_left
       ·rintro w' ⟨s0, s1, s2, s3, s4, s5, s6⟩
        go_simp
        with_reducible rfl
       rotate_left
       ·simp only [Act.put, List.setIfInBounds_toArray, List.set_cons_zero, List.set_cons_succ, i64_w, i32_w]
        rfl
       refine take_ (i := 4) (N := some 20) (v := ?_) (a' := ?_) #[true, true, true, true, true, false, false] rfl rfl (by kernel_rfl) (fun _ _ _ h => h) (Or.inl ⟨by rfl, ?_⟩) hHeld ?_ ?_
       rotate_left
       ·rintro w' ⟨s0, s1, s2, s3, s4, s5, s6⟩
        go_simp
        with_reducible rfl
       rotate_left
       ·simp only [Act.put, List.setIfInBounds_toArray, List.set_cons_zero, List.set_cons_succ, i64_w, i32_w]
        rfl
       refine one_ (i := 5) (N := some 21) #[true, true, true, true, true, true, false] rfl rfl (by kernel_rfl) (by decide) (fun K hK => ?_)
       refine goes_ Tryd.func26 (by kernel_rfl) rfl #[.agg #[.int .i64 a0_0, .int .i64 a0_1, .int .i64 a0_2, .int .i64 a0_3, .string a0_4, .slice A0_5 l0_5.length c0_5]] (by rfl) rfl rfl qL ?_
       with_reducible refine (cubbyref07_Def.calls a0_0 a0_1 a0_2 a0_3 a0_4 _ _ l0_5 t332 _ ?side1 ?side2 A9.out).mono ?_
       (case side1 => exact qCB HR0_5.out)
       (case side2 => exact HC0_5.out)
       rintro e w15 ⟨rfl, hb⟩
       refine ⟨_, rfl, ?_⟩
       have n0_ := Aside0.mk (Kd.R_below (qR HO_7.out) hb)
       have n1_ := qW BK327 hb
       have n2_ := qH hb
       clear HO_7
       clear BK327
       clear HB
       have HO_7 := n0_
       have BK327 := n1_
       have HB := n2_
       clear n0_ n1_ n2_
       (try clear hb)
       (try clear hb2)
       (try clear hk)
       (try clear hi)
       refine hK.out _ _ ⟨(blk_cell BK327.out 0).trans rfl, (blk_cell BK327.out 1).trans rfl, (blk_cell BK327.out 2).trans rfl, (blk_cell BK327.out 3).trans rfl, (blk_cell BK327.out 4).trans rfl, (blk_cell BK327.out 5).trans rfl, ((HB.out.cell (World.block_lt_of_cell? w _ hw331_0)).trans hw331_0)⟩ (fun hHeld => ?_)
       clear hK K
       refine norm_ (a' := ?_) ?_ ?_
       rotate_left
       ·show Act.put _ (some 21) _ = _
        simp only [Act.put, List.setIfInBounds_toArray, List.set_cons_zero, List.set_cons_succ, i64_w, i32_w]
        rfl
       refine pure_ (i := 6) (N := some 22) (v := ?_) (a' := ?_) #[true, true, true, true, true, true, true] rfl rfl (by kernel_rfl) (fun _ _ _ h => h) (Or.inl ⟨by rfl, ?_⟩) ?_ ?_
       rotate_left
       ·intro w'
        go_simp
        with_reducible rfl
       rotate_left
       ·simp only [Act.put, List.setIfInBounds_toArray, List.set_cons_zero, List.set_cons_succ, i64_w, i32_w]
        rfl
       refine done_ (by kernel_rfl) ?_
       have p333 : 0 ≤ (x8_1 : Int) := of_decide_eq_true qA
       have q333 : x8_1 < (l1.length : Int) := of_decide_eq_true qA
       obtain ⟨ad333, e333, hx333_0⟩ := Kd.at_int HR1.out x8_1 p333 q333
       obtain rfl : ad331 = ad333 := (by injection e333)
       replace hx333_0 := (HB.out.cell (World.block_lt_of_cell? w _ hx333_0)).trans hx333_0
       replace p333 := eq_true p333
       replace q333 := eq_true q333
       try go_wp2_with (first | ((with_reducible refine gate_builtin (b := .append) (xs := #[.tmp 23, .tmp 28]) rfl ?_); at_builtin; refine Kd.R_append (Kd.int .i64) (w0 := w) w.heap.size rfl (.tmp 23) (.tmp 28) 29 3 (.int .i64 0) 8 rfl Tryd.underlying29 info3 rfl (by decide) (by omega) u7 x7_1 (rd l1 x8_1) [.int .i64 (rd l1 x8_1)] (fun _ => True) (fun _ => False) rfl rfl ?aP (fun _ hk => hk.elim) ?aF ?aO ?aB ?aS ?aL ?_; (case aP => exact rfl); (case aB => exact qB); (case aF => exact (fun _ _ => trivial)); (case aO => exact (qR HO_7.out)); (case aS => exact (below_size qB)); (case aL => have := LMc13.out; omega); intro v335 w16 ho hb hg hat; rw [← Ny334.out] at ho; replace BK327 := Aside0.mk (blk_grown (qK BK327.out) hg (Kd.R_ne HO_7.out BK327.out (by decide))); replace HB := Aside0.mk (hb); have HO336 := Aside0.mk (ho); clear HO_7; clear ho hb hg hat))
       go_roundg k1
       case measure => have := HK1.out; omega
       case rel => exact ⟨(y334), (wrap64 (x8_1 + 1)), qT, H', ⟨by have := HK1.out; omega⟩, ⟨qR HO336.out⟩, ⟨qK BK327.out⟩, ⟨qB⟩⟩
      ·rw [if_neg c13] at H
       exact absurd H (by simp)
    ·rw [if_neg c8] at H
     exact absurd H (by simp)
   ·rw [if_neg c7] at H
    have c7b0 := decide_eq_false c7
    clear c7
    replace H := qb H; obtain ⟨t337, A17, H⟩ := H
    replace H := qb H; obtain ⟨t340, A18, H⟩ := H
    obtain rfl := Option.some.inj H
    obtain ⟨hcz19_0, hcz19_1, hcz19_2, hcz19_3, hcz19_4, hcz19_5, hfz19_0, hfz19_1, hfz19_2, hfz19_3, hfz19_4, hfz19_5⟩ := bk6 BK327.out
    go_wp2_with (first | ((with_reducible refine gate_callee (f := 25) rfl ?_); refine goesL_ (some 32) rfl rfl Tryd.func25 (by kernel_rfl) rfl #[.agg #[.int .i64 a0_0, .int .i64 a0_1, .int .i64 a0_2, .int .i64 a0_3, .string a0_4, .slice A0_5 l0_5.length c0_5]] rfl qL ?_; (with_reducible refine (cubbyref07_Uses.calls k1 a0_0 a0_1 a0_2 a0_3 a0_4 _ _ l0_5 t337 _ ?side1 ?side2 A17.out).mono ?_); (case side1 => exact qCB HR0_5.out); (case side2 => exact HC0_5.out); rintro e w20 ⟨v338, rfl, ho0, hb⟩; refine ⟨_, rfl, ?_⟩; have HO339 := Aside0.mk (Kd.R_lower (Kd.R_new' ho0 (Kd.R_lt (qR HO_7.out))) (below_size qB)); replace HO_7 := Aside0.mk (Kd.R_elder' (qR HO_7.out) (Kd.R_base ho0) hb); replace BK327 := qW BK327 hb; replace HB := qH hb; (try clear hb); (try clear ho0); obtain ⟨Ao21, co21, eo21⟩ := Kd.R_slice HO_7.out; subst eo21; obtain ⟨Ao22, co22, eo22⟩ := Kd.R_slice HO339.out; subst eo22) | ((with_reducible refine gate_callee (f := 97) rfl ?_); refine goesL_ (some 34) rfl rfl Tryd.func97 (by kernel_rfl) rfl #[.slice Ao21 x7_1.length co21, .slice Ao22 t337.length co22, .int .i64 a2] rfl qL ?_; (with_reducible refine (cubbyref11_union.calls k1 _ _ x7_1 _ _ t337 a2 t340 _ ?side1 ?side2 ?side3 ?side4 A18.out).mono ?_); (case side1 => repeat (first | exact (Kd.R_reads' HO_7.out).2.2 | (with_reducible refine Kd.C_alloc ?_ _) | (with_reducible refine Kd.C_drewN ?_ _) | (with_reducible refine Kd.C_drew ?_))); (case side2 => exact (Kd.R_reads' HO_7.out).2.1); (case side3 => repeat (first | exact (Kd.R_reads' HO339.out).2.2 | (with_reducible refine Kd.C_alloc ?_ _) | (with_reducible refine Kd.C_drewN ?_ _) | (with_reducible refine Kd.C_drew ?_))); (case side4 => exact (Kd.R_reads' HO339.out).2.1); rintro e w23 ⟨v341, rfl, ho0, hb⟩; refine ⟨_, rfl, ?_⟩; have HO342 := Aside0.mk (Kd.R_lower (Kd.R_new' (Kd.R_new' ho0 (Kd.R_lt (qR HO_7.out))) (Kd.R_lt (qR HO339.out))) (below_size qB)); replace HO_7 := Aside0.mk (Kd.R_elder' (qR HO_7.out) (Kd.R_base ho0) hb); replace HO339 := Aside0.mk (Kd.R_elder' (qR HO339.out) (Kd.R_base ho0) hb); replace BK327 := qW BK327 hb; replace HB := qH hb; (try clear hb); (try clear ho0)))
    go_ret
    exact ⟨_, qE, by (with_reducible repeat (first | apply Kd.R_alloc | apply Kd.R_drewN | apply Kd.R_drew)); exact Kd.R_mono HO342.out (fun _ hk => trivial), qB⟩

end Go.Proofs.YtebnnknijbgekaaDoor.Q
namespace Go.Proofs.YtebnnknijbgekaaDoor.Q
open Go.RowKit Go.Proofs.YtebnnknijbgekaaDoorW.PrintWords Go.Proofs.YtebnnknijbgekaaDoorW.PrintLast Go.Proofs.YtebnnknijbgekaaDoorW.PrintMore
attribute [local go_sem] max2_int min2_int max_two min_two max_three min_three max_four min_four   -- for this text's walks alone
set_option linter.unusedVariables false
set_option linter.unusedSimpArgs false

/-! ### cubbyref11_ahead: function 53 -/
def cubbyref11_ahead.l0 : Nat → Int → Int → List Int → Int → ByteArray → Int → Int → List (List (SIns)) → Option (List Int)
 | 0, _, _, _, _, _, _, _, _ => none
 | k + 1, x2, x3, x9, x10, x344000, x344001, x344002, x344003 => if x10 ≥ x3 then (if 0 ≤ x2 then (if x2 < (x344003.length : Int) then (if 0 ≤ x10 then (if x10 < ((rd_LIns x344003 x2).length : Int) then ((cubbyref11_through.f k ((rd_TIns (rd_LIns x344003 x2) x10).f0) ((rd_TIns (rd_LIns x344003 x2) x10).f1) ((rd_TIns (rd_LIns x344003 x2) x10).f2) ((rd_TIns (rd_LIns x344003 x2) x10).f3) ((rd_TIns (rd_LIns x344003 x2) x10).f4) ((rd_TIns (rd_LIns x344003 x2) x10).f5) x9 x344002).bind fun t350 => (cubbyref11_ahead.l0 k x2 x3 t350 (wrap64 (x10 - 1)) x344000 x344001 x344002 x344003)) else (none)) else (none)) else (none)) else (none)) else (some x9)
def cubbyref11_ahead.f (k : Nat) (a0_0 : ByteArray) (a0_1 : Int) (a0_2 : Int) (l0_3 : List (List (SIns))) (l1 : List (List Int)) (a2 : Int) (a3 : Int) : Option (List Int) := (cubbyref11_behind.f k a0_0 a0_1 a0_2 l0_3 l1 a2).bind fun t344 => (if 0 ≤ a2 then (if a2 < (l0_3.length : Int) then (cubbyref11_ahead.l0 k a2 a3 t344 (wrap64 (((rd_LIns l0_3 a2).length : Int) - 1)) a0_0 a0_1 a0_2 l0_3) else (none)) else (none))
theorem cubbyref11_ahead.mono_l : ∀ k, (∀ y0 y1 y2 y3 y4 y5 y6 y7, LeO (cubbyref11_ahead.l0 k y0 y1 y2 y3 y4 y5 y6 y7) (cubbyref11_ahead.l0 (k + 1) y0 y1 y2 y3 y4 y5 y6 y7))
 | 0 => fun _ _ _ _ _ _ _ _ r h => by simp [cubbyref11_ahead.l0] at h
 | k + 1 => by
  have ih0 := cubbyref11_ahead.mono_l k
  ·intro y0 y1 y2 y3 y4 y5 y6 y7
   unfold cubbyref11_ahead.l0
   repeat' first | (with_reducible exact ih0 _ _ _ _ _ _ _ _) | (with_reducible exact cubbyref11_behind.mono _ _ _ _ _ _ _) | (with_reducible exact cubbyref11_through.mono _ _ _ _ _ _ _ _ _) | (with_reducible exact LeO.refl _) | (with_reducible exact LeO.none _) | (with_reducible refine LeO.ite ?_ ?_) | (with_reducible refine LeO.bind ?_ (fun _ => ?_)) | exact LeO.none _ | refine LeO.ite ?_ ?_ | refine LeO.bind ?_ (fun _ => ?_)
theorem cubbyref11_ahead.mono : ∀ a0 a1 a2 a3 a4 a5 a6 k, LeO (cubbyref11_ahead.f k a0 a1 a2 a3 a4 a5 a6) (cubbyref11_ahead.f (k + 1) a0 a1 a2 a3 a4 a5 a6) := by
 intro a0 a1 a2 a3 a4 a5 a6 k
 have ih0 := cubbyref11_ahead.mono_l k
 unfold cubbyref11_ahead.f
 repeat' first | (with_reducible exact ih0 _ _ _ _ _ _ _ _) | (with_reducible exact cubbyref11_behind.mono _ _ _ _ _ _ _) | (with_reducible exact cubbyref11_through.mono _ _ _ _ _ _ _ _ _) | (with_reducible exact LeO.refl _) | (with_reducible exact LeO.none _) | (with_reducible refine LeO.ite ?_ ?_) | (with_reducible refine LeO.bind ?_ (fun _ => ?_)) | exact LeO.none _ | refine LeO.ite ?_ ?_ | refine LeO.bind ?_ (fun _ => ?_)
def cubbyref11_ahead.T5 : Bool × List (List Nat × List Nat) := (true, [([], []), ([0], [0]), ([], []), ([1, 2], [1, 2]), ([3], [3]), ([], []), ([4, 5], [4, 5]), ([6], [6]), ([], []), ([], []), ([9], [9]), ([7, 8, 10], [7, 8, 10]), ([11, 11, 0, 1, 2, 3, 4, 5, 6, 7, 8, 9, 10, 11], [8, 11])])
def cubbyref11_ahead.B5 : List Nat := [0, 1, 0, 7, 15, 0, 63, 127, 0, 0, 512, 2047, 4095]
theorem cubbyref11_ahead.tab5 : rtab .any (opsOf Tryd.f53 5) = cubbyref11_ahead.T5 := by kernel_rfl
theorem cubbyref11_ahead.bits5 : waitsOk cubbyref11_ahead.T5.2 cubbyref11_ahead.B5 = true := by kernel_rfl
set_option maxHeartbeats 8000000 in
set_option maxRecDepth 100000 in
theorem cubbyref11_ahead.calls (k : Nat) (a0_0 : ByteArray) (a0_1 : Int) (a0_2 : Int) (A0_3 : Option Addr) (c0_3 : Nat) (l0_3 : List (List (SIns))) (A1 : Option Addr) (c1 : Nat) (l1 : List (List Int)) (a2 : Int) (a3 : Int) (r : List Int) (w : World) (hr0_3 : Kd.C (Kd.slice 31 kIns) w A0_3 l0_3.length l0_3) (hc0_3 : l0_3.length ≤ c0_3) (hr1 : Kd.C (Kd.slice 3 (Kd.int .i64)) w A1 l1.length l1) (hc1 : l1.length ≤ c1) (h : cubbyref11_ahead.f k a0_0 a0_1 a0_2 l0_3 l1 a2 a3 = some r) :
  Calls Tryd.prog 53 #[.agg #[.string a0_0, .int .i64 a0_1, .int .i64 a0_2, .slice A0_3 l0_3.length c0_3], .slice A1 l1.length c1, .int .i64 a2, .int .i64 a3] w fun e w' => ∃ v0_ : Value, e = .returned (v0_) ∧ Kd.R (Kd.int .i64) 3 w' w.heap.size (fun _ => True) v0_ r ∧ Below w.heap.size w w' := by
 have hu34 := Tryd.underlying34
 have hu31 := Tryd.underlying31
 have HR0_3 := Aside0.mk hr0_3
 have HC0_3 := Aside0.mk hc0_3
 clear hr0_3 hc0_3
 have HR1 := Aside0.mk hr1
 have HC1 := Aside0.mk hc1
 clear hr1 hc1
 have HB := Aside0.mk (Below.refl w.heap.size w)
 have H := h; clear h; unfold cubbyref11_ahead.f at H
 replace H := qb H; obtain ⟨t344, A5, H⟩ := H
 by_cases c6 : 0 ≤ a2
 ·rw [if_pos c6] at H
  have c6b0 := decide_eq_true c6
  clear c6
  by_cases c7 : a2 < (l0_3.length : Int)
  ·rw [if_pos c7] at H
   have c7b0 := decide_eq_true c7
   clear c7
   have H' := Aside0.mk H
   clear H
   go_enter Tryd.func53, Tryd.ntmps53
   go_wp2_with (first | ((with_reducible refine gate_dst (N := 4) rfl ?_); refine box_event (by rfl) (N := 4) (by rfl) (cs := #[.string a0_0, .int .i64 a0_1, .int .i64 a0_2, .slice A0_3 l0_3.length c0_3]) (t := 34) ?hr ?_; (case hr => first | (go_simp; done) | (go_simp; rfl)); intro gb343 hg w8 hbox hb; have BK343 := Aside0.mk (hbox); have GW343 := qG hg; have GE343 := GW343; replace HB := qH hb; clear hb hbox hg; obtain ⟨hcz9_0, hcz9_1, hcz9_2, hcz9_3, hfz9_0, hfz9_1, hfz9_2, hfz9_3⟩ := bk4 BK343.out) | ((with_reducible refine gate_callee (f := 76) rfl ?_); refine goesL_ (some 14) rfl rfl Tryd.func76 (by kernel_rfl) rfl #[.agg #[.string a0_0, .int .i64 a0_1, .int .i64 a0_2, .slice A0_3 l0_3.length c0_3], .slice A1 l1.length c1, .int .i64 a2] rfl qL ?_; (with_reducible refine (cubbyref11_behind.calls k a0_0 a0_1 a0_2 _ _ l0_3 _ _ l1 a2 t344 _ ?side1 ?side2 ?side3 ?side4 A5.out).mono ?_); (case side1 => exact qCB HR0_3.out); (case side2 => exact HC0_3.out); (case side3 => exact qCB HR1.out); (case side4 => exact HC1.out); rintro e w10 ⟨v345, rfl, ho0, hb⟩; refine ⟨_, rfl, ?_⟩; have HO346 := Aside0.mk (Kd.R_lower ho0 (below_size qB)); replace BK343 := qW BK343 hb; replace HB := qH hb; (try clear hb); (try clear ho0); obtain ⟨hcz11_0, hcz11_1, hcz11_2, hcz11_3, hfz11_0, hfz11_1, hfz11_2, hfz11_3⟩ := bk4 BK343.out; have p347 : 0 ≤ (a2 : Int) := of_decide_eq_true qA; have q347 : a2 < (l0_3.length : Int) := of_decide_eq_true qA; obtain ⟨ad347, A347_0, c347_0, e347, hx347_0, hl347_0, hi347_0⟩ := at_LIns HR0_3.out a2 p347 q347; cases e347; replace hx347_0 := (HB.out.cell (World.block_lt_of_cell? w _ hx347_0)).trans hx347_0; have HR347_0 := Aside0.mk hi347_0; have HC347_0 := Aside0.mk hl347_0; clear hi347_0 hl347_0; replace p347 := eq_true p347; replace q347 := eq_true q347))
   go_loopg [9, 10] k (fun kq v9 v10 w' => ∃ (x9_1 : List Int) (x10_1 : Int), v10 = .int .i64 x10_1 ∧ Aside0 (cubbyref11_ahead.l0 kq a2 a3 x9_1 x10_1 a0_0 a0_1 a0_2 l0_3 = some r) ∧ Aside0 (kq ≤ k) ∧ Aside0 (Kd.R (Kd.int .i64) 3 w' w.heap.size (fun _ => True) v9 x9_1) ∧ Aside0 (w'.heap[gb343]? = some (.cells #[.string a0_0, .int .i64 a0_1, .int .i64 a0_2, (.slice (some ad347) l0_3.length c0_3)] 34 (0, 0))) ∧ Aside0 (Below w.heap.size w w'))
   case atStart => exact ⟨(t344), (wrap64 (((rd_LIns l0_3 a2).length : Int) - 1)), qT, H', ⟨Nat.le_refl _⟩, ⟨qR HO346.out⟩, ⟨qK BK343.out⟩, ⟨qB⟩⟩
   case round =>
    clear H'
    try clear c1; try clear p2; try clear c3; try clear p3; try clear q3; try clear hx3; try clear c5; try clear c6; try clear c6b0; try clear p6; try clear c7; try clear c7b0; try clear hcz11_0 hcz11_1 hcz11_2 hcz11_3 hfz11_0 hfz11_1 hfz11_2 hfz11_3; try clear hcz9_0 hcz9_1 hcz9_2 hcz9_3 hfz9_0 hfz9_1 hfz9_2 hfz9_3; try clear hx347_0; try clear p347; try clear q347
    obtain ⟨x9_1, x10_1, rfl, HA, HK1, HO_9, BK343, HB⟩ := hrel
    cases gk with
    | zero => exact absurd HA.out (by simp [cubbyref11_ahead.l0])
    | succ k1 =>
     have H := HA.out
     clear HA
     simp only [cubbyref11_ahead.l0] at H
     by_cases c12 : x10_1 ≥ a3
     ·rw [if_pos c12] at H
      have c12b0 : decide (a3 ≤ x10_1) = true := decide_eq_true c12
      clear c12
      by_cases c13 : 0 ≤ a2
      ·rw [if_pos c13] at H
       have c13b0 := decide_eq_true c13
       clear c13
       by_cases c14 : a2 < (l0_3.length : Int)
       ·rw [if_pos c14] at H
        have c14b0 := decide_eq_true c14
        clear c14
        by_cases c15 : 0 ≤ x10_1
        ·rw [if_pos c15] at H
         have c15b0 := decide_eq_true c15
         clear c15
         by_cases c16 : x10_1 < ((rd_LIns l0_3 a2).length : Int)
         ·rw [if_pos c16] at H
          have c16b0 := decide_eq_true c16
          clear c16
          replace H := qb H; obtain ⟨t350, A17, H⟩ := H
          have H' := Aside0.mk H
          clear H
          try go_wp2
          have n0_ := Aside0.mk (Kd.R_drew HO_9.out)
          have n1_ := Aside0.mk (blk_drew BK343.out)
          have n2_ := Aside0.mk (below_drew1 HB.out)
          clear HO_9
          clear BK343
          clear HB
          have HO_9 := n0_
          have BK343 := n1_
          have HB := n2_
          clear n0_ n1_ n2_
          have p348 : 0 ≤ (a2 : Int) := of_decide_eq_true qA
          have q348 : a2 < (l0_3.length : Int) := of_decide_eq_true qA
          obtain ⟨ad348, A348_0, c348_0, e348, hx348_0, hl348_0, hi348_0⟩ := at_LIns HR0_3.out a2 p348 q348
          have hw348_0 := hx348_0
          obtain rfl : ad347 = ad348 := (by injection e348)
          replace hx348_0 := (HB.out.cell (World.block_lt_of_cell? w _ hx348_0)).trans hx348_0
          have HR348_0 := Aside0.mk hi348_0
          have HC348_0 := Aside0.mk hl348_0
          clear hi348_0 hl348_0
          replace p348 := eq_true p348
          replace q348 := eq_true q348
          have p349 : 0 ≤ (x10_1 : Int) := of_decide_eq_true qA
          have q349 : x10_1 < ((rd_LIns l0_3 a2).length : Int) := of_decide_eq_true qA
          obtain ⟨ad349, A349_5, c349_5, e349, hx349_0, hx349_1, hx349_2, hx349_3, hx349_4, hx349_5, hl349_5, hi349_5⟩ := at_TIns HR348_0.out x10_1 p349 q349
          have hw349_5 := hx349_5
          have hw349_4 := hx349_4
          have hw349_3 := hx349_3
          have hw349_2 := hx349_2
          have hw349_1 := hx349_1
          have hw349_0 := hx349_0
          cases e349
          replace hx349_0 := (HB.out.cell (World.block_lt_of_cell? w _ hx349_0)).trans hx349_0
          replace hx349_1 := (HB.out.cell (World.block_lt_of_cell? w _ hx349_1)).trans hx349_1
          replace hx349_2 := (HB.out.cell (World.block_lt_of_cell? w _ hx349_2)).trans hx349_2
          replace hx349_3 := (HB.out.cell (World.block_lt_of_cell? w _ hx349_3)).trans hx349_3
          replace hx349_4 := (HB.out.cell (World.block_lt_of_cell? w _ hx349_4)).trans hx349_4
          replace hx349_5 := (HB.out.cell (World.block_lt_of_cell? w _ hx349_5)).trans hx349_5
          have HR349_5 := Aside0.mk hi349_5
          have HC349_5 := Aside0.mk hl349_5
          clear hi349_5 hl349_5
          replace p349 := eq_true p349
          replace q349 := eq_true q349
          obtain ⟨Ao19, co19, eo19⟩ := Kd.R_slice HO_9.out
          (first | subst eo19 | (injection eo19 with f1_ f2_ f3_; have f4_ := f1_.symm; have f5_ := f3_.symm; clear f1_ f2_ f3_; subst f4_; subst f5_))
          refine start_ (n := 13) (S := fun w' => w'.cell? ⟨gb343, 0, none⟩ = some (.string a0_0) ∧ w'.cell? ⟨gb343, 1, none⟩ = some (.int .i64 a0_1) ∧ w'.cell? ⟨gb343, 2, none⟩ = some (.int .i64 a0_2) ∧ w'.cell? ⟨gb343, 3, none⟩ = some (.slice (some ad347) l0_3.length c0_3) ∧ w'.cell? (ad347.add (a2).toNat) = some (.slice (some ad349) (rd_LIns l0_3 a2).length c348_0) ∧ w'.cell? (ad349.add ((x10_1).toNat * 6)) = some (.int .i64 ((rd_TIns (rd_LIns l0_3 a2) x10_1).f0)) ∧ w'.cell? ⟨(ad349.add ((x10_1).toNat * 6)).block, (ad349.add ((x10_1).toNat * 6)).off + 1, none⟩ = some (.int .i64 ((rd_TIns (rd_LIns l0_3 a2) x10_1).f1)) ∧ w'.cell? ⟨(ad349.add ((x10_1).toNat * 6)).block, (ad349.add ((x10_1).toNat * 6)).off + 2, none⟩ = some (.int .i64 ((rd_TIns (rd_LIns l0_3 a2) x10_1).f2)) ∧ w'.cell? ⟨(ad349.add ((x10_1).toNat * 6)).block, (ad349.add ((x10_1).toNat * 6)).off + 3, none⟩ = some (.int .i64 ((rd_TIns (rd_LIns l0_3 a2) x10_1).f3)) ∧ w'.cell? ⟨(ad349.add ((x10_1).toNat * 6)).block, (ad349.add ((x10_1).toNat * 6)).off + 4, none⟩ = some (.string ((rd_TIns (rd_LIns l0_3 a2) x10_1).f4)) ∧ w'.cell? ⟨(ad349.add ((x10_1).toNat * 6)).block, (ad349.add ((x10_1).toNat * 6)).off + 5, none⟩ = some (.slice A349_5 ((rd_TIns (rd_LIns l0_3 a2) x10_1).f5).length c349_5)) (ds := []) #[false, false, false, false, false, false, false, false, false, false, false, false, false] (by kernel_rfl) rfl rfl ⟨(blk_cell BK343.out 0).trans rfl, (blk_cell BK343.out 1).trans rfl, (blk_cell BK343.out 2).trans rfl, (blk_cell BK343.out 3).trans rfl, ((HB.out.cell (World.block_lt_of_cell? w _ hw348_0)).trans hw348_0), ((HB.out.cell (World.block_lt_of_cell? w _ hw349_0)).trans hw349_0), ((HB.out.cell (World.block_lt_of_cell? w _ hw349_1)).trans hw349_1), ((HB.out.cell (World.block_lt_of_cell? w _ hw349_2)).trans hw349_2), ((HB.out.cell (World.block_lt_of_cell? w _ hw349_3)).trans hw349_3), ((HB.out.cell (World.block_lt_of_cell? w _ hw349_4)).trans hw349_4), ((HB.out.cell (World.block_lt_of_cell? w _ hw349_5)).trans hw349_5)⟩ (fun hHeld => ?_); refine with_tabW cubbyref11_ahead.tab5 cubbyref11_ahead.bits5 (fun HT_ HW_ => ?_)
          generalize wr.drew = w18 at HO_9 BK343 HB HR348_0 HR349_5 hx348_0 hx349_0 hx349_1 hx349_2 hx349_3 hx349_4 hx349_5 hHeld ⊢
          refine pure_ (i := 0) (N := some 27) (v := ?_) (a' := ?_) #[true, false, false, false, false, false, false, false, false, false, false, false, false] rfl rfl (any_of HT_.out (by kernel_rfl)) (fun _ _ _ h => h) (Or.inl ⟨by rfl, ?_⟩) ?_ ?_
          rotate_left
          ·intro w'
           go_simp
           with_reducible rfl
          rotate_left
          ·simp only [Act.put, List.setIfInBounds_toArray, List.set_cons_zero, List.set_cons_succ, i64_w, i32_w]
           rfl
          refine pure_ (i := 2) (N := some 29) (v := ?_) (a' := ?_) #[true, false, true, false, false, false, false, false, false, false, false, false, false] rfl rfl (any_of HT_.out (by kernel_rfl)) (fun _ _ _ h => h) (Or.inl ⟨by rfl, ?_⟩) ?_ ?_
          rotate_left
          ·intro w'
           go_simp
           with_reducible rfl
          rotate_left
          ·simp only [Act.put, List.setIfInBounds_toArray, List.set_cons_zero, List.set_cons_succ, i64_w, i32_w]
           rfl
          refine pure_ (i := 5) (N := some 32) (v := ?_) (a' := ?_) #[true, false, true, false, false, true, false, false, false, false, false, false, false] rfl rfl (any_of HT_.out (by kernel_rfl)) (fun _ _ _ h => h) (Or.inl ⟨by rfl, ?_⟩) ?_ ?_
          rotate_left
          ·intro w'
           go_simp
           with_reducible rfl
          rotate_left
          ·simp only [Act.put, List.setIfInBounds_toArray, List.set_cons_zero, List.set_cons_succ, i64_w, i32_w]
           rfl
          refine pure_ (i := 8) (N := some 35) (v := ?_) (a' := ?_) #[true, false, true, false, false, true, false, false, true, false, false, false, false] rfl rfl (any_of HT_.out (by kernel_rfl)) (fun _ _ _ h => h) (Or.inl ⟨by rfl, ?_⟩) ?_ ?_
          rotate_left
          ·intro w'
           go_simp
           with_reducible rfl
          rotate_left
          ·simp only [Act.put, List.setIfInBounds_toArray, List.set_cons_zero, List.set_cons_succ, i64_w, i32_w]
           rfl
          refine pure_ (i := 9) (N := some 36) (v := ?_) (a' := ?_) #[true, false, true, false, false, true, false, false, true, true, false, false, false] rfl rfl (any_of HT_.out (by kernel_rfl)) (fun _ _ _ h => h) (Or.inl ⟨by rfl, ?_⟩) ?_ ?_
          rotate_left
          ·intro w'
           go_simp
           with_reducible rfl
          rotate_left
          ·simp only [Act.put, List.setIfInBounds_toArray, List.set_cons_zero, List.set_cons_succ, i64_w, i32_w]
           rfl
          refine take_ (i := 1) (N := some 28) (v := ?_) (a' := ?_) #[true, true, true, false, false, true, false, false, true, true, false, false, false] rfl rfl (take_ofW HT_.out HW_.out (by kernel_rfl)) (fun _ _ _ h => h) (Or.inl ⟨by rfl, ?_⟩) hHeld ?_ ?_
          rotate_left
          ·rintro w' ⟨s0, s1, s2, s3, s4, s5, s6, s7, s8, s9, s10⟩
           go_simp
           with_reducible rfl
          rotate_left
          ·simp only [Act.put, List.setIfInBounds_toArray, List.set_cons_zero, List.set_cons_succ, i64_w, i32_w]
           rfl
          refine pure_ (i := 3) (N := some 30) (v := ?_) (a' := ?_) #[true, true, true, true, false, true, false, false, true, true, false, false, false] rfl rfl (any_of HT_.out (by kernel_rfl)) (fun _ _ _ h => h) (Or.inl ⟨by rfl, ?_⟩) ?_ ?_
          rotate_left
          ·intro w'
           go_simp
           with_reducible rfl
          rotate_left
          ·simp only [Act.put, List.setIfInBounds_toArray, List.set_cons_zero, List.set_cons_succ, i64_w, i32_w]
           rfl
          refine take_ (i := 4) (N := some 31) (v := ?_) (a' := ?_) #[true, true, true, true, true, true, false, false, true, true, false, false, false] rfl rfl (take_ofW HT_.out HW_.out (by kernel_rfl)) (fun _ _ _ h => h) (Or.inl ⟨by rfl, ?_⟩) hHeld ?_ ?_
          rotate_left
          ·rintro w' ⟨s0, s1, s2, s3, s4, s5, s6, s7, s8, s9, s10⟩
           go_simp
           with_reducible rfl
          rotate_left
          ·simp only [Act.put, List.setIfInBounds_toArray, List.set_cons_zero, List.set_cons_succ, i64_w, i32_w]
           rfl
          refine pure_ (i := 6) (N := some 33) (v := ?_) (a' := ?_) #[true, true, true, true, true, true, true, false, true, true, false, false, false] rfl rfl (any_of HT_.out (by kernel_rfl)) (fun _ _ _ h => h) (Or.inl ⟨by rfl, ?_⟩) ?_ ?_
          rotate_left
          ·intro w'
           go_simp
           with_reducible rfl
          rotate_left
          ·simp only [Act.put, List.setIfInBounds_toArray, List.set_cons_zero, List.set_cons_succ, i64_w, i32_w]
           rfl
          refine take_ (i := 7) (N := some 34) (v := ?_) (a' := ?_) #[true, true, true, true, true, true, true, true, true, true, false, false, false] rfl rfl (take_ofW HT_.out HW_.out (by kernel_rfl)) (fun _ _ _ h => h) (Or.inl ⟨by rfl, ?_⟩) hHeld ?_ ?_
          rotate_left
          ·rintro w' ⟨s0, s1, s2, s3, s4, s5, s6, s7, s8, s9, s10⟩
           go_simp
           with_reducible rfl
          rotate_left
          ·simp only [Act.put, List.setIfInBounds_toArray, List.set_cons_zero, List.set_cons_succ, i64_w, i32_w]
           rfl
          refine take_ (i := 10) (N := some 37) (v := ?_) (a' := ?_) #[true, true, true, true, true, true, true, true, true, true, true, false, false] rfl rfl (take_ofW HT_.out HW_.out (by kernel_rfl)) (fun _ _ _ h => h) (Or.inl ⟨by rfl, ?_⟩) hHeld ?_ ?_
          rotate_left
          ·rintro w' ⟨s0, s1, s2, s3, s4, s5, s6, s7, s8, s9, s10⟩
           go_simp
           with_reducible rfl
          rotate_left
          ·simp only [Act.put, List.setIfInBounds_toArray, List.set_cons_zero, List.set_cons_succ, i64_w, i32_w]
           rfl
          refine one_ (i := 11) (N := some 38) #[true, true, true, true, true, true, true, true, true, true, true, true, false] rfl rfl (one_of HT_.out (by kernel_rfl)) (by decide) (fun K hK => ?_)
          refine goes_ Tryd.func77 (by kernel_rfl) rfl #[.agg #[.int .i64 ((rd_TIns (rd_LIns l0_3 a2) x10_1).f0), .int .i64 ((rd_TIns (rd_LIns l0_3 a2) x10_1).f1), .int .i64 ((rd_TIns (rd_LIns l0_3 a2) x10_1).f2), .int .i64 ((rd_TIns (rd_LIns l0_3 a2) x10_1).f3), .string ((rd_TIns (rd_LIns l0_3 a2) x10_1).f4), .slice A349_5 ((rd_TIns (rd_LIns l0_3 a2) x10_1).f5).length c349_5], .slice Ao19 x9_1.length co19, .int .i64 a0_2] (by rfl) rfl rfl qL ?_
          with_reducible refine (cubbyref11_through.calls k1 ((rd_TIns (rd_LIns l0_3 a2) x10_1).f0) ((rd_TIns (rd_LIns l0_3 a2) x10_1).f1) ((rd_TIns (rd_LIns l0_3 a2) x10_1).f2) ((rd_TIns (rd_LIns l0_3 a2) x10_1).f3) ((rd_TIns (rd_LIns l0_3 a2) x10_1).f4) _ _ ((rd_TIns (rd_LIns l0_3 a2) x10_1).f5) _ _ x9_1 a0_2 t350 _ ?side1 ?side2 ?side3 ?side4 A17.out).mono ?_
          (case side1 => exact qCB HR349_5.out)
          (case side2 => exact HC349_5.out)
          (case side3 => repeat (first | exact (Kd.R_reads' HO_9.out).2.2 | (with_reducible refine Kd.C_alloc ?_ _) | (with_reducible refine Kd.C_drewN ?_ _) | (with_reducible refine Kd.C_drew ?_)))
          (case side4 => exact (Kd.R_reads' HO_9.out).2.1)
          rintro e w20 ⟨v351, rfl, ho0, hb⟩
          refine ⟨_, rfl, ?_⟩
          have n0_ := Aside0.mk (Kd.R_elder' (qR HO_9.out) (Kd.R_base ho0) hb)
          have n1_ := Aside0.mk (Kd.R_lower (Kd.R_new' ho0 (Kd.R_lt (qR HO_9.out))) (below_size qB))
          have n2_ := qW BK343 hb
          have n3_ := qH hb
          clear HO_9
          clear BK343
          clear HB
          have HO_9 := n0_
          have HO352 := n1_
          have BK343 := n2_
          have HB := n3_
          clear n0_ n1_ n2_ n3_
          (try clear hb)
          (try clear hb2)
          (try clear hk)
          (try clear hi)
          (try clear ho0)
          refine hK.out _ _ ⟨(blk_cell BK343.out 0).trans rfl, (blk_cell BK343.out 1).trans rfl, (blk_cell BK343.out 2).trans rfl, (blk_cell BK343.out 3).trans rfl, ((HB.out.cell (World.block_lt_of_cell? w _ hw348_0)).trans hw348_0), ((HB.out.cell (World.block_lt_of_cell? w _ hw349_0)).trans hw349_0), ((HB.out.cell (World.block_lt_of_cell? w _ hw349_1)).trans hw349_1), ((HB.out.cell (World.block_lt_of_cell? w _ hw349_2)).trans hw349_2), ((HB.out.cell (World.block_lt_of_cell? w _ hw349_3)).trans hw349_3), ((HB.out.cell (World.block_lt_of_cell? w _ hw349_4)).trans hw349_4), ((HB.out.cell (World.block_lt_of_cell? w _ hw349_5)).trans hw349_5)⟩ (fun hHeld => ?_)
          clear hK K
          refine norm_ (a' := ?_) ?_ ?_
          rotate_left
          ·show Act.put _ (some 38) _ = _
           simp only [Act.put, List.setIfInBounds_toArray, List.set_cons_zero, List.set_cons_succ, i64_w, i32_w]
           rfl
          refine pure_ (i := 12) (N := some 9) (v := ?_) (a' := ?_) #[true, true, true, true, true, true, true, true, true, true, true, true, true] rfl rfl (any_of HT_.out (by kernel_rfl)) (fun _ _ _ h => h) (Or.inl ⟨by rfl, ?_⟩) ?_ ?_
          rotate_left
          ·intro w'
           go_simp
           with_reducible rfl
          rotate_left
          ·simp only [Act.put, List.setIfInBounds_toArray, List.set_cons_zero, List.set_cons_succ, i64_w, i32_w]
           rfl
          refine done_ (done_of HT_.out (by kernel_rfl)) ?_
          try go_wp2
          go_roundg k1
          case measure => have := HK1.out; omega
          case rel => exact ⟨(t350), (wrap64 (x10_1 - 1)), qT, H', ⟨by have := HK1.out; omega⟩, ⟨by (with_reducible repeat (first | apply Kd.R_alloc | apply Kd.R_drewN | apply Kd.R_drew)); exact Kd.R_mono HO352.out (fun _ hk => trivial)⟩, ⟨qK BK343.out⟩, ⟨qB⟩⟩
         ·rw [if_neg c16] at H
          exact absurd H (by simp)
        ·rw [if_neg c15] at H
         exact absurd H (by simp)
       ·rw [if_neg c14] at H
        exact absurd H (by simp)
      ·rw [if_neg c13] at H
       exact absurd H (by simp)
     ·rw [if_neg c12] at H
      have c12b0 : decide (a3 ≤ x10_1) = false := decide_eq_false c12
      clear c12
      obtain rfl := Option.some.inj H
      go_wp2
      go_ret
      exact ⟨_, qE, qR HO_9.out, qB⟩
  ·rw [if_neg c7] at H
   exact absurd H (by simp)
 ·rw [if_neg c6] at H
  exact absurd H (by simp)

end Go.Proofs.YtebnnknijbgekaaDoor.Q
namespace Go.Proofs.YtebnnknijbgekaaDoor.Q
open Go.RowKit Go.Proofs.YtebnnknijbgekaaDoorW.PrintWords Go.Proofs.YtebnnknijbgekaaDoorW.PrintLast Go.Proofs.YtebnnknijbgekaaDoorW.PrintMore
attribute [local go_sem] max2_int min2_int max_two min_two max_three min_three max_four min_four   -- for this text's walks alone
set_option linter.unusedVariables false
set_option linter.unusedSimpArgs false

/-! ### cubbyref11_In: function 28 -/
mutual
def cubbyref11_In.l0 : Nat → List (List Int) → Int → ByteArray → Int → Int → List (List (SIns)) → Option ((List (List Int)))
 | 0, _, _, _, _, _, _ => none
 | k + 1, x3, x4, x354000, x354001, x354002, x354003 => if x4 ≤ (wrap64 ((wrap64 ((x354003.length : Int) * x354002)) + 1)) then (cubbyref11_In.l1 k x3 x4 (([] : List (List Int))) true 0 x354000 x354001 x354002 x354003) else (some x3)
def cubbyref11_In.l1 : Nat → List (List Int) → Int → List (List Int) → Bool → Int → ByteArray → Int → Int → List (List (SIns)) → Option ((List (List Int)))
 | 0, _, _, _, _, _, _, _, _, _ => none
 | k + 1, x3, x4, x5, x6, x7, x354000, x354001, x354002, x354003 => if x7 < (x354003.length : Int) then ((cubbyref11_ahead.f k x354000 x354001 x354002 x354003 x3 x7 0).bind fun t361 => (if x6 = true then (if 0 ≤ x7 then (if x7 < (x3.length : Int) then (if x5.length < 5864062014805 then (cubbyref11_In.l1 k x3 x4 (x5 ++ [t361]) ((t361.length : Int) == ((rd_LInt x3 x7).length : Int)) (wrap64 (x7 + 1)) x354000 x354001 x354002 x354003) else (none)) else (none)) else (none)) else (if x5.length < 5864062014805 then (cubbyref11_In.l1 k x3 x4 (x5 ++ [t361]) false (wrap64 (x7 + 1)) x354000 x354001 x354002 x354003) else (none)))) else (if x6 = true then (some x5) else (cubbyref11_In.l0 k x5 (wrap64 (x4 + 1)) x354000 x354001 x354002 x354003))
end
def cubbyref11_In.f (k : Nat) (a0_0 : ByteArray) (a0_1 : Int) (a0_2 : Int) (l0_3 : List (List (SIns))) : Option ((List (List Int))) := (cubbyref07_Check.f k a0_0 a0_1 a0_2 l0_3).bind fun t354 => (if t354 = 0 then (if 0 ≤ (l0_3.length : Int) then (if ((l0_3.length : Int) : Int).toNat ≤ 11728124029610 then (cubbyref11_In.l0 k (List.replicate ((l0_3.length : Int) : Int).toNat []) 0 a0_0 a0_1 a0_2 l0_3) else (none)) else (none)) else (some ([] : List (List Int))))
theorem cubbyref11_In.mono_l : ∀ k, (∀ y0 y1 y2 y3 y4 y5, LeO (cubbyref11_In.l0 k y0 y1 y2 y3 y4 y5) (cubbyref11_In.l0 (k + 1) y0 y1 y2 y3 y4 y5)) ∧ (∀ y0 y1 y2 y3 y4 y5 y6 y7 y8, LeO (cubbyref11_In.l1 k y0 y1 y2 y3 y4 y5 y6 y7 y8) (cubbyref11_In.l1 (k + 1) y0 y1 y2 y3 y4 y5 y6 y7 y8))
 | 0 => ⟨fun _ _ _ _ _ _ r h => by simp [cubbyref11_In.l0] at h, fun _ _ _ _ _ _ _ _ _ r h => by simp [cubbyref11_In.l1] at h⟩
 | k + 1 => by
  obtain ⟨ih0, ih1⟩ := cubbyref11_In.mono_l k
  refine ⟨?_, ?_⟩ <;> intros <;> (first | unfold cubbyref11_In.l0 | unfold cubbyref11_In.l1) <;> repeat' first | (with_reducible exact ih0 _ _ _ _ _ _) | (with_reducible exact ih1 _ _ _ _ _ _ _ _ _) | (with_reducible exact cubbyref07_Check.mono _ _ _ _ _) | (with_reducible exact cubbyref11_ahead.mono _ _ _ _ _ _ _ _) | (with_reducible exact LeO.refl _) | (with_reducible exact LeO.none _) | (with_reducible refine LeO.ite ?_ ?_) | (with_reducible refine LeO.bind ?_ (fun _ => ?_)) | exact LeO.none _ | refine LeO.ite ?_ ?_ | refine LeO.bind ?_ (fun _ => ?_)
theorem cubbyref11_In.mono : ∀ a0 a1 a2 a3 k, LeO (cubbyref11_In.f k a0 a1 a2 a3) (cubbyref11_In.f (k + 1) a0 a1 a2 a3) := by
 intro a0 a1 a2 a3 k
 obtain ⟨ih0, ih1⟩ := cubbyref11_In.mono_l k
 unfold cubbyref11_In.f
 repeat' first | (with_reducible exact ih0 _ _ _ _ _ _) | (with_reducible exact ih1 _ _ _ _ _ _ _ _ _) | (with_reducible exact cubbyref07_Check.mono _ _ _ _ _) | (with_reducible exact cubbyref11_ahead.mono _ _ _ _ _ _ _ _) | (with_reducible exact LeO.refl _) | (with_reducible exact LeO.none _) | (with_reducible refine LeO.ite ?_ ?_) | (with_reducible refine LeO.bind ?_ (fun _ => ?_)) | exact LeO.none _ | refine LeO.ite ?_ ?_ | refine LeO.bind ?_ (fun _ => ?_)
set_option maxHeartbeats 8000000 in
set_option maxRecDepth 100000 in
theorem cubbyref11_In.calls (k : Nat) (a0_0 : ByteArray) (a0_1 : Int) (a0_2 : Int) (A0_3 : Option Addr) (c0_3 : Nat) (l0_3 : List (List (SIns))) (r : List (List Int)) (w : World) (hr0_3 : Kd.C (Kd.slice 31 kIns) w A0_3 l0_3.length l0_3) (hc0_3 : l0_3.length ≤ c0_3) (h : cubbyref11_In.f k a0_0 a0_1 a0_2 l0_3 = some r) :
  Calls Tryd.prog 28 #[.agg #[.string a0_0, .int .i64 a0_1, .int .i64 a0_2, .slice A0_3 l0_3.length c0_3]] w fun e w' => ∃ v0_ : Value, e = .returned (v0_) ∧ Kd.S (Kd.slice 3 (Kd.int .i64)) 29 w' w.heap.size (fun _ => True) v0_ r ∧ Below w.heap.size w w' := by
 have hu34 := Tryd.underlying34
 have HR0_3 := Aside0.mk hr0_3
 have HC0_3 := Aside0.mk hc0_3
 clear hr0_3 hc0_3
 have HB := Aside0.mk (Below.refl w.heap.size w)
 have H := h; clear h; unfold cubbyref11_In.f at H
 replace H := qb H; obtain ⟨t354, A2, H⟩ := H
 by_cases c3 : t354 = 0
 ·rw [if_pos c3] at H
  obtain ⟨c3b0, c3b1⟩ := qe c3; clear c3
  by_cases c4 : 0 ≤ (l0_3.length : Int)
  ·rw [if_pos c4] at H
   have c4b0 := eq_true c4
   have c4b1 := decide_eq_true c4
   clear c4
   by_cases c5 : ((l0_3.length : Int) : Int).toNat ≤ 11728124029610
   ·rw [if_pos c5] at H
    have c5b0 := eq_true c5
    have c5b1 := decide_eq_true c5
    clear c5
    obtain ⟨y355, hy355⟩ : ∃ y_ : List (List Int), y_ = (List.replicate ((l0_3.length : Int) : Int).toNat []) := ⟨_, rfl⟩
    replace H : (cubbyref11_In.l0 k y355 0 a0_0 a0_1 a0_2 l0_3) = some r := by first | (rw [hy355]; with_reducible exact H) | (have H2_ := (Option.bind_some _ _).symm.trans H; rw [hy355]; with_reducible exact H2_) | (have H2_ := (Option.bind_some _ _).symm.trans H; with_reducible exact H2_) | with_reducible exact H | (rw [hy355]; exact H) | exact H
    have Ny355 := Aside0.mk hy355
    clear hy355
    have H' := Aside0.mk H
    clear H
    go_enter Tryd.func28, Tryd.ntmps28
    go_wp2_with (first | ((with_reducible refine gate_dst (N := 1) rfl ?_); (try (refine gate_guard (by rfl) ?_; dsimp only)); refine box_event (by rfl) (N := 1) (by rfl) (cs := #[.string a0_0, .int .i64 a0_1, .int .i64 a0_2, .slice A0_3 l0_3.length c0_3]) (t := 34) ?hr ?_; (case hr => first | (go_simp; done) | (go_simp; rfl)); intro gb353 hg w6 hbox hb; have BK353 := Aside0.mk (hbox); have GW353 := qG hg; have GE353 := GW353; replace HB := qH hb; clear hb hbox hg; obtain ⟨hcz7_0, hcz7_1, hcz7_2, hcz7_3, hfz7_0, hfz7_1, hfz7_2, hfz7_3⟩ := bk4 BK353.out) | ((with_reducible refine gate_callee (f := 17) rfl ?_); refine goesL_ (some 10) rfl rfl Tryd.func17 (by kernel_rfl) rfl #[.agg #[.string a0_0, .int .i64 a0_1, .int .i64 a0_2, .slice A0_3 l0_3.length c0_3]] rfl qL ?_; (with_reducible refine (cubbyref07_Check.calls k a0_0 a0_1 a0_2 _ _ l0_3 t354 _ ?side1 ?side2 A2.out).mono ?_); (case side1 => exact qCB HR0_3.out); (case side2 => exact HC0_3.out); rintro e w8 ⟨rfl, hb⟩; refine ⟨_, rfl, ?_⟩; replace BK353 := qW BK353 hb; replace HB := qH hb; (try clear hb); obtain ⟨hcz9_0, hcz9_1, hcz9_2, hcz9_3, hfz9_0, hfz9_1, hfz9_2, hfz9_3⟩ := bk4 BK353.out) | ((with_reducible refine gate_dst (N := 15) rfl ?_); (try (refine gate_guard (by rfl) ?_; dsimp only)); refine Kd.S_make (Kd.slice 3 (Kd.int .i64)) _ 29 rfl (N := 15) rfl 44 _ _ rfl (l0_3.length : Int) rfl rfl Tryd.underlying44 (.slice none 0 0) 24 info29 rfl (by decide) (by omega) [] (ok := fun _ => True) (okp := fun _ => True) ⟨_, rfl, Kd.R_nil _ _ _ _ _⟩ (fun _ hk => hk) trivial (of_decide_eq_true qA) (Nat.le_trans (Nat.mul_le_mul_right _ (of_decide_eq_true qA : (l0_3.length : Int).toNat ≤ 11728124029610)) (by omega)) (Below.refl _ _) (Nat.le_refl _) ?_; intro v356 w10 ho11 hb hg_ hnew_; clear hg_ hnew_; (first | rw [← Ny355.out] at ho11 | (simp only [Int.reduceToNat] at ho11; rw [← Ny355.out] at ho11)); have HO357 := Aside0.mk (Kd.S_lower ho11 (below_size qB)); replace BK353 := qW BK353 hb; replace HB := qH hb; clear hb ho11))
    go_loopg [3, 4] k (fun kq v3 v4 w' => ∃ (x3_1 : List (List Int)) (x4_1 : Int), v4 = .int .i64 x4_1 ∧ Aside0 (cubbyref11_In.l0 kq x3_1 x4_1 a0_0 a0_1 a0_2 l0_3 = some r) ∧ Aside0 (kq ≤ k) ∧ Aside0 (Kd.S (Kd.slice 3 (Kd.int .i64)) 29 w' w.heap.size (fun _ => True) v3 x3_1) ∧ Aside0 (w'.heap[gb353]? = some (.cells #[.string a0_0, .int .i64 a0_1, .int .i64 a0_2, (.slice A0_3 l0_3.length c0_3)] 34 (0, 0))) ∧ Aside0 (Below w.heap.size w w'))
    case atStart => exact ⟨(y355), (0), qT, H', ⟨Nat.le_refl _⟩, ⟨qS HO357.out⟩, ⟨qK BK353.out⟩, ⟨qB⟩⟩
    case round =>
     clear H'
     try clear c1; try clear c2; try clear p2; try clear c3; try clear c3b0 c3b1; try clear c4; try clear c4b0 c4b1; try clear c5; try clear c5b0 c5b1; try clear hcz7_0 hcz7_1 hcz7_2 hcz7_3 hfz7_0 hfz7_1 hfz7_2 hfz7_3; try clear hcz9_0 hcz9_1 hcz9_2 hcz9_3 hfz9_0 hfz9_1 hfz9_2 hfz9_3
     obtain ⟨x3_1, x4_1, rfl, HA, HK1, HO_3, BK353, HB⟩ := hrel
     cases gk with
     | zero => exact absurd HA.out (by simp [cubbyref11_In.l0])
     | succ k1 =>
      have H := HA.out
      clear HA
      simp only [cubbyref11_In.l0] at H
      by_cases c12 : x4_1 ≤ (wrap64 ((wrap64 ((l0_3.length : Int) * a0_2)) + 1))
      ·rw [if_pos c12] at H
       have c12b0 := decide_eq_true c12
       clear c12
       obtain ⟨y358, hy358⟩ : ∃ y_ : List (List Int), y_ = (([] : List (List Int))) := ⟨_, rfl⟩
       replace H : (cubbyref11_In.l1 k1 x3_1 x4_1 y358 true 0 a0_0 a0_1 a0_2 l0_3) = some r := by first | (rw [hy358]; with_reducible exact H) | (have H2_ := (Option.bind_some _ _).symm.trans H; rw [hy358]; with_reducible exact H2_) | (have H2_ := (Option.bind_some _ _).symm.trans H; with_reducible exact H2_) | with_reducible exact H | (rw [hy358]; exact H) | exact H
       have Ny358 := Aside0.mk hy358
       clear hy358
       have H' := Aside0.mk H
       clear H
       obtain ⟨hcz13_0, hcz13_1, hcz13_2, hcz13_3, hfz13_0, hfz13_1, hfz13_2, hfz13_3⟩ := bk4 BK353.out
       go_wp2_with (first | ((with_reducible refine gate_dst (N := 27) rfl ?_); (try (refine gate_guard (by rfl) ?_; dsimp only)); refine Kd.S_lit (Kd.slice 3 (Kd.int .i64)) _ 29 (by rfl) (N := 27) (by rfl) (xs := ([] : List (List Int))) (inner := []) (ok := fun _ => True) (okp := fun _ => True) ?hr ?hp (fun _ hk => hk) trivial (Below.refl _ _) (Nat.le_refl _) (by simp) ?_; (case hr => first | (go_simp; done) | (go_simp; rfl)); (case hp => exact (Reps.none _ _)); intro v359 w14 ho15 hb hg_ hnew_; clear hg_ hnew_; (first | rw [← Ny358.out] at ho15 | (simp only [Int.reduceToNat] at ho15; rw [← Ny358.out] at ho15)); have HO360 := Aside0.mk (Kd.S_lower (Kd.S_new' ho15 (Kd.S_lt (qS HO_3.out))) (below_size qB)); replace HO_3 := Aside0.mk (Kd.S_elder' (qS HO_3.out) (Kd.S_base ho15) hb); replace BK353 := qW BK353 hb; replace HB := qH hb; clear hb ho15))
       go_loopg [5, 6, 7] k1 (fun kq v5 v6 v7 w' => ∃ (x5_2 : List (List Int)) (x6_2 : Bool) (x7_2 : Int), v6 = .bool x6_2 ∧ v7 = .int .i64 x7_2 ∧ Aside0 (cubbyref11_In.l1 kq x3_1 x4_1 x5_2 x6_2 x7_2 a0_0 a0_1 a0_2 l0_3 = some r) ∧ Aside0 (kq ≤ k1) ∧ Aside0 (Kd.S (Kd.slice 3 (Kd.int .i64)) 29 w' w.heap.size (fun k_ => some k_ ≠ (v5 : Value).ownBlock) u3 x3_1) ∧ Aside0 (Kd.S (Kd.slice 3 (Kd.int .i64)) 29 w' w.heap.size (fun k_ => some k_ ≠ (u3 : Value).ownBlock) v5 x5_2) ∧ Aside0 (w'.heap[gb353]? = some (.cells #[.string a0_0, .int .i64 a0_1, .int .i64 a0_2, (.slice A0_3 l0_3.length c0_3)] 34 (0, 0))) ∧ Aside0 (Below w.heap.size w w'))
       case atStart => exact ⟨(y358), (true), (0), qT, qT, H', ⟨Nat.le_refl _⟩, ⟨by (with_reducible repeat (first | apply Kd.S_alloc | apply Kd.S_drewN | apply Kd.S_drew)); exact Kd.S_mono HO_3.out (fun _ hk => hk.2)⟩, ⟨by (with_reducible repeat (first | apply Kd.S_alloc | apply Kd.S_drewN | apply Kd.S_drew)); exact Kd.S_mono HO360.out (fun _ hk => hk.2)⟩, ⟨qK BK353.out⟩, ⟨qB⟩⟩
       case round =>
        clear H'
        try clear c1; try clear c2; try clear p2; try clear c3; try clear c3b0 c3b1; try clear c4; try clear c4b0 c4b1; try clear c5; try clear c5b0 c5b1; try clear p6; try clear c12; try clear c12b0; try clear hcz13_0 hcz13_1 hcz13_2 hcz13_3 hfz13_0 hfz13_1 hfz13_2 hfz13_3; try clear hcz7_0 hcz7_1 hcz7_2 hcz7_3 hfz7_0 hfz7_1 hfz7_2 hfz7_3; try clear hcz9_0 hcz9_1 hcz9_2 hcz9_3 hfz9_0 hfz9_1 hfz9_2 hfz9_3
        obtain ⟨x5_2, x6_2, x7_2, rfl, rfl, HA, HK2, HO_3, HO_5, BK353, HB⟩ := hrel
        cases gk with
        | zero => exact absurd HA.out (by simp [cubbyref11_In.l1])
        | succ k2 =>
         have H := HA.out
         clear HA
         simp only [cubbyref11_In.l1] at H
         by_cases c16 : x7_2 < (l0_3.length : Int)
         ·rw [if_pos c16] at H
          have c16b0 := decide_eq_true c16
          clear c16
          replace H := qb H; obtain ⟨t361, A17, H⟩ := H
          by_cases c18 : x6_2 = true
          ·subst c18
           have H1 : (if 0 ≤ x7_2 then (if x7_2 < (x3_1.length : Int) then (if x5_2.length < 5864062014805 then (cubbyref11_In.l1 k2 x3_1 x4_1 (x5_2 ++ [t361]) ((t361.length : Int) == ((rd_LInt x3_1 x7_2).length : Int)) (wrap64 (x7_2 + 1)) a0_0 a0_1 a0_2 l0_3) else (none)) else (none)) else (none)) = some r := by rw [if_pos rfl] at H; exact H
           clear H
           have H := H1
           clear H1
           by_cases c19 : 0 ≤ x7_2
           ·rw [if_pos c19] at H
            have c19b0 := decide_eq_true c19
            clear c19
            by_cases c20 : x7_2 < (x3_1.length : Int)
            ·rw [if_pos c20] at H
             have c20b0 := decide_eq_true c20
             clear c20
             by_cases c21 : x5_2.length < 5864062014805
             ·rw [if_pos c21] at H
              have LMc21 := Aside0.mk c21
              clear c21
              obtain ⟨y365, hy365⟩ : ∃ y_ : List (List Int), y_ = (x5_2 ++ [t361]) := ⟨_, rfl⟩
              replace H : (cubbyref11_In.l1 k2 x3_1 x4_1 y365 ((t361.length : Int) == ((rd_LInt x3_1 x7_2).length : Int)) (wrap64 (x7_2 + 1)) a0_0 a0_1 a0_2 l0_3) = some r := by first | (rw [hy365]; with_reducible exact H) | (have H2_ := (Option.bind_some _ _).symm.trans H; rw [hy365]; with_reducible exact H2_) | (have H2_ := (Option.bind_some _ _).symm.trans H; with_reducible exact H2_) | with_reducible exact H | (rw [hy365]; exact H) | exact H
              have Ny365 := Aside0.mk hy365
              clear hy365
              have H' := Aside0.mk H
              clear H
              obtain ⟨hcz22_0, hcz22_1, hcz22_2, hcz22_3, hfz22_0, hfz22_1, hfz22_2, hfz22_3⟩ := bk4 BK353.out
              obtain ⟨Ao23, co23, eo23⟩ := Kd.S_slice HO_3.out
              subst eo23
              go_wp2_with (first | ((with_reducible refine gate_callee (f := 53) rfl ?_); refine goesL_ (some 38) rfl rfl Tryd.func53 (by kernel_rfl) rfl #[.agg #[.string a0_0, .int .i64 a0_1, .int .i64 a0_2, .slice A0_3 l0_3.length c0_3], .slice Ao23 x3_1.length co23, .int .i64 x7_2, .int .i64 0] rfl qL ?_; (with_reducible refine (cubbyref11_ahead.calls k2 a0_0 a0_1 a0_2 _ _ l0_3 _ _ x3_1 x7_2 0 t361 _ ?side1 ?side2 ?side3 ?side4 A17.out).mono ?_); (case side1 => exact qCB HR0_3.out); (case side2 => exact HC0_3.out); (case side3 => repeat (first | exact (Kd.S_reads' HO_3.out).2.2 | (with_reducible refine Kd.C_alloc ?_ _) | (with_reducible refine Kd.C_drewN ?_ _) | (with_reducible refine Kd.C_drew ?_))); (case side4 => exact (Kd.S_reads' HO_3.out).2.1); rintro e w24 ⟨v362, rfl, ho0, hb⟩; refine ⟨_, rfl, ?_⟩; replace HO_3 := Aside0.mk (Kd.S_elder' (qS HO_3.out) (Kd.R_base ho0) hb); replace HO_5 := Aside0.mk (Kd.S_elder' (qS HO_5.out) (Kd.R_base ho0) hb); have HO363 := Aside0.mk (Kd.R_lower ho0 (below_size qB)); replace BK353 := qW BK353 hb; replace HB := qH hb; (try clear hb); (try clear ho0); obtain ⟨Ao25, co25, eo25⟩ := Kd.R_slice HO363.out; subst eo25; have p364 : 0 ≤ (x7_2 : Int) := of_decide_eq_true qA; have q364 : x7_2 < (x3_1.length : Int) := of_decide_eq_true qA; obtain ⟨ad364, A364_0, c364_0, e364, hx364_0, hl364_0, hi364_0⟩ := at_LInt (Kd.S_reads' HO_3.out).2.2 x7_2 p364 q364; cases e364; obtain ⟨ce364, hce364, hMe364, hcc364⟩ := Kd.S_get HO_3.out [] x7_2 p364 (by first | exact q364 | exact of_decide_eq_true qA | (have e_ := (Kd.S_reads' HO_3.out).1; omega)); obtain ⟨ve364_0, rfl, ge364_0⟩ := hMe364; have hv364_0 := hcc364 0 _ rfl; rw [Nat.add_zero, show ((Kd.slice 3 (Kd.int .i64))).sz = 1 from rfl, Nat.mul_one] at hv364_0; replace hv364_0 := Option.some.inj (hv364_0.symm.trans hx364_0); rw [hv364_0] at ge364_0; have HL364_0 := Aside0.mk (show Kd.R (Kd.int .i64) 3 _ _ _ _ (rd_LInt x3_1 x7_2) from ge364_0); clear hv364_0 ge364_0; clear hcc364 hce364; have HR364_0 := Aside0.mk hi364_0; have HC364_0 := Aside0.mk hl364_0; clear hi364_0 hl364_0; replace p364 := eq_true p364; replace q364 := eq_true q364) | ((with_reducible refine gate_builtin (b := .append) (xs := #[.tmp 50, .tmp 52]) rfl ?_); (try (refine gate_guard (by rfl) ?_; dsimp only)); at_builtin; refine Kd.S_append (Kd.slice 3 (Kd.int .i64)) (w0 := w) w.heap.size rfl (.tmp 50) (.tmp 52) 44 29 (.slice none 0 0) 24 rfl Tryd.underlying44 info29 rfl (by decide) (by omega) u5 x5_2 t361 [.slice Ao25 t361.length co25] (fun k_ => some k_ ≠ (.slice (some ad364) x3_1.length co23 : Value).ownBlock) (fun k_ => some k_ = (.slice Ao25 t361.length co25 : Value).ownBlock) rfl rfl ?aP (fun k_ hk_ => ((Kd.R_mono (ok' := fun k_ => ((fun k_ => some k_ ≠ (.slice (some ad364) x3_1.length co23 : Value).ownBlock)) k_ ∧ some k_ ≠ (u5 : Value).ownBlock) (Kd.R_apart' (Kd.R_apart' (HO363.out) (Kd.S_typed HO_3.out) (by decide)) (Kd.S_typed HO_5.out) (by decide)) (fun k_ hk => ⟨hk.1.2, hk.2⟩))).1 k_ hk_.symm) ?aF ?aO ?aB ?aS ?aL ?_; (case aP => exact Kd.M_row (Kd.R_mono (Kd.R_tight rfl (Kd.R_mono (ok' := fun k_ => ((fun k_ => some k_ ≠ (.slice (some ad364) x3_1.length co23 : Value).ownBlock)) k_ ∧ some k_ ≠ (u5 : Value).ownBlock) (Kd.R_apart' (Kd.R_apart' (HO363.out) (Kd.S_typed HO_3.out) (by decide)) (Kd.S_typed HO_5.out) (by decide)) (fun k_ hk => ⟨hk.1.2, hk.2⟩))) (fun _ h_ => h_))); (case aB => exact qB); (case aF => exact (fun k_ hk => Kd.fresh' (Kd.S_lt (qS HO_3.out)) k_ hk)); (case aO => exact (by (with_reducible repeat (first | apply Kd.S_alloc | apply Kd.S_drewN | apply Kd.S_drew)); exact Kd.S_mono HO_5.out (fun k_ hk => ⟨hk.1, fun e_ => hk.2 e_⟩))); (case aS => exact (below_size qB)); (case aL => have := LMc21.out; omega); intro v366 w26 ho hb hg hat; rw [← Ny365.out] at ho; replace HO_3 := Aside0.mk (Kd.S_after (ok := (fun k_ => some k_ ≠ (.slice Ao25 t361.length co25 : Value).ownBlock)) (by (with_reducible repeat (first | apply Kd.S_alloc | apply Kd.S_drewN | apply Kd.S_drew)); exact Kd.S_mono HO_3.out (fun _ hk => ⟨hk.2, hk.1⟩)) hg hat); replace BK353 := Aside0.mk (blk_grown (qK BK353.out) hg (Kd.S_ne HO_5.out BK353.out (by decide))); replace HL364_0 := Aside0.mk (Kd.R_after (ok := (fun k_ => some k_ ≠ (.slice (some ad364) x3_1.length co23 : Value).ownBlock ∧ some k_ ≠ (.slice Ao25 t361.length co25 : Value).ownBlock)) (by (with_reducible repeat (first | apply Kd.R_alloc | apply Kd.R_drewN | apply Kd.R_drew)); exact Kd.R_mono HL364_0.out (fun _ hk => ⟨⟨hk.2, hk.1.2⟩, hk.1.1⟩)) hg hat); replace HB := Aside0.mk (hb); have HO367 := Aside0.mk (ho); clear HO_5 HO363; clear ho hb hg hat))
              go_roundg k2
              case measure => have := HK1.out; have := HK2.out; omega
              case rel => exact ⟨(y365), (((t361.length : Int) == ((rd_LInt x3_1 x7_2).length : Int))), (wrap64 (x7_2 + 1)), qT, qT, H', ⟨by have := HK1.out; have := HK2.out; omega⟩, ⟨by (with_reducible repeat (first | apply Kd.S_alloc | apply Kd.S_drewN | apply Kd.S_drew)); exact Kd.S_mono HO_3.out (fun _ hk => hk.2)⟩, ⟨qS HO367.out⟩, ⟨qK BK353.out⟩, ⟨qB⟩⟩
             ·rw [if_neg c21] at H
              exact absurd H (by simp)
            ·rw [if_neg c20] at H
             exact absurd H (by simp)
           ·rw [if_neg c19] at H
            exact absurd H (by simp)
          ·replace c18 := Bool.eq_false_iff.mpr c18
           subst c18
           have H1 : (if x5_2.length < 5864062014805 then (cubbyref11_In.l1 k2 x3_1 x4_1 (x5_2 ++ [t361]) false (wrap64 (x7_2 + 1)) a0_0 a0_1 a0_2 l0_3) else (none)) = some r := by rw [if_neg (show ¬ (false = true) by decide)] at H; exact H
           clear H
           have H := H1
           clear H1
           by_cases c27 : x5_2.length < 5864062014805
           ·rw [if_pos c27] at H
            have LMc27 := Aside0.mk c27
            clear c27
            obtain ⟨y368, hy368⟩ : ∃ y_ : List (List Int), y_ = (x5_2 ++ [t361]) := ⟨_, rfl⟩
            replace H : (cubbyref11_In.l1 k2 x3_1 x4_1 y368 false (wrap64 (x7_2 + 1)) a0_0 a0_1 a0_2 l0_3) = some r := by first | (rw [hy368]; with_reducible exact H) | (have H2_ := (Option.bind_some _ _).symm.trans H; rw [hy368]; with_reducible exact H2_) | (have H2_ := (Option.bind_some _ _).symm.trans H; with_reducible exact H2_) | with_reducible exact H | (rw [hy368]; exact H) | exact H
            have Ny368 := Aside0.mk hy368
            clear hy368
            have H' := Aside0.mk H
            clear H
            obtain ⟨hcz28_0, hcz28_1, hcz28_2, hcz28_3, hfz28_0, hfz28_1, hfz28_2, hfz28_3⟩ := bk4 BK353.out
            obtain ⟨Ao29, co29, eo29⟩ := Kd.S_slice HO_3.out
            subst eo29
            go_wp2_with (first | ((with_reducible refine gate_callee (f := 53) rfl ?_); refine goesL_ (some 38) rfl rfl Tryd.func53 (by kernel_rfl) rfl #[.agg #[.string a0_0, .int .i64 a0_1, .int .i64 a0_2, .slice A0_3 l0_3.length c0_3], .slice Ao29 x3_1.length co29, .int .i64 x7_2, .int .i64 0] rfl qL ?_; (with_reducible refine (cubbyref11_ahead.calls k2 a0_0 a0_1 a0_2 _ _ l0_3 _ _ x3_1 x7_2 0 t361 _ ?side1 ?side2 ?side3 ?side4 A17.out).mono ?_); (case side1 => exact qCB HR0_3.out); (case side2 => exact HC0_3.out); (case side3 => repeat (first | exact (Kd.S_reads' HO_3.out).2.2 | (with_reducible refine Kd.C_alloc ?_ _) | (with_reducible refine Kd.C_drewN ?_ _) | (with_reducible refine Kd.C_drew ?_))); (case side4 => exact (Kd.S_reads' HO_3.out).2.1); rintro e w30 ⟨v362, rfl, ho0, hb⟩; refine ⟨_, rfl, ?_⟩; replace HO_3 := Aside0.mk (Kd.S_elder' (qS HO_3.out) (Kd.R_base ho0) hb); replace HO_5 := Aside0.mk (Kd.S_elder' (qS HO_5.out) (Kd.R_base ho0) hb); have HO363 := Aside0.mk (Kd.R_lower ho0 (below_size qB)); replace BK353 := qW BK353 hb; replace HB := qH hb; (try clear hb); (try clear ho0); obtain ⟨Ao32, co32, eo32⟩ := Kd.R_slice HO363.out; subst eo32) | ((with_reducible refine gate_builtin (b := .append) (xs := #[.tmp 50, .tmp 52]) rfl ?_); (try (refine gate_guard (by rfl) ?_; dsimp only)); at_builtin; refine Kd.S_append (Kd.slice 3 (Kd.int .i64)) (w0 := w) w.heap.size rfl (.tmp 50) (.tmp 52) 44 29 (.slice none 0 0) 24 rfl Tryd.underlying44 info29 rfl (by decide) (by omega) u5 x5_2 t361 [.slice Ao32 t361.length co32] (fun k_ => some k_ ≠ (.slice Ao29 x3_1.length co29 : Value).ownBlock) (fun k_ => some k_ = (.slice Ao32 t361.length co32 : Value).ownBlock) rfl rfl ?aP (fun k_ hk_ => ((Kd.R_mono (ok' := fun k_ => ((fun k_ => some k_ ≠ (.slice Ao29 x3_1.length co29 : Value).ownBlock)) k_ ∧ some k_ ≠ (u5 : Value).ownBlock) (Kd.R_apart' (Kd.R_apart' (HO363.out) (Kd.S_typed HO_3.out) (by decide)) (Kd.S_typed HO_5.out) (by decide)) (fun k_ hk => ⟨hk.1.2, hk.2⟩))).1 k_ hk_.symm) ?aF ?aO ?aB ?aS ?aL ?_; (case aP => exact Kd.M_row (Kd.R_mono (Kd.R_tight rfl (Kd.R_mono (ok' := fun k_ => ((fun k_ => some k_ ≠ (.slice Ao29 x3_1.length co29 : Value).ownBlock)) k_ ∧ some k_ ≠ (u5 : Value).ownBlock) (Kd.R_apart' (Kd.R_apart' (HO363.out) (Kd.S_typed HO_3.out) (by decide)) (Kd.S_typed HO_5.out) (by decide)) (fun k_ hk => ⟨hk.1.2, hk.2⟩))) (fun _ h_ => h_))); (case aB => exact qB); (case aF => exact (fun k_ hk => Kd.fresh' (Kd.S_lt (qS HO_3.out)) k_ hk)); (case aO => exact (by (with_reducible repeat (first | apply Kd.S_alloc | apply Kd.S_drewN | apply Kd.S_drew)); exact Kd.S_mono HO_5.out (fun k_ hk => ⟨hk.1, fun e_ => hk.2 e_⟩))); (case aS => exact (below_size qB)); (case aL => have := LMc27.out; omega); intro v369 w31 ho hb hg hat; rw [← Ny368.out] at ho; replace HO_3 := Aside0.mk (Kd.S_after (ok := (fun k_ => some k_ ≠ (.slice Ao32 t361.length co32 : Value).ownBlock)) (by (with_reducible repeat (first | apply Kd.S_alloc | apply Kd.S_drewN | apply Kd.S_drew)); exact Kd.S_mono HO_3.out (fun _ hk => ⟨hk.2, hk.1⟩)) hg hat); replace BK353 := Aside0.mk (blk_grown (qK BK353.out) hg (Kd.S_ne HO_5.out BK353.out (by decide))); replace HB := Aside0.mk (hb); have HO370 := Aside0.mk (ho); clear HO_5 HO363; clear ho hb hg hat))
            go_roundg k2
            case measure => have := HK1.out; have := HK2.out; omega
            case rel => exact ⟨(y368), (false), (wrap64 (x7_2 + 1)), qT, qT, H', ⟨by have := HK1.out; have := HK2.out; omega⟩, ⟨by (with_reducible repeat (first | apply Kd.S_alloc | apply Kd.S_drewN | apply Kd.S_drew)); exact Kd.S_mono HO_3.out (fun _ hk => hk.2)⟩, ⟨qS HO370.out⟩, ⟨qK BK353.out⟩, ⟨qB⟩⟩
           ·rw [if_neg c27] at H
            exact absurd H (by simp)
         ·rw [if_neg c16] at H
          have c16b0 := decide_eq_false c16
          clear c16
          by_cases c33 : x6_2 = true
          ·subst c33
           have H1 : (some x5_2) = some r := by rw [if_pos rfl] at H; exact H
           clear H
           have H := H1
           clear H1
           obtain rfl := Option.some.inj H
           obtain ⟨hcz34_0, hcz34_1, hcz34_2, hcz34_3, hfz34_0, hfz34_1, hfz34_2, hfz34_3⟩ := bk4 BK353.out
           go_wp2
           go_ret
           exact ⟨_, qE, by (with_reducible repeat (first | apply Kd.S_alloc | apply Kd.S_drewN | apply Kd.S_drew)); exact Kd.S_mono HO_5.out (fun _ hk => trivial), qB⟩
          ·replace c33 := Bool.eq_false_iff.mpr c33
           subst c33
           have H1 : (cubbyref11_In.l0 k2 x5_2 (wrap64 (x4_1 + 1)) a0_0 a0_1 a0_2 l0_3) = some r := by rw [if_neg (show ¬ (false = true) by decide)] at H; exact H
           clear H
           have H := H1
           clear H1
           have H' := Aside0.mk H
           clear H
           obtain ⟨hcz35_0, hcz35_1, hcz35_2, hcz35_3, hfz35_0, hfz35_1, hfz35_2, hfz35_3⟩ := bk4 BK353.out
           go_wp2
           go_roundg k2
           case measure => have := HK1.out; have := HK2.out; omega
           case rel => exact ⟨(x5_2), (wrap64 (x4_1 + 1)), qT, H', ⟨by have := HK1.out; have := HK2.out; omega⟩, ⟨by (with_reducible repeat (first | apply Kd.S_alloc | apply Kd.S_drewN | apply Kd.S_drew)); exact Kd.S_mono HO_5.out (fun _ hk => trivial)⟩, ⟨qK BK353.out⟩, ⟨qB⟩⟩
      ·rw [if_neg c12] at H
       have c12b0 := decide_eq_false c12
       clear c12
       obtain rfl := Option.some.inj H
       obtain ⟨hcz36_0, hcz36_1, hcz36_2, hcz36_3, hfz36_0, hfz36_1, hfz36_2, hfz36_3⟩ := bk4 BK353.out
       go_wp2
       go_ret
       exact ⟨_, qE, qS HO_3.out, qB⟩
   ·rw [if_neg c5] at H
    exact absurd H (by simp)
  ·rw [if_neg c4] at H
   exact absurd H (by simp)
 ·rw [if_neg c3] at H
  obtain ⟨c3b0, c3b1⟩ := qn c3
  obtain rfl := Option.some.inj H
  go_enter Tryd.func28, Tryd.ntmps28
  go_wp2_with (first | ((with_reducible refine gate_dst (N := 1) rfl ?_); (try (refine gate_guard (by rfl) ?_; dsimp only)); refine box_event (by rfl) (N := 1) (by rfl) (cs := #[.string a0_0, .int .i64 a0_1, .int .i64 a0_2, .slice A0_3 l0_3.length c0_3]) (t := 34) ?hr ?_; (case hr => first | (go_simp; done) | (go_simp; rfl)); intro gb353 hg w37 hbox hb; have BK353 := Aside0.mk (hbox); have GW353 := qG hg; have GE353 := GW353; replace HB := qH hb; clear hb hbox hg; obtain ⟨hcz38_0, hcz38_1, hcz38_2, hcz38_3, hfz38_0, hfz38_1, hfz38_2, hfz38_3⟩ := bk4 BK353.out) | ((with_reducible refine gate_callee (f := 17) rfl ?_); refine goesL_ (some 10) rfl rfl Tryd.func17 (by kernel_rfl) rfl #[.agg #[.string a0_0, .int .i64 a0_1, .int .i64 a0_2, .slice A0_3 l0_3.length c0_3]] rfl qL ?_; (with_reducible refine (cubbyref07_Check.calls k a0_0 a0_1 a0_2 _ _ l0_3 t354 _ ?side1 ?side2 A2.out).mono ?_); (case side1 => exact qCB HR0_3.out); (case side2 => exact HC0_3.out); rintro e w39 ⟨rfl, hb⟩; refine ⟨_, rfl, ?_⟩; replace BK353 := qW BK353 hb; replace HB := qH hb; (try clear hb)))
  go_ret
  exact ⟨_, qE, by first | exact Kd.S_nil _ _ _ _ _ | exact Kd.N_nil _ _ _ _ _ | exact Kd.V_nil _ _ _ _ _ | exact Kd.Q_nil _ _ _ _ _ | exact Kd.R_nil _ _ _ _ _, qB⟩

end Go.Proofs.YtebnnknijbgekaaDoor.Q
namespace Go.Proofs.YtebnnknijbgekaaDoor.Q
open Go.RowKit Go.Proofs.YtebnnknijbgekaaDoorW.PrintWords Go.Proofs.YtebnnknijbgekaaDoorW.PrintLast Go.Proofs.YtebnnknijbgekaaDoorW.PrintMore
attribute [local go_sem] max2_int min2_int max_two min_two max_three min_three max_four min_four   -- for this text's walks alone
set_option linter.unusedVariables false
set_option linter.unusedSimpArgs false

/-! ### cubbyref11_Ahead: function 23 -/
def cubbyref11_Ahead.j0 : Nat → Int → Int → Bool → ByteArray → Int → Int → List (List (SIns)) → Option (List Int)
 | 0, _, _, _, _, _, _, _ => none
 | k + 1, x1, x2, x34, x372000, x372001, x372002, x372003 => if x34 = true then (some ([] : List Int)) else ((cubbyref11_In.f k x372000 x372001 x372002 x372003).bind fun t374 => ((cubbyref11_ahead.f k x372000 x372001 x372002 x372003 t374 x1 x2).bind fun t377 => (some t377)))
def cubbyref11_Ahead.f (k : Nat) (a0_0 : ByteArray) (a0_1 : Int) (a0_2 : Int) (l0_3 : List (List (SIns))) (a1 : Int) (a2 : Int) : Option (List Int) := (cubbyref07_Check.f k a0_0 a0_1 a0_2 l0_3).bind fun t372 => (if t372 = 0 then (if a1 < 0 then (cubbyref11_Ahead.j0 k a1 a2 true a0_0 a0_1 a0_2 l0_3) else (if a1 ≥ (l0_3.length : Int) then (cubbyref11_Ahead.j0 k a1 a2 true a0_0 a0_1 a0_2 l0_3) else (if a2 < 0 then (cubbyref11_Ahead.j0 k a1 a2 true a0_0 a0_1 a0_2 l0_3) else (if 0 ≤ a1 then (if a1 < (l0_3.length : Int) then (cubbyref11_Ahead.j0 k a1 a2 (decide (a2 > ((rd_LIns l0_3 a1).length : Int))) a0_0 a0_1 a0_2 l0_3) else (none)) else (none))))) else (cubbyref11_Ahead.j0 k a1 a2 true a0_0 a0_1 a0_2 l0_3))
theorem cubbyref11_Ahead.mono_l : ∀ k, (∀ y0 y1 y2 y3 y4 y5 y6, LeO (cubbyref11_Ahead.j0 k y0 y1 y2 y3 y4 y5 y6) (cubbyref11_Ahead.j0 (k + 1) y0 y1 y2 y3 y4 y5 y6))
 | 0 => fun _ _ _ _ _ _ _ r h => by simp [cubbyref11_Ahead.j0] at h
 | k + 1 => by
  have ih0 := cubbyref11_Ahead.mono_l k
  ·intro y0 y1 y2 y3 y4 y5 y6
   unfold cubbyref11_Ahead.j0
   repeat' first | (with_reducible exact ih0 _ _ _ _ _ _ _) | (with_reducible exact cubbyref07_Check.mono _ _ _ _ _) | (with_reducible exact cubbyref11_In.mono _ _ _ _ _) | (with_reducible exact cubbyref11_ahead.mono _ _ _ _ _ _ _ _) | (with_reducible exact LeO.refl _) | (with_reducible exact LeO.none _) | (with_reducible refine LeO.ite ?_ ?_) | (with_reducible refine LeO.bind ?_ (fun _ => ?_)) | exact LeO.none _ | refine LeO.ite ?_ ?_ | refine LeO.bind ?_ (fun _ => ?_)
theorem cubbyref11_Ahead.mono : ∀ a0 a1 a2 a3 a4 a5 k, LeO (cubbyref11_Ahead.f k a0 a1 a2 a3 a4 a5) (cubbyref11_Ahead.f (k + 1) a0 a1 a2 a3 a4 a5) := by
 intro a0 a1 a2 a3 a4 a5 k
 have ih0 := cubbyref11_Ahead.mono_l k
 unfold cubbyref11_Ahead.f
 repeat' first | (with_reducible exact ih0 _ _ _ _ _ _ _) | (with_reducible exact cubbyref07_Check.mono _ _ _ _ _) | (with_reducible exact cubbyref11_In.mono _ _ _ _ _) | (with_reducible exact cubbyref11_ahead.mono _ _ _ _ _ _ _ _) | (with_reducible exact LeO.refl _) | (with_reducible exact LeO.none _) | (with_reducible refine LeO.ite ?_ ?_) | (with_reducible refine LeO.bind ?_ (fun _ => ?_)) | exact LeO.none _ | refine LeO.ite ?_ ?_ | refine LeO.bind ?_ (fun _ => ?_)
set_option maxHeartbeats 8000000 in
set_option maxRecDepth 100000 in
theorem cubbyref11_Ahead.calls (k : Nat) (a0_0 : ByteArray) (a0_1 : Int) (a0_2 : Int) (A0_3 : Option Addr) (c0_3 : Nat) (l0_3 : List (List (SIns))) (a1 : Int) (a2 : Int) (r : List Int) (w : World) (hr0_3 : Kd.C (Kd.slice 31 kIns) w A0_3 l0_3.length l0_3) (hc0_3 : l0_3.length ≤ c0_3) (h : cubbyref11_Ahead.f k a0_0 a0_1 a0_2 l0_3 a1 a2 = some r) :
  Calls Tryd.prog 23 #[.agg #[.string a0_0, .int .i64 a0_1, .int .i64 a0_2, .slice A0_3 l0_3.length c0_3], .int .i64 a1, .int .i64 a2] w fun e w' => ∃ v0_ : Value, e = .returned (v0_) ∧ Kd.R (Kd.int .i64) 3 w' w.heap.size (fun _ => True) v0_ r ∧ Below w.heap.size w w' := by
 have hu34 := Tryd.underlying34
 have HR0_3 := Aside0.mk hr0_3
 have HC0_3 := Aside0.mk hc0_3
 clear hr0_3 hc0_3
 have HB := Aside0.mk (Below.refl w.heap.size w)
 have H := h; clear h; unfold cubbyref11_Ahead.f at H
 have HC4 := Aside0.mk H
 clear H
 go_enter Tryd.func23, Tryd.ntmps23
 go_upto_region 1 with (first | ((with_reducible refine gate_dst (N := 3) rfl ?_); (try (refine gate_guard (by rfl) ?_; dsimp only)); refine box_event (by rfl) (N := 3) (by rfl) (cs := #[.string a0_0, .int .i64 a0_1, .int .i64 a0_2, .slice A0_3 l0_3.length c0_3]) (t := 34) ?hr ?_; (case hr => first | (go_simp; done) | (go_simp; rfl)); intro gb371 hg w5 hbox hb; have BK371 := Aside0.mk (hbox); have GW371 := qG hg; have GE371 := GW371; replace HB := qH hb; clear hb hbox hg))
 (try simp only [Act.put, List.setIfInBounds_toArray, List.set_cons_zero, List.set_cons_succ])
 go_cut [34] (fun v34 wc => ∃ (kq : Nat) (x34_3 : Bool), v34 = .bool x34_3 ∧ Aside0 (cubbyref11_Ahead.j0 kq a1 a2 x34_3 a0_0 a0_1 a0_2 l0_3 = some r) ∧ Aside0 (kq ≤ k) ∧ Aside0 (wc.heap[gb371]? = some (.cells #[.string a0_0, .int .i64 a0_1, .int .i64 a0_2, (.slice A0_3 l0_3.length c0_3)] 34 (0, 0))) ∧ Aside0 (Below w.heap.size w wc))
 case first =>
  have H := HC4.out
  clear HC4
  replace H := qb H; obtain ⟨t372, A6, H⟩ := H
  by_cases c7 : t372 = 0
  ·rw [if_pos c7] at H
   obtain ⟨c7b0, c7b1⟩ := qe c7; clear c7
   (first | rw [c7b0] | (simp only [i64_w, i32_w]; rw [c7b0]) | skip)
   by_cases c8 : a1 < 0
   ·rw [if_pos c8] at H
    have c8b0 := decide_eq_true c8
    clear c8
    have H' := Aside0.mk H
    clear H
    obtain ⟨hcz9_0, hcz9_1, hcz9_2, hcz9_3, hfz9_0, hfz9_1, hfz9_2, hfz9_3⟩ := bk4 BK371.out
    go_wp2_with (first | ((with_reducible refine gate_callee (f := 17) rfl ?_); refine goesL_ (some 8) rfl rfl Tryd.func17 (by kernel_rfl) rfl #[.agg #[.string a0_0, .int .i64 a0_1, .int .i64 a0_2, .slice A0_3 l0_3.length c0_3]] rfl qL ?_; (with_reducible refine (cubbyref07_Check.calls k a0_0 a0_1 a0_2 _ _ l0_3 t372 _ ?side1 ?side2 A6.out).mono ?_); (case side1 => exact qCB HR0_3.out); (case side2 => exact HC0_3.out); rintro e w10 ⟨rfl, hb⟩; refine ⟨_, rfl, ?_⟩; replace BK371 := qW BK371 hb; replace HB := qH hb; (try clear hb)))
    go_meet
    case rel => exact ⟨_, (true), qT, H', ⟨qO⟩, ⟨qK BK371.out⟩, ⟨qB⟩⟩
   ·rw [if_neg c8] at H
    have c8b0 := decide_eq_false c8
    clear c8
    by_cases c11 : a1 ≥ (l0_3.length : Int)
    ·rw [if_pos c11] at H
     have c11b0 : decide ((l0_3.length : Int) ≤ a1) = true := decide_eq_true c11
     clear c11
     have H' := Aside0.mk H
     clear H
     obtain ⟨hcz12_0, hcz12_1, hcz12_2, hcz12_3, hfz12_0, hfz12_1, hfz12_2, hfz12_3⟩ := bk4 BK371.out
     go_wp2_with (first | ((with_reducible refine gate_callee (f := 17) rfl ?_); refine goesL_ (some 8) rfl rfl Tryd.func17 (by kernel_rfl) rfl #[.agg #[.string a0_0, .int .i64 a0_1, .int .i64 a0_2, .slice A0_3 l0_3.length c0_3]] rfl qL ?_; (with_reducible refine (cubbyref07_Check.calls k a0_0 a0_1 a0_2 _ _ l0_3 t372 _ ?side1 ?side2 A6.out).mono ?_); (case side1 => exact qCB HR0_3.out); (case side2 => exact HC0_3.out); rintro e w13 ⟨rfl, hb⟩; refine ⟨_, rfl, ?_⟩; replace BK371 := qW BK371 hb; replace HB := qH hb; (try clear hb); obtain ⟨hcz14_0, hcz14_1, hcz14_2, hcz14_3, hfz14_0, hfz14_1, hfz14_2, hfz14_3⟩ := bk4 BK371.out))
     go_meet
     case rel => exact ⟨_, (true), qT, H', ⟨qO⟩, ⟨qK BK371.out⟩, ⟨qB⟩⟩
    ·rw [if_neg c11] at H
     have c11b0 : decide ((l0_3.length : Int) ≤ a1) = false := decide_eq_false c11
     clear c11
     by_cases c15 : a2 < 0
     ·rw [if_pos c15] at H
      have c15b0 := decide_eq_true c15
      clear c15
      have H' := Aside0.mk H
      clear H
      obtain ⟨hcz16_0, hcz16_1, hcz16_2, hcz16_3, hfz16_0, hfz16_1, hfz16_2, hfz16_3⟩ := bk4 BK371.out
      go_wp2_with (first | ((with_reducible refine gate_callee (f := 17) rfl ?_); refine goesL_ (some 8) rfl rfl Tryd.func17 (by kernel_rfl) rfl #[.agg #[.string a0_0, .int .i64 a0_1, .int .i64 a0_2, .slice A0_3 l0_3.length c0_3]] rfl qL ?_; (with_reducible refine (cubbyref07_Check.calls k a0_0 a0_1 a0_2 _ _ l0_3 t372 _ ?side1 ?side2 A6.out).mono ?_); (case side1 => exact qCB HR0_3.out); (case side2 => exact HC0_3.out); rintro e w17 ⟨rfl, hb⟩; refine ⟨_, rfl, ?_⟩; replace BK371 := qW BK371 hb; replace HB := qH hb; (try clear hb); obtain ⟨hcz18_0, hcz18_1, hcz18_2, hcz18_3, hfz18_0, hfz18_1, hfz18_2, hfz18_3⟩ := bk4 BK371.out))
      go_meet
      case rel => exact ⟨_, (true), qT, H', ⟨qO⟩, ⟨qK BK371.out⟩, ⟨qB⟩⟩
     ·rw [if_neg c15] at H
      have c15b0 := decide_eq_false c15
      clear c15
      by_cases c19 : 0 ≤ a1
      ·rw [if_pos c19] at H
       have c19b0 := decide_eq_true c19
       clear c19
       by_cases c20 : a1 < (l0_3.length : Int)
       ·rw [if_pos c20] at H
        have c20b0 := decide_eq_true c20
        clear c20
        have H' := Aside0.mk H
        clear H
        obtain ⟨hcz21_0, hcz21_1, hcz21_2, hcz21_3, hfz21_0, hfz21_1, hfz21_2, hfz21_3⟩ := bk4 BK371.out
        go_wp2_with (first | ((with_reducible refine gate_callee (f := 17) rfl ?_); refine goesL_ (some 8) rfl rfl Tryd.func17 (by kernel_rfl) rfl #[.agg #[.string a0_0, .int .i64 a0_1, .int .i64 a0_2, .slice A0_3 l0_3.length c0_3]] rfl qL ?_; (with_reducible refine (cubbyref07_Check.calls k a0_0 a0_1 a0_2 _ _ l0_3 t372 _ ?side1 ?side2 A6.out).mono ?_); (case side1 => exact qCB HR0_3.out); (case side2 => exact HC0_3.out); rintro e w22 ⟨rfl, hb⟩; refine ⟨_, rfl, ?_⟩; replace BK371 := qW BK371 hb; replace HB := qH hb; (try clear hb); obtain ⟨hcz23_0, hcz23_1, hcz23_2, hcz23_3, hfz23_0, hfz23_1, hfz23_2, hfz23_3⟩ := bk4 BK371.out; have p373 : 0 ≤ (a1 : Int) := of_decide_eq_true qA; have q373 : a1 < (l0_3.length : Int) := of_decide_eq_true qA; obtain ⟨ad373, A373_0, c373_0, e373, hx373_0, hl373_0, hi373_0⟩ := at_LIns HR0_3.out a1 p373 q373; cases e373; replace hx373_0 := (HB.out.cell (World.block_lt_of_cell? w _ hx373_0)).trans hx373_0; have HR373_0 := Aside0.mk hi373_0; have HC373_0 := Aside0.mk hl373_0; clear hi373_0 hl373_0; replace p373 := eq_true p373; replace q373 := eq_true q373))
        go_meet
        case rel => exact ⟨_, (decide (a2 > ((rd_LIns l0_3 a1).length : Int))), qT, H', ⟨qO⟩, ⟨qK BK371.out⟩, ⟨qB⟩⟩
       ·rw [if_neg c20] at H
        exact absurd H (by simp)
      ·rw [if_neg c19] at H
       exact absurd H (by simp)
  ·rw [if_neg c7] at H
   obtain ⟨c7b0, c7b1⟩ := qn c7
   (first | rw [c7b0] | (simp only [i64_w, i32_w]; rw [c7b0]) | skip)
   have H' := Aside0.mk H
   clear H
   obtain ⟨hcz24_0, hcz24_1, hcz24_2, hcz24_3, hfz24_0, hfz24_1, hfz24_2, hfz24_3⟩ := bk4 BK371.out
   go_wp2_with (first | ((with_reducible refine gate_callee (f := 17) rfl ?_); refine goesL_ (some 8) rfl rfl Tryd.func17 (by kernel_rfl) rfl #[.agg #[.string a0_0, .int .i64 a0_1, .int .i64 a0_2, .slice A0_3 l0_3.length c0_3]] rfl qL ?_; (with_reducible refine (cubbyref07_Check.calls k a0_0 a0_1 a0_2 _ _ l0_3 t372 _ ?side1 ?side2 A6.out).mono ?_); (case side1 => exact qCB HR0_3.out); (case side2 => exact HC0_3.out); rintro e w25 ⟨rfl, hb⟩; refine ⟨_, rfl, ?_⟩; replace BK371 := qW BK371 hb; replace HB := qH hb; (try clear hb)))
   go_meet
   case rel => exact ⟨_, (true), qT, H', ⟨qO⟩, ⟨qK BK371.out⟩, ⟨qB⟩⟩
 case rest =>
  clear HC4
  try clear c1; try clear c2; try clear p2; try clear c3; try clear p3; try clear q3; try clear hx3; try clear c7; try clear c7b0 c7b1; try clear c8; try clear c8b0; try clear c11; try clear c11b0; try clear c15; try clear c15b0; try clear c17; try clear c19; try clear c19b0; try clear c20; try clear c20b0; try clear c23; try clear hcz12_0 hcz12_1 hcz12_2 hcz12_3 hfz12_0 hfz12_1 hfz12_2 hfz12_3; try clear hcz14_0 hcz14_1 hcz14_2 hcz14_3 hfz14_0 hfz14_1 hfz14_2 hfz14_3; try clear hcz16_0 hcz16_1 hcz16_2 hcz16_3 hfz16_0 hfz16_1 hfz16_2 hfz16_3; try clear hcz18_0 hcz18_1 hcz18_2 hcz18_3 hfz18_0 hfz18_1 hfz18_2 hfz18_3; try clear hcz21_0 hcz21_1 hcz21_2 hcz21_3 hfz21_0 hfz21_1 hfz21_2 hfz21_3; try clear hcz23_0 hcz23_1 hcz23_2 hcz23_3 hfz23_0 hfz23_1 hfz23_2 hfz23_3; try clear hcz24_0 hcz24_1 hcz24_2 hcz24_3 hfz24_0 hfz24_1 hfz24_2 hfz24_3; try clear hcz9_0 hcz9_1 hcz9_2 hcz9_3 hfz9_0 hfz9_1 hfz9_2 hfz9_3; try clear hx373_0; try clear p373; try clear q373
  obtain ⟨kq, x34_3, rfl, HA, HJ3, BK371, HB⟩ := hcut
  cases kq with
  | zero => exact absurd HA.out (by simp [cubbyref11_Ahead.j0])
  | succ kj3 =>
   have H := HA.out
   clear HA
   simp only [cubbyref11_Ahead.j0] at H
   by_cases c26 : x34_3 = true
   ·subst c26
    have H1 : (some ([] : List Int)) = some r := by rw [if_pos rfl] at H; exact H
    clear H
    have H := H1
    clear H1
    obtain rfl := Option.some.inj H
    go_wp2
    go_ret
    exact ⟨_, qE, by first | exact Kd.R_nil _ _ _ _ _ | exact Kd.N_nil _ _ _ _ _ | exact Kd.V_nil _ _ _ _ _ | exact Kd.Q_nil _ _ _ _ _ | exact Kd.S_nil _ _ _ _ _, qB⟩
   ·replace c26 := Bool.eq_false_iff.mpr c26
    subst c26
    have H1 : ((cubbyref11_In.f kj3 a0_0 a0_1 a0_2 l0_3).bind fun t374 => ((cubbyref11_ahead.f kj3 a0_0 a0_1 a0_2 l0_3 t374 a1 a2).bind fun t377 => (some t377))) = some r := by rw [if_neg (show ¬ (false = true) by decide)] at H; exact H
    clear H
    have H := H1
    clear H1
    replace H := qb H; obtain ⟨t374, A27, H⟩ := H
    replace H := qb H; obtain ⟨t377, A28, H⟩ := H
    obtain rfl := Option.some.inj H
    try go_wp2
    have n0_ := Aside0.mk (blk_drew BK371.out)
    have n1_ := Aside0.mk (below_drew1 HB.out)
    clear BK371
    clear HB
    have BK371 := n0_
    have HB := n1_
    clear n0_ n1_
    refine start_ (n := 7) (S := fun w' => w'.cell? ⟨gb371, 0, none⟩ = some (.string a0_0) ∧ w'.cell? ⟨gb371, 1, none⟩ = some (.int .i64 a0_1) ∧ w'.cell? ⟨gb371, 2, none⟩ = some (.int .i64 a0_2) ∧ w'.cell? ⟨gb371, 3, none⟩ = some (.slice A0_3 l0_3.length c0_3)) (ds := []) #[false, false, false, false, false, false, false] (by kernel_rfl) rfl rfl ⟨(blk_cell BK371.out 0).trans rfl, (blk_cell BK371.out 1).trans rfl, (blk_cell BK371.out 2).trans rfl, (blk_cell BK371.out 3).trans rfl⟩ (fun hHeld => ?_)
    generalize wc.drew = w29 at BK371 HB hHeld ⊢
    refine pure_ (i := 3) (N := some 38) (v := ?_) (a' := ?_) #[false, false, false, true, false, false, false] rfl rfl (by kernel_rfl) (fun _ _ _ h => h) (Or.inl ⟨by rfl, ?_⟩) ?_ ?_
    rotate_left
    ·intro w'
     go_simp
     with_reducible rfl
    rotate_left
    ·simp only [Act.put, List.setIfInBounds_toArray, List.set_cons_zero, List.set_cons_succ, i64_w, i32_w]
     rfl
    refine pure_ (i := 4) (N := some 39) (v := ?_) (a' := ?_) #[false, false, false, true, true, false, false] rfl rfl (by kernel_rfl) (fun _ _ _ h => h) (Or.inl ⟨by rfl, ?_⟩) ?_ ?_
    rotate_left
    ·intro w'
     go_simp
     with_reducible rfl
    rotate_left
    ·simp only [Act.put, List.setIfInBounds_toArray, List.set_cons_zero, List.set_cons_succ, i64_w, i32_w]
     rfl
    refine take_ (i := 0) (N := some 35) (v := ?_) (a' := ?_) #[true, false, false, true, true, false, false] rfl rfl (by kernel_rfl) (fun _ _ _ h => h) (Or.inl ⟨by rfl, ?_⟩) hHeld ?_ ?_
    rotate_left
    ·rintro w' ⟨s0, s1, s2, s3⟩
     go_simp
     with_reducible rfl
    rotate_left
    ·simp only [Act.put, List.setIfInBounds_toArray, List.set_cons_zero, List.set_cons_succ, i64_w, i32_w]
     rfl
    refine take_ (i := 1) (N := some 36) (v := ?_) (a' := ?_) #[true, true, false, true, true, false, false] rfl rfl (by kernel_rfl) (fun _ _ _ h => h) (Or.inl ⟨by rfl, ?_⟩) hHeld ?_ ?_
    rotate_left
    ·rintro w' ⟨s0, s1, s2, s3⟩
     go_simp
     with_reducible rfl
    rotate_left
    ·simp only [Act.put, List.setIfInBounds_toArray, List.set_cons_zero, List.set_cons_succ, i64_w, i32_w]
     rfl
    refine one_ (i := 2) (N := some 37) #[true, true, true, true, true, false, false] rfl rfl (by kernel_rfl) (by decide) (fun K hK => ?_)
    refine goes_ Tryd.func28 (by kernel_rfl) rfl #[.agg #[.string a0_0, .int .i64 a0_1, .int .i64 a0_2, .slice A0_3 l0_3.length c0_3]] (by rfl) rfl rfl qL ?_
    with_reducible refine (cubbyref11_In.calls kj3 a0_0 a0_1 a0_2 _ _ l0_3 t374 _ ?side1 ?side2 A27.out).mono ?_
    (case side1 => exact qCB HR0_3.out)
    (case side2 => exact HC0_3.out)
    rintro e w30 ⟨v375, rfl, ho0, hb⟩
    refine ⟨_, rfl, ?_⟩
    have n0_ := Aside0.mk (Kd.S_lower ho0 (below_size qB))
    have n1_ := qW BK371 hb
    have n2_ := qH hb
    clear BK371
    clear HB
    have HO376 := n0_
    have BK371 := n1_
    have HB := n2_
    clear n0_ n1_ n2_
    (try clear hb)
    (try clear hb2)
    (try clear hk)
    (try clear hi)
    (try clear ho0)
    obtain ⟨Ao31, co31, eo31⟩ := Kd.S_slice HO376.out
    (first | subst eo31 | (injection eo31 with f1_ f2_ f3_; have f4_ := f1_.symm; have f5_ := f3_.symm; clear f1_ f2_ f3_; subst f4_; subst f5_))
    refine hK.out _ _ ⟨(blk_cell BK371.out 0).trans rfl, (blk_cell BK371.out 1).trans rfl, (blk_cell BK371.out 2).trans rfl, (blk_cell BK371.out 3).trans rfl⟩ (fun hHeld => ?_)
    clear hK K
    refine norm_ (a' := ?_) ?_ ?_
    rotate_left
    ·show Act.put _ (some 37) _ = _
     simp only [Act.put, List.setIfInBounds_toArray, List.set_cons_zero, List.set_cons_succ, i64_w, i32_w]
     rfl
    refine one_ (i := 5) (N := some 40) #[true, true, true, true, true, true, false] rfl rfl (by kernel_rfl) (by decide) (fun K hK => ?_)
    refine goes_ Tryd.func53 (by kernel_rfl) rfl #[.agg #[.string a0_0, .int .i64 a0_1, .int .i64 a0_2, .slice A0_3 l0_3.length c0_3], .slice Ao31 t374.length co31, .int .i64 a1, .int .i64 a2] (by rfl) rfl rfl qL ?_
    with_reducible refine (cubbyref11_ahead.calls kj3 a0_0 a0_1 a0_2 _ _ l0_3 _ _ t374 a1 a2 t377 _ ?side1 ?side2 ?side3 ?side4 A28.out).mono ?_
    (case side1 => exact qCB HR0_3.out)
    (case side2 => exact HC0_3.out)
    (case side3 => repeat (first | exact (Kd.S_reads' HO376.out).2.2 | (with_reducible refine Kd.C_alloc ?_ _) | (with_reducible refine Kd.C_drewN ?_ _) | (with_reducible refine Kd.C_drew ?_)))
    (case side4 => exact (Kd.S_reads' HO376.out).2.1)
    rintro e w32 ⟨v378, rfl, ho0, hb⟩
    refine ⟨_, rfl, ?_⟩
    have n0_ := Aside0.mk (Kd.S_elder' (qS HO376.out) (Kd.R_base ho0) hb)
    have n1_ := Aside0.mk (Kd.R_lower ho0 (below_size qB))
    have n2_ := qW BK371 hb
    have n3_ := qH hb
    clear HO376
    clear BK371
    clear HB
    have HO376 := n0_
    have HO379 := n1_
    have BK371 := n2_
    have HB := n3_
    clear n0_ n1_ n2_ n3_
    (try clear hb)
    (try clear hb2)
    (try clear hk)
    (try clear hi)
    (try clear ho0)
    refine hK.out _ _ ⟨(blk_cell BK371.out 0).trans rfl, (blk_cell BK371.out 1).trans rfl, (blk_cell BK371.out 2).trans rfl, (blk_cell BK371.out 3).trans rfl⟩ (fun hHeld => ?_)
    clear hK K
    refine norm_ (a' := ?_) ?_ ?_
    rotate_left
    ·show Act.put _ (some 40) _ = _
     simp only [Act.put, List.setIfInBounds_toArray, List.set_cons_zero, List.set_cons_succ, i64_w, i32_w]
     rfl
    refine pure_ (i := 6) (N := some 6) (v := ?_) (a' := ?_) #[true, true, true, true, true, true, true] rfl rfl (by kernel_rfl) (fun _ _ _ h => h) (Or.inl ⟨by rfl, ?_⟩) ?_ ?_
    rotate_left
    ·intro w'
     go_simp
     with_reducible rfl
    rotate_left
    ·simp only [Act.put, List.setIfInBounds_toArray, List.set_cons_zero, List.set_cons_succ, i64_w, i32_w]
     rfl
    refine done_ (by kernel_rfl) ?_
    try go_wp2
    go_ret
    exact ⟨_, qE, qR HO379.out, qB⟩

end Go.Proofs.YtebnnknijbgekaaDoor.Q
namespace Go.Proofs.YtebnnknijbgekaaDoor.Q
open Go.RowKit Go.Shelf Go.Proofs.YtebnnknijbgekaaDoorW.PrintWords Go.Proofs.YtebnnknijbgekaaDoorW.PrintLast Go.Proofs.YtebnnknijbgekaaDoorW.PrintMore
set_option linter.unusedVariables false

def nameCut : ByteArray := ⟨#[97, 98, 99, 100, 101, 102, 103, 104, 105, 106, 107, 108, 109, 110, 111, 112, 113, 114, 115, 116, 117, 118, 119, 120, 121, 122, 48, 49, 50, 51, 52, 53, 54, 55, 56, 57]⟩
def strings_Trim.f (a0 a1 : ByteArray) : Option ByteArray := if a0.size ≤ 9223372036854775807 ∧ a1 = nameCut then some ⟨(Lib.trimS a0.data.toList a1.data.toList).toArray⟩ else none
theorem strings_Trim.calls (a0 a1 : ByteArray) (r : ByteArray) (w : World) (h : strings_Trim.f a0 a1 = some r) :
    Calls Tryd.prog 65 #[.string a0, .string a1] w fun e w' => e = .returned (.string r) ∧ Below w.heap.size w w' := by
  unfold strings_Trim.f at h
  split at h
  · next c =>
    obtain ⟨c0, rfl⟩ := c
    obtain rfl := Option.some.inj h
    exact Any.strings_Trim_laid Tryd.lays160 (by kernel_rfl) a0 nameCut w c0 (by decide) (ascii_of_all (by decide))
  · exact absurd h (by simp)
end Go.Proofs.YtebnnknijbgekaaDoor.Q
namespace Go.Proofs.YtebnnknijbgekaaDoor.Q
open Go.RowKit Go.Proofs.YtebnnknijbgekaaDoorW.PrintWords Go.Proofs.YtebnnknijbgekaaDoorW.PrintLast Go.Proofs.YtebnnknijbgekaaDoorW.PrintMore
attribute [local go_sem] max2_int min2_int max_two min_two max_three min_three max_four min_four   -- for this text's walks alone
set_option linter.unusedVariables false
set_option linter.unusedSimpArgs false

/-! ### ir_Name: function 40 -/
def ir_Name.f (a0 : ByteArray) : Option (Bool) := if a0.toList = ([] : List UInt8) then (some false) else (if (a0.size : Int) > 12 then (some false) else (if 0 < (a0.size : Int) then (if (bt a0 0) < 97 then (some false) else ((strings_Trim.f a0 (⟨#[97, 98, 99, 100, 101, 102, 103, 104, 105, 106, 107, 108, 109, 110, 111, 112, 113, 114, 115, 116, 117, 118, 119, 120, 121, 122, 48, 49, 50, 51, 52, 53, 54, 55, 56, 57]⟩ : ByteArray)).bind fun t169 => (some (t169.toList == ([] : List UInt8))))) else (none)))
set_option maxHeartbeats 8000000 in
set_option maxRecDepth 100000 in
theorem ir_Name.calls (a0 : ByteArray) (r : Bool) (w : World) (h : ir_Name.f a0 = some r) :
  Calls Tryd.prog 40 #[.string a0] w fun e w' => e = .returned (.bool r) ∧ Below w.heap.size w w' := by
 have HB := Aside0.mk (Below.refl w.heap.size w)
 have H := h; clear h; unfold ir_Name.f at H
 by_cases c2 : a0.toList = ([] : List UInt8)
 ·rw [if_pos c2] at H
  obtain ⟨c2b0, c2b1⟩ := qe c2; clear c2
  obtain rfl := Option.some.inj H
  go_enter Tryd.func40, Tryd.ntmps40
  go_wp2
  go_ret
  exact ⟨qE, qB⟩
 ·rw [if_neg c2] at H
  obtain ⟨c2b0, c2b1⟩ := qn c2
  by_cases c3 : (a0.size : Int) > 12
  ·rw [if_pos c3] at H
   have c3b0 : decide (12 < (a0.size : Int)) = true := decide_eq_true c3
   have c3b1 : decide (12 < a0.size) = true := decide_eq_true (by omega)
   clear c3
   obtain rfl := Option.some.inj H
   go_enter Tryd.func40, Tryd.ntmps40
   go_wp2
   go_ret
   exact ⟨qE, qB⟩
  ·rw [if_neg c3] at H
   have c3b0 : decide (12 < (a0.size : Int)) = false := decide_eq_false c3
   have c3b1 : decide (12 < a0.size) = false := decide_eq_false (by omega)
   clear c3
   by_cases c4 : 0 < (a0.size : Int)
   ·rw [if_pos c4] at H
    have c4b0 := decide_eq_true c4
    have c4b1 : decide (0 < a0.size) = true := decide_eq_true (by omega)
    clear c4
    by_cases c6 : (bt a0 0) < 97
    ·rw [if_pos c6] at H
     have c6b0 := decide_eq_true c6
     clear c6
     obtain rfl := Option.some.inj H
     have p5 : 0 ≤ (0 : Int) := (by omega)
     have q5 : 0 < a0.size := (by have : (0 : Int) < (a0.size : Int) := of_decide_eq_true qA; omega)
     have hx5 : ∀ h : 0 < a0.size, ((a0[0]'h).toNat : Int) = bt a0 0 := bt_at a0 0
     clear p5
     have qi5 : (0 < (a0.size : Int)) = True := eq_true (of_decide_eq_true qA)
     replace q5 := eq_true q5
     go_enter Tryd.func40, Tryd.ntmps40
     go_wp2
     go_ret
     exact ⟨qE, qB⟩
    ·rw [if_neg c6] at H
     have c6b0 := decide_eq_false c6
     clear c6
     replace H := qb H; obtain ⟨t169, A7, H⟩ := H
     obtain rfl := Option.some.inj H
     have p5 : 0 ≤ (0 : Int) := (by omega)
     have q5 : 0 < a0.size := (by have : (0 : Int) < (a0.size : Int) := of_decide_eq_true qA; omega)
     have hx5 : ∀ h : 0 < a0.size, ((a0[0]'h).toNat : Int) = bt a0 0 := bt_at a0 0
     clear p5
     have qi5 : (0 < (a0.size : Int)) = True := eq_true (of_decide_eq_true qA)
     replace q5 := eq_true q5
     go_enter Tryd.func40, Tryd.ntmps40
     go_wp2_with (first | ((with_reducible refine gate_callee (f := 65) rfl ?_); refine goesL_ (some 16) rfl rfl Tryd.func65 (by kernel_rfl) rfl #[.string a0, .string (⟨#[97, 98, 99, 100, 101, 102, 103, 104, 105, 106, 107, 108, 109, 110, 111, 112, 113, 114, 115, 116, 117, 118, 119, 120, 121, 122, 48, 49, 50, 51, 52, 53, 54, 55, 56, 57]⟩ : ByteArray)] rfl qL ?_; (with_reducible refine (strings_Trim.calls a0 (⟨#[97, 98, 99, 100, 101, 102, 103, 104, 105, 106, 107, 108, 109, 110, 111, 112, 113, 114, 115, 116, 117, 118, 119, 120, 121, 122, 48, 49, 50, 51, 52, 53, 54, 55, 56, 57]⟩ : ByteArray) t169 _ A7.out).mono ?_); rintro e w8 ⟨rfl, hb⟩; refine ⟨_, rfl, ?_⟩; replace HB := qH hb; (try clear hb)))
     go_ret
     exact ⟨qE, qB⟩
   ·rw [if_neg c4] at H
    exact absurd H (by simp)

end Go.Proofs.YtebnnknijbgekaaDoor.Q
namespace Go.Proofs.YtebnnknijbgekaaDoor.Q
open Go.RowKit Go.Shelf Go.Proofs.YtebnnknijbgekaaDoorW.PrintWords Go.Proofs.YtebnnknijbgekaaDoorW.PrintLast Go.Proofs.YtebnnknijbgekaaDoorW.PrintMore
set_option linter.unusedVariables false

/-- Is it none of the registers? -/
def oddReg (regs n : Int) : Bool := decide (n < 0 ∨ regs ≤ n)
theorem ir_one_1.pred {regs p : Int} {nm : ByteArray} {bl : Value} {g : Nat} {w : World} (hbk : w.heap[g]? = some (.cells #[.string nm, .int .i64 p, .int .i64 regs, bl] 34 (0, 0))) :
    PredAt Tryd.prog 89 #[.pointer (some ⟨g, 0, none⟩)] (Value.int .i64) (oddReg regs) w := fun W x hb => by
  have hc : W.cell? ⟨g, 2, none⟩ = some (.int .i64 regs) := (blk_cell (blk_below hbk hb) 2).trans rfl
  show Calls Tryd.prog 89 #[.int .i64 x, .pointer (some ⟨g, 0, none⟩)] W _
  clear hbk hb
  unfold oddReg
  by_cases c0 : x < 0
  · have c0b : decide (x < 0) = true := decide_eq_true c0
    rw [decide_eq_true (.inl c0)]
    go_enter Tryd.func89, Tryd.ntmps89
    go_wp2
    go_ret
    exact ⟨rfl, 0, rfl⟩
  · have c0b : decide (x < 0) = false := decide_eq_false c0
    by_cases c1 : regs ≤ x
    · have c1b : decide (regs ≤ x) = true := decide_eq_true c1
      rw [decide_eq_true (.inr c1)]
      go_enter Tryd.func89, Tryd.ntmps89
      go_wp2
      go_ret
      exact ⟨rfl, 0, rfl⟩
    · have c1b : decide (regs ≤ x) = false := decide_eq_false c1
      rw [decide_eq_false (by omega)]
      go_enter Tryd.func89, Tryd.ntmps89
      go_wp2
      go_ret
      exact ⟨rfl, 0, rfl⟩

def ir_one_1.f (a0 : Int) (a1_0 : ByteArray) (a1_1 : Int) (a1_2 : Int) (l1_3 : List (List SIns)) : Option Bool := some (oddReg a1_2 a0)
theorem ir_one_1.calls (a0 : Int) (a1_0 : ByteArray) (a1_1 : Int) (a1_2 : Int) (A1_3 : Option Addr) (c1_3 : Nat) (l1_3 : List (List SIns)) (r : Bool) (w : World) (hr1_3 : Kd.C (Kd.slice 31 kIns) w A1_3 l1_3.length l1_3) (hc1_3 : l1_3.length ≤ c1_3) (h : ir_one_1.f a0 a1_0 a1_1 a1_2 l1_3 = some r)
    {gb_ : Nat} (hbk : w.heap[gb_]? = some (.cells #[.string a1_0, .int .i64 a1_1, .int .i64 a1_2, .slice A1_3 l1_3.length c1_3] 34 (0, 0))) :
    Calls Tryd.prog 89 #[.int .i64 a0, .pointer (some ⟨gb_, 0, none⟩)] w fun e w' => e = .returned (.bool r) ∧ Below w.heap.size w w' := by
  obtain rfl := Option.some.inj h
  exact (ir_one_1.pred hbk w a0 (Below.refl _ _)).mono fun e w' q => ⟨q.1, by
    obtain ⟨n, rfl⟩ := q.2
    exact below_drewN' (Below.refl _ w) n⟩

theorem spot_none {w : World} {ad : Addr} {v : Value} (h : w.cell? ad = some v) : ad.spot = none := by
  unfold World.cell? at h
  split at h
  · split at h
    · exact absurd h (by simp)
    · next hs => simpa using hs
  · exact absurd h (by simp)

def slices_ContainsFunc_int_int.f (l0 : List Int) (a1_0 : ByteArray) (a1_1 : Int) (a1_2 : Int) (l1_3 : List (List SIns)) : Option Bool := some (l0.any (oddReg a1_2))
theorem slices_ContainsFunc_int_int.calls (A0 : Option Addr) (c0 : Nat) (l0 : List Int) (a1_0 : ByteArray) (a1_1 : Int) (a1_2 : Int) (A1_3 : Option Addr) (c1_3 : Nat) (l1_3 : List (List SIns)) (r : Bool) (w : World) (hr0 : Kd.C (Kd.int .i64) w A0 l0.length l0) (hc0 : l0.length ≤ c0) (hr1_3 : Kd.C (Kd.slice 31 kIns) w A1_3 l1_3.length l1_3) (hc1_3 : l1_3.length ≤ c1_3) (h : slices_ContainsFunc_int_int.f l0 a1_0 a1_1 a1_2 l1_3 = some r)
    {gb_ : Nat} (hbk : w.heap[gb_]? = some (.cells #[.string a1_0, .int .i64 a1_1, .int .i64 a1_2, .slice A1_3 l1_3.length c1_3] 34 (0, 0))) :
    Calls Tryd.prog 90 #[.slice A0 l0.length c0, .func (.func 89) #[] #[.pointer (some ⟨gb_, 0, none⟩)]] w fun e w' => e = .returned (.bool r) ∧ Below w.heap.size w w' := by
  obtain rfl := Option.some.inj h
  have hR := Kd.reads_of_C (enc := Value.int .i64) (d := (0 : Int)) (h1 := fun _ => rfl) hr0
  have hp := ir_one_1.pred hbk
  have eg : ∀ args w, (callFunc 89 args).run Tryd.prog w = .ok (.enter 89 args) w := enters_of Tryd.func89 (by kernel_rfl) rfl
  clear hbk hr1_3 hc1_3 hr0
  cases l0 with
  | nil =>
    refine (AnyE.slices_ContainsFunc_empty Tryd.l8 A0 c0 _ w).mono ?_
    rintro e w' ⟨rfl, rfl⟩
    exact ⟨rfl, Below.refl _ _⟩
  | cons x xs =>
    obtain ⟨ad, rfl, hc⟩ := hR.2.2 (by simp)
    have hs : ad.spot = none := spot_none (hc 0 (by simp))
    obtain ⟨b, off, sp⟩ := ad
    obtain rfl : sp = none := hs
    have hcell : ∀ j, j < (x :: xs).length → w.cell? ⟨b, off + j, none⟩ = some (.int .i64 ((x :: xs)[j]!)) := by
      intro j hj
      have e := hc j hj
      have e1 : (Addr.add ⟨b, off, none⟩ j) = ⟨b, off + j, none⟩ := by
        unfold Addr.add
        split
        · next h0 => rw [h0]; rfl
        · rfl
      rw [e1] at e
      rw [e]
      congr 2
      rw [List.getD_eq_getElem?_getD, List.getElem!_eq_getElem?_getD]
      rfl
    refine (AnyE.slices_ContainsFunc Tryd.l8 (Value.int .i64) (oddReg a1_2) 89 #[.pointer (some ⟨gb_, 0, none⟩)] eg b off (x :: xs).length c0 (x :: xs) w hp (Nat.le_refl _) hR.2.1 hcell).mono ?_
    rintro e w' ⟨rfl, n, rfl⟩
    rw [List.take_length]
    exact ⟨rfl, below_drewN' (Below.refl _ w) n⟩
end Go.Proofs.YtebnnknijbgekaaDoor.Q
namespace Go.Proofs.YtebnnknijbgekaaDoor.Q
open Go.RowKit Go.Proofs.YtebnnknijbgekaaDoorW.PrintWords Go.Proofs.YtebnnknijbgekaaDoorW.PrintLast Go.Proofs.YtebnnknijbgekaaDoorW.PrintMore
attribute [local go_sem] max2_int min2_int max_two min_two max_three min_three max_four min_four   -- for this text's walks alone
set_option linter.unusedVariables false
set_option linter.unusedSimpArgs false

/-! ### ir_Last: function 88 -/
def ir_Last.f (a0 : Int) : Option (Bool) := if a0 ≥ 12 then (some (decide (a0 ≤ 14))) else (some false)
set_option maxHeartbeats 8000000 in
set_option maxRecDepth 100000 in
theorem ir_Last.calls (a0 : Int) (r : Bool) (w : World) (h : ir_Last.f a0 = some r) :
  Calls Tryd.prog 88 #[.int .i64 a0] w fun e w' => e = .returned (.bool r) ∧ Drawn0 w w' := by
 have H := h; clear h; unfold ir_Last.f at H
 by_cases c2 : a0 ≥ 12
 ·rw [if_pos c2] at H
  have c2b0 : decide (12 ≤ a0) = true := decide_eq_true c2
  clear c2
  obtain rfl := Option.some.inj H
  go_enter Tryd.func88, Tryd.ntmps88
  go_wp2
  go_ret
  exact ⟨by first | rfl | (simp; done) | (simp [*]; done), qD⟩
 ·rw [if_neg c2] at H
  have c2b0 : decide (12 ≤ a0) = false := decide_eq_false c2
  clear c2
  obtain rfl := Option.some.inj H
  go_enter Tryd.func88, Tryd.ntmps88
  go_wp2
  go_ret
  exact ⟨by first | rfl | (simp; done) | (simp [*]; done), qD⟩

end Go.Proofs.YtebnnknijbgekaaDoor.Q
namespace Go.Proofs.YtebnnknijbgekaaDoor.Q
open Go.RowKit Go.Proofs.YtebnnknijbgekaaDoorW.PrintWords Go.Proofs.YtebnnknijbgekaaDoorW.PrintLast Go.Proofs.YtebnnknijbgekaaDoorW.PrintMore
attribute [local go_sem] max2_int min2_int max_two min_two max_three min_three max_four min_four   -- for this text's walks alone
set_option linter.unusedVariables false
set_option linter.unusedSimpArgs false

/-! ### ir_Targets: function 91 -/
def ir_Targets.f (a0_0 : Int) (a0_1 : Int) (a0_2 : Int) (a0_3 : Int) (a0_4 : ByteArray) (l0_5 : List Int) : Option (List Int) := if a0_0 = 12 then (some (([a0_2] : List Int))) else (if a0_0 = 13 then (some (([a0_3, a0_1] : List Int))) else (some ([] : List Int)))
set_option maxHeartbeats 8000000 in
set_option maxRecDepth 100000 in
theorem ir_Targets.calls (a0_0 : Int) (a0_1 : Int) (a0_2 : Int) (a0_3 : Int) (a0_4 : ByteArray) (A0_5 : Option Addr) (c0_5 : Nat) (l0_5 : List Int) (r : List Int) (w : World) (hr0_5 : Kd.C (Kd.int .i64) w A0_5 l0_5.length l0_5) (hc0_5 : l0_5.length ≤ c0_5) (h : ir_Targets.f a0_0 a0_1 a0_2 a0_3 a0_4 l0_5 = some r) :
  Calls Tryd.prog 91 #[.agg #[.int .i64 a0_0, .int .i64 a0_1, .int .i64 a0_2, .int .i64 a0_3, .string a0_4, .slice A0_5 l0_5.length c0_5]] w fun e w' => ∃ v0_ : Value, e = .returned (v0_) ∧ Kd.R (Kd.int .i64) 3 w' w.heap.size (fun _ => True) v0_ r ∧ Below w.heap.size w w' := by
 have hu31 := Tryd.underlying31
 have HR0_5 := Aside0.mk hr0_5
 have HC0_5 := Aside0.mk hc0_5
 clear hr0_5 hc0_5
 have HB := Aside0.mk (Below.refl w.heap.size w)
 have H := h; clear h; unfold ir_Targets.f at H
 by_cases c2 : a0_0 = 12
 ·rw [if_pos c2] at H
  obtain ⟨c2b0, c2b1⟩ := qe c2; clear c2
  obtain ⟨y171, hy171⟩ : ∃ y_ : List Int, y_ = (([a0_2] : List Int)) := ⟨_, rfl⟩
  replace H : (some y171) = some r := by first | (rw [hy171]; with_reducible exact H) | (have H2_ := (Option.bind_some _ _).symm.trans H; rw [hy171]; with_reducible exact H2_) | (have H2_ := (Option.bind_some _ _).symm.trans H; with_reducible exact H2_) | with_reducible exact H | (rw [hy171]; exact H) | exact H
  have Ny171 := Aside0.mk hy171
  clear hy171
  obtain rfl := Option.some.inj H
  go_enter Tryd.func91, Tryd.ntmps91
  go_wp2_with (first | ((with_reducible refine gate_dst (N := 1) rfl ?_); refine box_event (by rfl) (N := 1) (by rfl) (cs := #[.int .i64 a0_0, .int .i64 a0_1, .int .i64 a0_2, .int .i64 a0_3, .string a0_4, .slice A0_5 l0_5.length c0_5]) (t := 31) ?hr ?_; (case hr => first | (go_simp; done) | (go_simp; rfl)); intro gb170 hg w3 hbox hb; have BK170 := Aside0.mk (hbox); have GW170 := qG hg; have GE170 := GW170; replace HB := qH hb; clear hb hbox hg; obtain ⟨hcz4_0, hcz4_1, hcz4_2, hcz4_3, hcz4_4, hcz4_5, hfz4_0, hfz4_1, hfz4_2, hfz4_3, hfz4_4, hfz4_5⟩ := bk6 BK170.out) | ((with_reducible refine gate_dst (N := 9) rfl ?_); refine Kd.R_lit (Kd.int .i64) _ 3 (by rfl) (N := 9) (by rfl) (xs := ([a0_2] : List Int)) (inner := [.int .i64 a0_2]) (ok := fun _ => True) (okp := fun _ => True) ?hr ?hp (fun _ hk => hk) trivial (Below.refl _ _) (Nat.le_refl _) (by simp) ?_; (case hr => first | (go_simp; done) | (go_simp; rfl)); (case hp => exact (Reps.one (show Kd.M (Kd.int .i64) _ _ _ a0_2 [.int .i64 a0_2] from rfl) (Reps.none _ _))); intro v172 w5 ho6 hb hg_ hnew_; clear hg_ hnew_; (first | rw [← Ny171.out] at ho6 | (simp only [Int.reduceToNat] at ho6; rw [← Ny171.out] at ho6)); have HO173 := Aside0.mk (Kd.R_lower ho6 (below_size qB)); replace BK170 := qW BK170 hb; replace HB := qH hb; clear hb ho6))
  go_ret
  exact ⟨_, qE, qR HO173.out, qB⟩
 ·rw [if_neg c2] at H
  obtain ⟨c2b0, c2b1⟩ := qn c2
  by_cases c7 : a0_0 = 13
  ·rw [if_pos c7] at H
   obtain ⟨c7b0, c7b1⟩ := qe c7; clear c7
   obtain ⟨y174, hy174⟩ : ∃ y_ : List Int, y_ = (([a0_3, a0_1] : List Int)) := ⟨_, rfl⟩
   replace H : (some y174) = some r := by first | (rw [hy174]; with_reducible exact H) | (have H2_ := (Option.bind_some _ _).symm.trans H; rw [hy174]; with_reducible exact H2_) | (have H2_ := (Option.bind_some _ _).symm.trans H; with_reducible exact H2_) | with_reducible exact H | (rw [hy174]; exact H) | exact H
   have Ny174 := Aside0.mk hy174
   clear hy174
   obtain rfl := Option.some.inj H
   go_enter Tryd.func91, Tryd.ntmps91
   go_wp2_with (first | ((with_reducible refine gate_dst (N := 1) rfl ?_); refine box_event (by rfl) (N := 1) (by rfl) (cs := #[.int .i64 a0_0, .int .i64 a0_1, .int .i64 a0_2, .int .i64 a0_3, .string a0_4, .slice A0_5 l0_5.length c0_5]) (t := 31) ?hr ?_; (case hr => first | (go_simp; done) | (go_simp; rfl)); intro gb170 hg w8 hbox hb; have BK170 := Aside0.mk (hbox); have GW170 := qG hg; have GE170 := GW170; replace HB := qH hb; clear hb hbox hg; obtain ⟨hcz9_0, hcz9_1, hcz9_2, hcz9_3, hcz9_4, hcz9_5, hfz9_0, hfz9_1, hfz9_2, hfz9_3, hfz9_4, hfz9_5⟩ := bk6 BK170.out) | ((with_reducible refine gate_dst (N := 16) rfl ?_); refine Kd.R_lit (Kd.int .i64) _ 3 (by rfl) (N := 16) (by rfl) (xs := ([a0_3, a0_1] : List Int)) (inner := [.int .i64 a0_3, .int .i64 a0_1]) (ok := fun _ => True) (okp := fun _ => True) ?hr ?hp (fun _ hk => hk) trivial (Below.refl _ _) (Nat.le_refl _) (by simp) ?_; (case hr => first | (go_simp; done) | (go_simp; rfl)); (case hp => exact (Reps.one (show Kd.M (Kd.int .i64) _ _ _ a0_3 [.int .i64 a0_3] from rfl) (Reps.one (show Kd.M (Kd.int .i64) _ _ _ a0_1 [.int .i64 a0_1] from rfl) (Reps.none _ _)))); intro v175 w10 ho11 hb hg_ hnew_; clear hg_ hnew_; (first | rw [← Ny174.out] at ho11 | (simp only [Int.reduceToNat] at ho11; rw [← Ny174.out] at ho11)); have HO176 := Aside0.mk (Kd.R_lower ho11 (below_size qB)); replace BK170 := qW BK170 hb; replace HB := qH hb; clear hb ho11))
   go_ret
   exact ⟨_, qE, qR HO176.out, qB⟩
  ·rw [if_neg c7] at H
   obtain ⟨c7b0, c7b1⟩ := qn c7
   obtain rfl := Option.some.inj H
   go_enter Tryd.func91, Tryd.ntmps91
   go_wp2_with (first | ((with_reducible refine gate_dst (N := 1) rfl ?_); refine box_event (by rfl) (N := 1) (by rfl) (cs := #[.int .i64 a0_0, .int .i64 a0_1, .int .i64 a0_2, .int .i64 a0_3, .string a0_4, .slice A0_5 l0_5.length c0_5]) (t := 31) ?hr ?_; (case hr => first | (go_simp; done) | (go_simp; rfl)); intro gb170 hg w12 hbox hb; have BK170 := Aside0.mk (hbox); have GW170 := qG hg; have GE170 := GW170; replace HB := qH hb; clear hb hbox hg; obtain ⟨hcz13_0, hcz13_1, hcz13_2, hcz13_3, hcz13_4, hcz13_5, hfz13_0, hfz13_1, hfz13_2, hfz13_3, hfz13_4, hfz13_5⟩ := bk6 BK170.out))
   go_ret
   exact ⟨_, qE, by first | exact Kd.R_nil _ _ _ _ _ | exact Kd.N_nil _ _ _ _ _ | exact Kd.V_nil _ _ _ _ _ | exact Kd.Q_nil _ _ _ _ _ | exact Kd.S_nil _ _ _ _ _, qB⟩

end Go.Proofs.YtebnnknijbgekaaDoor.Q
namespace Go.Proofs.YtebnnknijbgekaaDoor.Q
open Go.RowKit Go.Proofs.YtebnnknijbgekaaDoorW.PrintWords Go.Proofs.YtebnnknijbgekaaDoorW.PrintLast Go.Proofs.YtebnnknijbgekaaDoorW.PrintMore
attribute [local go_sem] max2_int min2_int max_two min_two max_three min_three max_four min_four   -- for this text's walks alone
set_option linter.unusedVariables false
set_option linter.unusedSimpArgs false

/-! ### ir_one: function 72 -/
mutual
def ir_one.j0 : Nat → ByteArray → Bool → ByteArray → Int → Int → List (List (SIns)) → Int → Int → Int → Int → ByteArray → List Int → Option (Int)
 | 0, _, _, _, _, _, _, _, _, _, _, _, _ => none
 | k + 1, x7, x45, x178000, x178001, x178002, x178003, x179000, x179001, x179002, x179003, x179004, x179005 => if x45 = true then (some 72) else ((some (([x179001, x179002, x179003] : List Int) : List Int)).bind fun y181 => (ir_one.l0 k x7 y181 y181 (y181.length : Int) 0 x178000 x178001 x178002 x178003 x179000 x179001 x179002 x179003 x179004 x179005))
def ir_one.l0 : Nat → ByteArray → List Int → List Int → Int → Int → ByteArray → Int → Int → List (List (SIns)) → Int → Int → Int → Int → ByteArray → List Int → Option (Int)
 | 0, _, _, _, _, _, _, _, _, _, _, _, _, _, _, _ => none
 | k + 1, x7, x8, x53, x54, x55, x178000, x178001, x178002, x178003, x179000, x179001, x179002, x179003, x179004, x179005 => if x55 < x54 then (if 0 ≤ x55 then (if x55 < (x53.length : Int) then (if x55 < (x7.size : Int) then (if (bt x7 x55) = 32 then (if (rd x53 x55) = 0 then (ir_one.l0 k x7 x8 x53 x54 (wrap64 (x55 + 1)) x178000 x178001 x178002 x178003 x179000 x179001 x179002 x179003 x179004 x179005) else (some 72)) else (ir_one.l0 k x7 x8 x53 x54 (wrap64 (x55 + 1)) x178000 x178001 x178002 x178003 x179000 x179001 x179002 x179003 x179004 x179005)) else (none)) else (none)) else (none)) else (ir_one.l1 k x7 x8 x8 (x8.length : Int) 0 x178000 x178001 x178002 x178003 x179000 x179001 x179002 x179003 x179004 x179005)
def ir_one.l1 : Nat → ByteArray → List Int → List Int → Int → Int → ByteArray → Int → Int → List (List (SIns)) → Int → Int → Int → Int → ByteArray → List Int → Option (Int)
 | 0, _, _, _, _, _, _, _, _, _, _, _, _, _, _, _ => none
 | k + 1, x7, x8, x70, x71, x72, x178000, x178001, x178002, x178003, x179000, x179001, x179002, x179003, x179004, x179005 => if x72 < x71 then (if 0 ≤ x72 then (if x72 < (x70.length : Int) then (if x72 < (x7.size : Int) then (if (bt x7 x72) = 114 then ((ir_one_1.f (rd x70 x72) x178000 x178001 x178002 x178003).bind fun t186 => (if t186 = true then (some 73) else (ir_one.l1 k x7 x8 x70 x71 (wrap64 (x72 + 1)) x178000 x178001 x178002 x178003 x179000 x179001 x179002 x179003 x179004 x179005))) else (ir_one.l1 k x7 x8 x70 x71 (wrap64 (x72 + 1)) x178000 x178001 x178002 x178003 x179000 x179001 x179002 x179003 x179004 x179005)) else (none)) else (none)) else (none)) else ((slices_ContainsFunc_int_int.f x179005 x178000 x178001 x178002 x178003).bind fun t187 => (if t187 = true then (some 73) else (ir_one.l2 k x7 x8 (x8.length : Int) 0 x178000 x178001 x178002 x178003 x179000 x179001 x179002 x179003 x179004 x179005)))
def ir_one.l2 : Nat → ByteArray → List Int → Int → Int → ByteArray → Int → Int → List (List (SIns)) → Int → Int → Int → Int → ByteArray → List Int → Option (Int)
 | 0, _, _, _, _, _, _, _, _, _, _, _, _, _, _ => none
 | k + 1, x7, x91, x92, x93, x178000, x178001, x178002, x178003, x179000, x179001, x179002, x179003, x179004, x179005 => if x93 < x92 then (if 0 ≤ x93 then (if x93 < (x91.length : Int) then (if x93 < (x7.size : Int) then (if (bt x7 x93) = 110 then (if (rd x91 x93) < 0 then (some 81) else (if (rd x91 x93) ≥ 65536 then (some 81) else (ir_one.l2 k x7 x91 x92 (wrap64 (x93 + 1)) x178000 x178001 x178002 x178003 x179000 x179001 x179002 x179003 x179004 x179005))) else (ir_one.l2 k x7 x91 x92 (wrap64 (x93 + 1)) x178000 x178001 x178002 x178003 x179000 x179001 x179002 x179003 x179004 x179005)) else (none)) else (none)) else (none)) else ((ir_Targets.f x179000 x179001 x179002 x179003 x179004 x179005).bind fun t189 => (ir_one.l3 k t189 (t189.length : Int) 0 x178000 x178001 x178002 x178003 x179000 x179001 x179002 x179003 x179004 x179005))
def ir_one.l3 : Nat → List Int → Int → Int → ByteArray → Int → Int → List (List (SIns)) → Int → Int → Int → Int → ByteArray → List Int → Option (Int)
 | 0, _, _, _, _, _, _, _, _, _, _, _, _, _ => none
 | k + 1, x112, x113, x114, x178000, x178001, x178002, x178003, x179000, x179001, x179002, x179003, x179004, x179005 => if x114 < x113 then (if 0 ≤ x114 then (if x114 < (x112.length : Int) then (if (rd x112 x114) < 0 then (some 74) else (if (rd x112 x114) ≥ (x178003.length : Int) then (some 74) else (ir_one.l3 k x112 x113 (wrap64 (x114 + 1)) x178000 x178001 x178002 x178003 x179000 x179001 x179002 x179003 x179004 x179005))) else (none)) else (none)) else (if x179000 = 11 then ((ir_Name.f x179004).bind fun t193 => (ir_one.j5 k (!t193) x179000 x179001 x179002 x179003 x179004 x179005)) else (ir_one.j5 k false x179000 x179001 x179002 x179003 x179004 x179005))
def ir_one.j5 : Nat → Bool → Int → Int → Int → Int → ByteArray → List Int → Option (Int)
 | 0, _, _, _, _, _, _, _ => none
 | k + 1, x128, x179000, x179001, x179002, x179003, x179004, x179005 => if x128 = true then (some 70) else (if (x179005.length : Int) > 4 then (some 192) else (some 0))
end
def ir_one.f (k : Nat) (a0_0 : ByteArray) (a0_1 : Int) (a0_2 : Int) (l0_3 : List (List (SIns))) (a1_0 : Int) (a1_1 : Int) (a1_2 : Int) (a1_3 : Int) (a1_4 : ByteArray) (l1_5 : List Int) (a2 : Bool) : Option (Int) := (ir_shape.f a1_0).bind fun t179 => (if t179.toList = ([] : List UInt8) then (ir_one.j0 k t179 true a0_0 a0_1 a0_2 l0_3 a1_0 a1_1 a1_2 a1_3 a1_4 l1_5) else ((ir_Last.f a1_0).bind fun t180 => (if (t180 != a2) = true then (ir_one.j0 k t179 true a0_0 a0_1 a0_2 l0_3 a1_0 a1_1 a1_2 a1_3 a1_4 l1_5) else (if a1_0 = 11 then (ir_one.j0 k t179 false a0_0 a0_1 a0_2 l0_3 a1_0 a1_1 a1_2 a1_3 a1_4 l1_5) else (if a1_4.toList = ([] : List UInt8) then (ir_one.j0 k t179 (decide ((l1_5.length : Int) > 0)) a0_0 a0_1 a0_2 l0_3 a1_0 a1_1 a1_2 a1_3 a1_4 l1_5) else (ir_one.j0 k t179 true a0_0 a0_1 a0_2 l0_3 a1_0 a1_1 a1_2 a1_3 a1_4 l1_5))))))
theorem ir_one.mono_l : ∀ k, (∀ y0 y1 y2 y3 y4 y5 y6 y7 y8 y9 y10 y11, LeO (ir_one.j0 k y0 y1 y2 y3 y4 y5 y6 y7 y8 y9 y10 y11) (ir_one.j0 (k + 1) y0 y1 y2 y3 y4 y5 y6 y7 y8 y9 y10 y11)) ∧ (∀ y0 y1 y2 y3 y4 y5 y6 y7 y8 y9 y10 y11 y12 y13 y14, LeO (ir_one.l0 k y0 y1 y2 y3 y4 y5 y6 y7 y8 y9 y10 y11 y12 y13 y14) (ir_one.l0 (k + 1) y0 y1 y2 y3 y4 y5 y6 y7 y8 y9 y10 y11 y12 y13 y14)) ∧ (∀ y0 y1 y2 y3 y4 y5 y6 y7 y8 y9 y10 y11 y12 y13 y14, LeO (ir_one.l1 k y0 y1 y2 y3 y4 y5 y6 y7 y8 y9 y10 y11 y12 y13 y14) (ir_one.l1 (k + 1) y0 y1 y2 y3 y4 y5 y6 y7 y8 y9 y10 y11 y12 y13 y14)) ∧ (∀ y0 y1 y2 y3 y4 y5 y6 y7 y8 y9 y10 y11 y12 y13, LeO (ir_one.l2 k y0 y1 y2 y3 y4 y5 y6 y7 y8 y9 y10 y11 y12 y13) (ir_one.l2 (k + 1) y0 y1 y2 y3 y4 y5 y6 y7 y8 y9 y10 y11 y12 y13)) ∧ (∀ y0 y1 y2 y3 y4 y5 y6 y7 y8 y9 y10 y11 y12, LeO (ir_one.l3 k y0 y1 y2 y3 y4 y5 y6 y7 y8 y9 y10 y11 y12) (ir_one.l3 (k + 1) y0 y1 y2 y3 y4 y5 y6 y7 y8 y9 y10 y11 y12)) ∧ (∀ y0 y1 y2 y3 y4 y5 y6, LeO (ir_one.j5 k y0 y1 y2 y3 y4 y5 y6) (ir_one.j5 (k + 1) y0 y1 y2 y3 y4 y5 y6))
 | 0 => ⟨fun _ _ _ _ _ _ _ _ _ _ _ _ r h => by simp [ir_one.j0] at h, fun _ _ _ _ _ _ _ _ _ _ _ _ _ _ _ r h => by simp [ir_one.l0] at h, fun _ _ _ _ _ _ _ _ _ _ _ _ _ _ _ r h => by simp [ir_one.l1] at h, fun _ _ _ _ _ _ _ _ _ _ _ _ _ _ r h => by simp [ir_one.l2] at h, fun _ _ _ _ _ _ _ _ _ _ _ _ _ r h => by simp [ir_one.l3] at h, fun _ _ _ _ _ _ _ r h => by simp [ir_one.j5] at h⟩
 | k + 1 => by
  obtain ⟨ih0, ih1, ih2, ih3, ih4, ih5⟩ := ir_one.mono_l k
  refine ⟨?_, ?_, ?_, ?_, ?_, ?_⟩ <;> intros <;> (first | unfold ir_one.j0 | unfold ir_one.l0 | unfold ir_one.l1 | unfold ir_one.l2 | unfold ir_one.l3 | unfold ir_one.j5) <;> repeat' first | (with_reducible exact ih0 _ _ _ _ _ _ _ _ _ _ _ _) | (with_reducible exact ih1 _ _ _ _ _ _ _ _ _ _ _ _ _ _ _) | (with_reducible exact ih2 _ _ _ _ _ _ _ _ _ _ _ _ _ _ _) | (with_reducible exact ih3 _ _ _ _ _ _ _ _ _ _ _ _ _ _) | (with_reducible exact ih4 _ _ _ _ _ _ _ _ _ _ _ _ _) | (with_reducible exact ih5 _ _ _ _ _ _ _) | (with_reducible exact LeO.refl _) | (with_reducible exact LeO.none _) | (with_reducible refine LeO.ite ?_ ?_) | (with_reducible refine LeO.bind ?_ (fun _ => ?_)) | exact LeO.none _ | refine LeO.ite ?_ ?_ | refine LeO.bind ?_ (fun _ => ?_)
theorem ir_one.mono : ∀ a0 a1 a2 a3 a4 a5 a6 a7 a8 a9 a10 k, LeO (ir_one.f k a0 a1 a2 a3 a4 a5 a6 a7 a8 a9 a10) (ir_one.f (k + 1) a0 a1 a2 a3 a4 a5 a6 a7 a8 a9 a10) := by
 intro a0 a1 a2 a3 a4 a5 a6 a7 a8 a9 a10 k
 obtain ⟨ih0, ih1, ih2, ih3, ih4, ih5⟩ := ir_one.mono_l k
 unfold ir_one.f
 repeat' first | (with_reducible exact ih0 _ _ _ _ _ _ _ _ _ _ _ _) | (with_reducible exact ih1 _ _ _ _ _ _ _ _ _ _ _ _ _ _ _) | (with_reducible exact ih2 _ _ _ _ _ _ _ _ _ _ _ _ _ _ _) | (with_reducible exact ih3 _ _ _ _ _ _ _ _ _ _ _ _ _ _) | (with_reducible exact ih4 _ _ _ _ _ _ _ _ _ _ _ _ _) | (with_reducible exact ih5 _ _ _ _ _ _ _) | (with_reducible exact LeO.refl _) | (with_reducible exact LeO.none _) | (with_reducible refine LeO.ite ?_ ?_) | (with_reducible refine LeO.bind ?_ (fun _ => ?_)) | exact LeO.none _ | refine LeO.ite ?_ ?_ | refine LeO.bind ?_ (fun _ => ?_)
set_option maxHeartbeats 8000000 in
set_option maxRecDepth 100000 in
theorem ir_one.calls (k : Nat) (a0_0 : ByteArray) (a0_1 : Int) (a0_2 : Int) (A0_3 : Option Addr) (c0_3 : Nat) (l0_3 : List (List (SIns))) (a1_0 : Int) (a1_1 : Int) (a1_2 : Int) (a1_3 : Int) (a1_4 : ByteArray) (A1_5 : Option Addr) (c1_5 : Nat) (l1_5 : List Int) (a2 : Bool) (r : Int) (w : World) (hL : LaidW w) (hr0_3 : Kd.C (Kd.slice 31 kIns) w A0_3 l0_3.length l0_3) (hc0_3 : l0_3.length ≤ c0_3) (hr1_5 : Kd.C (Kd.int .i64) w A1_5 l1_5.length l1_5) (hc1_5 : l1_5.length ≤ c1_5) (h : ir_one.f k a0_0 a0_1 a0_2 l0_3 a1_0 a1_1 a1_2 a1_3 a1_4 l1_5 a2 = some r) :
  Calls Tryd.prog 72 #[.agg #[.string a0_0, .int .i64 a0_1, .int .i64 a0_2, .slice A0_3 l0_3.length c0_3], .agg #[.int .i64 a1_0, .int .i64 a1_1, .int .i64 a1_2, .int .i64 a1_3, .string a1_4, .slice A1_5 l1_5.length c1_5], .bool a2] w fun e w' => e = .returned (.int .i64 r) ∧ Below w.heap.size w w' := by
 have hu34 := Tryd.underlying34
 have hu31 := Tryd.underlying31
 have HR0_3 := Aside0.mk hr0_3
 have HC0_3 := Aside0.mk hc0_3
 clear hr0_3 hc0_3
 have HR1_5 := Aside0.mk hr1_5
 have HC1_5 := Aside0.mk hc1_5
 clear hr1_5 hc1_5
 have HB := Aside0.mk (Below.refl w.heap.size w)
 have HLd := Aside0.mk hL
 clear hL
 have H := h; clear h; unfold ir_one.f at H
 replace H := qb H; obtain ⟨t179, A4, H⟩ := H
 have HC5 := Aside0.mk H
 clear H
 go_enter Tryd.func72, Tryd.ntmps72
 go_upto_region 2 with (first | ((with_reducible refine gate_dst (N := 3) rfl ?_); (try (refine gate_guard (by rfl) ?_; dsimp only)); refine box_event (by rfl) (N := 3) (by rfl) (cs := #[.string a0_0, .int .i64 a0_1, .int .i64 a0_2, .slice A0_3 l0_3.length c0_3]) (t := 34) ?hr ?_; (case hr => first | (go_simp; done) | (go_simp; rfl)); intro gb177 hg w6 hbox hb; have BK177 := Aside0.mk (hbox); have GW177 := qG hg; have GE177 := GW177; replace HB := qH hb; clear hb hbox hg) | ((with_reducible refine gate_dst (N := 4) rfl ?_); (try (refine gate_guard (by rfl) ?_; dsimp only)); refine box_event (by rfl) (N := 4) (by rfl) (cs := #[.int .i64 a1_0, .int .i64 a1_1, .int .i64 a1_2, .int .i64 a1_3, .string a1_4, .slice A1_5 l1_5.length c1_5]) (t := 31) ?hr ?_; (case hr => first | (go_simp; done) | (go_simp; rfl)); intro gb178 hg w7 hbox hb; have BK178 := Aside0.mk (hbox); have GW178 := qG hg; have GE178 := GW178; replace HB := qH hb; have NB177_178 := Aside0.mk ((by rw [hg]; exact Nat.ne_of_lt (blk_lt (g := gb177) (o := .cells #[.string a0_0, .int .i64 a0_1, .int .i64 a0_2, .slice A0_3 l0_3.length c0_3] 34 (0, 0)) (qK BK177.out)) : gb177 ≠ gb178)); have NB178_177 := Aside0.mk ((by rw [hg]; exact Nat.ne_of_gt (blk_lt (g := gb177) (o := .cells #[.string a0_0, .int .i64 a0_1, .int .i64 a0_2, .slice A0_3 l0_3.length c0_3] 34 (0, 0)) (qK BK177.out)) : gb178 ≠ gb177)); replace BK177 := qW BK177 hb; clear hb hbox hg; have hnb8 := NB178_177.out; have hnc8 := NB177_178.out; obtain ⟨hcz9_0, hcz9_1, hcz9_2, hcz9_3, hcz9_4, hcz9_5, hfz9_0, hfz9_1, hfz9_2, hfz9_3, hfz9_4, hfz9_5⟩ := bk6 BK178.out) | ((with_reducible refine gate_callee (f := 71) rfl ?_); refine goesL_ (some 20) rfl rfl Tryd.func71 (by kernel_rfl) rfl #[.int .i64 a1_0] rfl qL ?_; (with_reducible refine (ir_shape.calls a1_0 t179 _ A4.out (hL := ?side99)).mono ?_); (case side99 => exact LaidW.below HLd.out qB); rintro e w' ⟨rfl, ⟨nd, rfl⟩⟩; refine ⟨_, rfl, ?_⟩))
 (try simp only [Act.put, List.setIfInBounds_toArray, List.set_cons_zero, List.set_cons_succ])
 go_cut [45] (fun v45 wc => ∃ (kq : Nat) (x45_4 : Bool), v45 = .bool x45_4 ∧ Aside0 (ir_one.j0 kq t179 x45_4 a0_0 a0_1 a0_2 l0_3 a1_0 a1_1 a1_2 a1_3 a1_4 l1_5 = some r) ∧ Aside0 (kq ≤ k) ∧ Aside0 (wc.heap[gb177]? = some (.cells #[.string a0_0, .int .i64 a0_1, .int .i64 a0_2, (.slice A0_3 l0_3.length c0_3)] 34 (0, 0))) ∧ Aside0 (wc.heap[gb178]? = some (.cells #[.int .i64 a1_0, .int .i64 a1_1, .int .i64 a1_2, .int .i64 a1_3, .string a1_4, (.slice A1_5 l1_5.length c1_5)] 31 (0, 0))) ∧ Aside0 (Below w.heap.size w wc))
 case first =>
  have H := HC5.out
  clear HC5
  by_cases c10 : t179.toList = ([] : List UInt8)
  ·rw [if_pos c10] at H
   obtain ⟨c10b0, c10b1⟩ := qe c10; clear c10
   (first | rw [c10b0] | (simp only [i64_w, i32_w]; rw [c10b0]) | skip)
   have H' := Aside0.mk H
   clear H
   go_wp2
   go_meet
   case rel => exact ⟨_, (true), qT, H', ⟨qO⟩, ⟨qK BK177.out⟩, ⟨qK BK178.out⟩, ⟨qB⟩⟩
  ·rw [if_neg c10] at H
   obtain ⟨c10b0, c10b1⟩ := qn c10
   (first | rw [c10b0] | (simp only [i64_w, i32_w]; rw [c10b0]) | skip)
   replace H := qb H; obtain ⟨t180, A11, H⟩ := H
   by_cases c12 : (t180 != a2) = true
   ·rw [if_pos c12] at H
    have c12b0 : (t180 != a2) = true := c12
    (try (have c12b1 : decide (t180 = a2) = false := by simpa using c12))
    (try (have c12b2 : (t180 == a2) = false := by simpa using c12))
    (try (have c12b3 : ¬ (t180 = a2) := by simpa using c12))
    clear c12
    have H' := Aside0.mk H
    clear H
    have hnb13 := NB178_177.out
    have hnc13 := NB177_178.out
    obtain ⟨hcz14_0, hcz14_1, hcz14_2, hcz14_3, hcz14_4, hcz14_5, hfz14_0, hfz14_1, hfz14_2, hfz14_3, hfz14_4, hfz14_5⟩ := bk6 BK178.out
    go_wp2_with (first | (go_at_call 88; (with_reducible refine (ir_Last.calls a1_0 t180 _ A11.out).mono ?_); (try clear A11); rintro e w' ⟨rfl, ⟨nd, rfl⟩⟩))
    go_meet
    case rel => exact ⟨_, (true), qT, H', ⟨qO⟩, ⟨qK BK177.out⟩, ⟨qK BK178.out⟩, ⟨qB⟩⟩
   ·rw [if_neg c12] at H
    have c12b0 : (t180 != a2) = false := by simpa using c12
    (try (have c12b1 : decide (t180 = a2) = true := by simpa using c12))
    (try (have c12b2 : (t180 == a2) = true := by simpa using c12))
    clear c12
    by_cases c15 : a1_0 = 11
    ·rw [if_pos c15] at H
     obtain ⟨c15b0, c15b1⟩ := qe c15; clear c15
     have H' := Aside0.mk H
     clear H
     have hnb16 := NB178_177.out
     have hnc16 := NB177_178.out
     obtain ⟨hcz17_0, hcz17_1, hcz17_2, hcz17_3, hcz17_4, hcz17_5, hfz17_0, hfz17_1, hfz17_2, hfz17_3, hfz17_4, hfz17_5⟩ := bk6 BK178.out
     go_wp2_with (first | (go_at_call 88; (with_reducible refine (ir_Last.calls a1_0 t180 _ A11.out).mono ?_); (try clear A11); rintro e w' ⟨rfl, ⟨nd, rfl⟩⟩))
     go_meet
     case rel => exact ⟨_, (false), qT, H', ⟨qO⟩, ⟨qK BK177.out⟩, ⟨qK BK178.out⟩, ⟨qB⟩⟩
    ·rw [if_neg c15] at H
     obtain ⟨c15b0, c15b1⟩ := qn c15
     by_cases c18 : a1_4.toList = ([] : List UInt8)
     ·rw [if_pos c18] at H
      obtain ⟨c18b0, c18b1⟩ := qe c18; clear c18
      have H' := Aside0.mk H
      clear H
      have hnb19 := NB178_177.out
      have hnc19 := NB177_178.out
      obtain ⟨hcz20_0, hcz20_1, hcz20_2, hcz20_3, hcz20_4, hcz20_5, hfz20_0, hfz20_1, hfz20_2, hfz20_3, hfz20_4, hfz20_5⟩ := bk6 BK178.out
      go_wp2_with (first | (go_at_call 88; (with_reducible refine (ir_Last.calls a1_0 t180 _ A11.out).mono ?_); (try clear A11); rintro e w' ⟨rfl, ⟨nd, rfl⟩⟩))
      go_meet
      case rel => exact ⟨_, (decide ((l1_5.length : Int) > 0)), qT, H', ⟨qO⟩, ⟨qK BK177.out⟩, ⟨qK BK178.out⟩, ⟨qB⟩⟩
     ·rw [if_neg c18] at H
      obtain ⟨c18b0, c18b1⟩ := qn c18
      have H' := Aside0.mk H
      clear H
      have hnb21 := NB178_177.out
      have hnc21 := NB177_178.out
      obtain ⟨hcz22_0, hcz22_1, hcz22_2, hcz22_3, hcz22_4, hcz22_5, hfz22_0, hfz22_1, hfz22_2, hfz22_3, hfz22_4, hfz22_5⟩ := bk6 BK178.out
      go_wp2_with (first | (go_at_call 88; (with_reducible refine (ir_Last.calls a1_0 t180 _ A11.out).mono ?_); (try clear A11); rintro e w' ⟨rfl, ⟨nd, rfl⟩⟩))
      go_meet
      case rel => exact ⟨_, (true), qT, H', ⟨qO⟩, ⟨qK BK177.out⟩, ⟨qK BK178.out⟩, ⟨qB⟩⟩
 case rest =>
  clear HC5
  try clear c1; try clear c2; try clear p2; try clear c7; try clear c8; try clear c10; try clear c10b0 c10b1; try clear c12; try clear c12b0 c12b1 c12b2; try clear c13; try clear c15; try clear c15b0 c15b1; try clear c16; try clear c18; try clear c18b0 c18b1; try clear c19; try clear c21; try clear hcz14_0 hcz14_1 hcz14_2 hcz14_3 hcz14_4 hcz14_5 hfz14_0 hfz14_1 hfz14_2 hfz14_3 hfz14_4 hfz14_5; try clear hcz17_0 hcz17_1 hcz17_2 hcz17_3 hcz17_4 hcz17_5 hfz17_0 hfz17_1 hfz17_2 hfz17_3 hfz17_4 hfz17_5; try clear hcz20_0 hcz20_1 hcz20_2 hcz20_3 hcz20_4 hcz20_5 hfz20_0 hfz20_1 hfz20_2 hfz20_3 hfz20_4 hfz20_5; try clear hcz22_0 hcz22_1 hcz22_2 hcz22_3 hcz22_4 hcz22_5 hfz22_0 hfz22_1 hfz22_2 hfz22_3 hfz22_4 hfz22_5; try clear hcz9_0 hcz9_1 hcz9_2 hcz9_3 hcz9_4 hcz9_5 hfz9_0 hfz9_1 hfz9_2 hfz9_3 hfz9_4 hfz9_5
  obtain ⟨kq, x45_4, rfl, HA, HJ4, BK177, BK178, HB⟩ := hcut
  cases kq with
  | zero => exact absurd HA.out (by simp [ir_one.j0])
  | succ kj4 =>
   have H := HA.out
   clear HA
   simp only [ir_one.j0] at H
   by_cases c23 : x45_4 = true
   ·subst c23
    have H1 : (some 72) = some r := by rw [if_pos rfl] at H; exact H
    clear H
    have H := H1
    clear H1
    obtain rfl := Option.some.inj H
    go_wp2
    go_ret
    exact ⟨qE, qB⟩
   ·replace c23 := Bool.eq_false_iff.mpr c23
    subst c23
    have H1 : ((some (([a1_1, a1_2, a1_3] : List Int) : List Int)).bind fun y181 => (ir_one.l0 kj4 t179 y181 y181 (y181.length : Int) 0 a0_0 a0_1 a0_2 l0_3 a1_0 a1_1 a1_2 a1_3 a1_4 l1_5)) = some r := by rw [if_neg (show ¬ (false = true) by decide)] at H; exact H
    clear H
    have H := H1
    clear H1
    obtain ⟨y181, hy181⟩ : ∃ y_ : List Int, y_ = (([a1_1, a1_2, a1_3] : List Int)) := ⟨_, rfl⟩
    replace H : (ir_one.l0 kj4 t179 y181 y181 (y181.length : Int) 0 a0_0 a0_1 a0_2 l0_3 a1_0 a1_1 a1_2 a1_3 a1_4 l1_5) = some r := by first | (rw [hy181]; with_reducible exact H) | (have H2_ := (Option.bind_some _ _).symm.trans H; rw [hy181]; with_reducible exact H2_) | (have H2_ := (Option.bind_some _ _).symm.trans H; with_reducible exact H2_) | with_reducible exact H | (rw [hy181]; exact H) | exact H
    have Ny181 := Aside0.mk hy181
    clear hy181
    have H' := Aside0.mk H
    clear H
    have hnb24 := NB178_177.out
    have hnc24 := NB177_178.out
    obtain ⟨hcz25_0, hcz25_1, hcz25_2, hcz25_3, hcz25_4, hcz25_5, hfz25_0, hfz25_1, hfz25_2, hfz25_3, hfz25_4, hfz25_5⟩ := bk6 BK178.out
    go_wp2_with (first | ((with_reducible refine gate_dst (N := 52) rfl ?_); (try (refine gate_guard (by rfl) ?_; dsimp only)); refine Kd.R_lit (Kd.int .i64) _ 3 (by rfl) (N := 52) (by rfl) (xs := ([a1_1, a1_2, a1_3] : List Int)) (inner := [.int .i64 a1_1, .int .i64 a1_2, .int .i64 a1_3]) (ok := fun _ => True) (okp := fun _ => True) ?hr ?hp (fun _ hk => hk) trivial (Below.refl _ _) (Nat.le_refl _) (by simp) ?_; (case hr => first | (go_simp; done) | (go_simp; rfl)); (case hp => exact (Reps.one (show Kd.M (Kd.int .i64) _ _ _ a1_1 [.int .i64 a1_1] from rfl) (Reps.one (show Kd.M (Kd.int .i64) _ _ _ a1_2 [.int .i64 a1_2] from rfl) (Reps.one (show Kd.M (Kd.int .i64) _ _ _ a1_3 [.int .i64 a1_3] from rfl) (Reps.none _ _))))); intro v182 w26 ho27 hb hg_ hnew_; clear hg_ hnew_; (first | rw [← Ny181.out] at ho27 | (simp only [Int.reduceToNat] at ho27; rw [← Ny181.out] at ho27)); have HO183 := Aside0.mk (Kd.R_lower ho27 (below_size qB)); replace BK177 := qW BK177 hb; replace BK178 := qW BK178 hb; replace HB := qH hb; clear hb ho27; obtain ⟨Ao28, co28, eo28⟩ := Kd.R_slice HO183.out; subst eo28))
    go_loopg [55] kj4 (fun kq v55 w' => ∃ (x55_2 : Int), v55 = .int .i64 x55_2 ∧ Aside0 (ir_one.l0 kq t179 y181 y181 (y181.length : Int) x55_2 a0_0 a0_1 a0_2 l0_3 a1_0 a1_1 a1_2 a1_3 a1_4 l1_5 = some r) ∧ Aside0 (kq ≤ kj4) ∧ Aside0 (Kd.R (Kd.int .i64) 3 w' w.heap.size (fun _ => True) (.slice Ao28 y181.length co28) y181) ∧ Aside0 (Kd.R (Kd.int .i64) 3 w' w.heap.size (fun _ => True) (.slice Ao28 y181.length co28) y181) ∧ Aside0 (w'.heap[gb177]? = some (.cells #[.string a0_0, .int .i64 a0_1, .int .i64 a0_2, (.slice A0_3 l0_3.length c0_3)] 34 (0, 0))) ∧ Aside0 (w'.heap[gb178]? = some (.cells #[.int .i64 a1_0, .int .i64 a1_1, .int .i64 a1_2, .int .i64 a1_3, .string a1_4, (.slice A1_5 l1_5.length c1_5)] 31 (0, 0))) ∧ Aside0 (Below w.heap.size w w'))
    case atStart => exact ⟨(0), qT, H', ⟨Nat.le_refl _⟩, ⟨qR HO183.out⟩, ⟨qR HO183.out⟩, ⟨qK BK177.out⟩, ⟨qK BK178.out⟩, ⟨qB⟩⟩
    case round =>
     clear H'
     try clear c1; try clear c2; try clear p2; try clear c7; try clear c8; try clear c10; try clear c10b0 c10b1; try clear c12; try clear c12b0 c12b1 c12b2; try clear c13; try clear c15; try clear c15b0 c15b1; try clear c16; try clear c18; try clear c18b0 c18b1; try clear c19; try clear c21; try clear c23; try clear c24; try clear hcz14_0 hcz14_1 hcz14_2 hcz14_3 hcz14_4 hcz14_5 hfz14_0 hfz14_1 hfz14_2 hfz14_3 hfz14_4 hfz14_5; try clear hcz17_0 hcz17_1 hcz17_2 hcz17_3 hcz17_4 hcz17_5 hfz17_0 hfz17_1 hfz17_2 hfz17_3 hfz17_4 hfz17_5; try clear hcz20_0 hcz20_1 hcz20_2 hcz20_3 hcz20_4 hcz20_5 hfz20_0 hfz20_1 hfz20_2 hfz20_3 hfz20_4 hfz20_5; try clear hcz22_0 hcz22_1 hcz22_2 hcz22_3 hcz22_4 hcz22_5 hfz22_0 hfz22_1 hfz22_2 hfz22_3 hfz22_4 hfz22_5; try clear hcz25_0 hcz25_1 hcz25_2 hcz25_3 hcz25_4 hcz25_5 hfz25_0 hfz25_1 hfz25_2 hfz25_3 hfz25_4 hfz25_5; try clear hcz9_0 hcz9_1 hcz9_2 hcz9_3 hcz9_4 hcz9_5 hfz9_0 hfz9_1 hfz9_2 hfz9_3 hfz9_4 hfz9_5
     obtain ⟨x55_2, rfl, HA, HK2, HO_8, HO_53, BK177, BK178, HB⟩ := hrel
     cases gk with
     | zero => exact absurd HA.out (by simp [ir_one.l0])
     | succ k2 =>
      have H := HA.out
      clear HA
      simp only [ir_one.l0] at H
      by_cases c29 : x55_2 < (y181.length : Int)
      ·rw [if_pos c29] at H
       have c29b0 := decide_eq_true c29
       clear c29
       by_cases c30 : 0 ≤ x55_2
       ·rw [if_pos c30] at H
        have c30b0 := decide_eq_true c30
        clear c30
        by_cases c31 : x55_2 < (y181.length : Int)
        ·rw [if_pos c31] at H
         have c31b0 := decide_eq_true c31
         clear c31
         by_cases c32 : x55_2 < (t179.size : Int)
         ·rw [if_pos c32] at H
          have c32b0 := decide_eq_true c32
          clear c32
          by_cases c34 : (bt t179 x55_2) = 32
          ·rw [if_pos c34] at H
           obtain ⟨c34b0, c34b1⟩ := qe c34; clear c34
           by_cases c35 : (rd y181 x55_2) = 0
           ·rw [if_pos c35] at H
            obtain ⟨c35b0, c35b1⟩ := qe c35; clear c35
            have H' := Aside0.mk H
            clear H
            have p184 : 0 ≤ (x55_2 : Int) := of_decide_eq_true qA
            have q184 : x55_2 < (y181.length : Int) := of_decide_eq_true qA
            obtain ⟨ad184, e184, hx184_0⟩ := Kd.at_int (Kd.R_reads' HO_53.out).2.2 x55_2 p184 q184
            cases e184
            replace p184 := eq_true p184
            replace q184 := eq_true q184
            have p33 : 0 ≤ (x55_2 : Int) := of_decide_eq_true qA
            have q33 : x55_2 < (t179.size : Int) := of_decide_eq_true qA
            have hx33 := bt_at t179 x55_2
            replace p33 := eq_true p33
            replace q33 := eq_true q33
            go_wp2
            go_roundg k2
            case measure => have := HJ4.out; have := HK2.out; omega
            case rel => exact ⟨(wrap64 (x55_2 + 1)), qT, H', ⟨by have := HJ4.out; have := HK2.out; omega⟩, ⟨qR HO_8.out⟩, ⟨qR HO_53.out⟩, ⟨qK BK177.out⟩, ⟨qK BK178.out⟩, ⟨qB⟩⟩
           ·rw [if_neg c35] at H
            obtain ⟨c35b0, c35b1⟩ := qn c35
            obtain rfl := Option.some.inj H
            have p184 : 0 ≤ (x55_2 : Int) := of_decide_eq_true qA
            have q184 : x55_2 < (y181.length : Int) := of_decide_eq_true qA
            obtain ⟨ad184, e184, hx184_0⟩ := Kd.at_int (Kd.R_reads' HO_53.out).2.2 x55_2 p184 q184
            cases e184
            replace p184 := eq_true p184
            replace q184 := eq_true q184
            have p33 : 0 ≤ (x55_2 : Int) := of_decide_eq_true qA
            have q33 : x55_2 < (t179.size : Int) := of_decide_eq_true qA
            have hx33 := bt_at t179 x55_2
            replace p33 := eq_true p33
            replace q33 := eq_true q33
            go_wp2
            go_ret
            exact ⟨qE, qB⟩
          ·rw [if_neg c34] at H
           obtain ⟨c34b0, c34b1⟩ := qn c34
           have H' := Aside0.mk H
           clear H
           have p184 : 0 ≤ (x55_2 : Int) := of_decide_eq_true qA
           have q184 : x55_2 < (y181.length : Int) := of_decide_eq_true qA
           obtain ⟨ad184, e184, hx184_0⟩ := Kd.at_int (Kd.R_reads' HO_53.out).2.2 x55_2 p184 q184
           cases e184
           replace p184 := eq_true p184
           replace q184 := eq_true q184
           have p33 : 0 ≤ (x55_2 : Int) := of_decide_eq_true qA
           have q33 : x55_2 < (t179.size : Int) := of_decide_eq_true qA
           have hx33 := bt_at t179 x55_2
           replace p33 := eq_true p33
           replace q33 := eq_true q33
           go_wp2
           go_roundg k2
           case measure => have := HJ4.out; have := HK2.out; omega
           case rel => exact ⟨(wrap64 (x55_2 + 1)), qT, H', ⟨by have := HJ4.out; have := HK2.out; omega⟩, ⟨qR HO_8.out⟩, ⟨qR HO_53.out⟩, ⟨qK BK177.out⟩, ⟨qK BK178.out⟩, ⟨qB⟩⟩
         ·rw [if_neg c32] at H
          exact absurd H (by simp)
        ·rw [if_neg c31] at H
         exact absurd H (by simp)
       ·rw [if_neg c30] at H
        exact absurd H (by simp)
      ·rw [if_neg c29] at H
       have c29b0 := decide_eq_false c29
       clear c29
       have H' := Aside0.mk H
       clear H
       go_wp2
       go_loopg [72] k2 (fun kq v72 w' => ∃ (x72_3 : Int), v72 = .int .i64 x72_3 ∧ Aside0 (ir_one.l1 kq t179 y181 y181 (y181.length : Int) x72_3 a0_0 a0_1 a0_2 l0_3 a1_0 a1_1 a1_2 a1_3 a1_4 l1_5 = some r) ∧ Aside0 (kq ≤ k2) ∧ Aside0 (Kd.R (Kd.int .i64) 3 w' w.heap.size (fun _ => True) (.slice Ao28 y181.length co28) y181) ∧ Aside0 (Kd.R (Kd.int .i64) 3 w' w.heap.size (fun _ => True) (.slice Ao28 y181.length co28) y181) ∧ Aside0 (w'.heap[gb177]? = some (.cells #[.string a0_0, .int .i64 a0_1, .int .i64 a0_2, (.slice A0_3 l0_3.length c0_3)] 34 (0, 0))) ∧ Aside0 (w'.heap[gb178]? = some (.cells #[.int .i64 a1_0, .int .i64 a1_1, .int .i64 a1_2, .int .i64 a1_3, .string a1_4, (.slice A1_5 l1_5.length c1_5)] 31 (0, 0))) ∧ Aside0 (Below w.heap.size w w'))
       case atStart => exact ⟨(0), qT, H', ⟨Nat.le_refl _⟩, ⟨qR HO_8.out⟩, ⟨qR HO_8.out⟩, ⟨qK BK177.out⟩, ⟨qK BK178.out⟩, ⟨qB⟩⟩
       case round =>
        clear H'
        try clear c1; try clear p1; try clear q1; try clear hx1; try clear c2; try clear p2; try clear c3; try clear p3; try clear q3; try clear hx3; try clear p6; try clear c7; try clear c8; try clear c10; try clear c10b0 c10b1; try clear c12; try clear c12b0 c12b1 c12b2; try clear c13; try clear c15; try clear c15b0 c15b1; try clear c16; try clear c18; try clear c18b0 c18b1; try clear p18; try clear q18; try clear hx18; try clear c19; try clear c21; try clear c23; try clear c24; try clear c29; try clear c29b0; try clear c30; try clear c30b0; try clear c31; try clear c31b0; try clear c32; try clear c32b0; try clear p33; try clear q33; try clear hx33; try clear c34; try clear c34b0 c34b1; try clear c35; try clear c35b0 c35b1; try clear hcz14_0 hcz14_1 hcz14_2 hcz14_3 hcz14_4 hcz14_5 hfz14_0 hfz14_1 hfz14_2 hfz14_3 hfz14_4 hfz14_5; try clear hcz17_0 hcz17_1 hcz17_2 hcz17_3 hcz17_4 hcz17_5 hfz17_0 hfz17_1 hfz17_2 hfz17_3 hfz17_4 hfz17_5; try clear hcz20_0 hcz20_1 hcz20_2 hcz20_3 hcz20_4 hcz20_5 hfz20_0 hfz20_1 hfz20_2 hfz20_3 hfz20_4 hfz20_5; try clear hcz22_0 hcz22_1 hcz22_2 hcz22_3 hcz22_4 hcz22_5 hfz22_0 hfz22_1 hfz22_2 hfz22_3 hfz22_4 hfz22_5; try clear hcz25_0 hcz25_1 hcz25_2 hcz25_3 hcz25_4 hcz25_5 hfz25_0 hfz25_1 hfz25_2 hfz25_3 hfz25_4 hfz25_5; try clear hcz9_0 hcz9_1 hcz9_2 hcz9_3 hcz9_4 hcz9_5 hfz9_0 hfz9_1 hfz9_2 hfz9_3 hfz9_4 hfz9_5; try clear hx184_0; try clear p184; try clear q184
        obtain ⟨x72_3, rfl, HA, HK3, HO_8, HO_70, BK177, BK178, HB⟩ := hrel
        cases gk with
        | zero => exact absurd HA.out (by simp [ir_one.l1])
        | succ k3 =>
         have H := HA.out
         clear HA
         simp only [ir_one.l1] at H
         by_cases c36 : x72_3 < (y181.length : Int)
         ·rw [if_pos c36] at H
          have c36b0 := decide_eq_true c36
          clear c36
          by_cases c37 : 0 ≤ x72_3
          ·rw [if_pos c37] at H
           have c37b0 := decide_eq_true c37
           clear c37
           by_cases c38 : x72_3 < (y181.length : Int)
           ·rw [if_pos c38] at H
            have c38b0 := decide_eq_true c38
            clear c38
            by_cases c39 : x72_3 < (t179.size : Int)
            ·rw [if_pos c39] at H
             have c39b0 := decide_eq_true c39
             clear c39
             by_cases c41 : (bt t179 x72_3) = 114
             ·rw [if_pos c41] at H
              obtain ⟨c41b0, c41b1⟩ := qe c41; clear c41
              replace H := qb H; obtain ⟨t186, A42, H⟩ := H
              by_cases c43 : t186 = true
              ·subst c43
               have H1 : (some 73) = some r := by rw [if_pos rfl] at H; exact H
               clear H
               have H := H1
               clear H1
               obtain rfl := Option.some.inj H
               have p185 : 0 ≤ (x72_3 : Int) := of_decide_eq_true qA
               have q185 : x72_3 < (y181.length : Int) := of_decide_eq_true qA
               obtain ⟨ad185, e185, hx185_0⟩ := Kd.at_int (Kd.R_reads' HO_70.out).2.2 x72_3 p185 q185
               cases e185
               replace p185 := eq_true p185
               replace q185 := eq_true q185
               have p40 : 0 ≤ (x72_3 : Int) := of_decide_eq_true qA
               have q40 : x72_3 < (t179.size : Int) := of_decide_eq_true qA
               have hx40 := bt_at t179 x72_3
               replace p40 := eq_true p40
               replace q40 := eq_true q40
               have hnb44 := NB177_178.out
               have hnc44 := NB178_177.out
               obtain ⟨hcz45_0, hcz45_1, hcz45_2, hcz45_3, hfz45_0, hfz45_1, hfz45_2, hfz45_3⟩ := bk4 BK177.out
               go_wp2_with (first | (go_at_call 89; (refine (ir_one_1.calls (rd y181 x72_3) a0_0 a0_1 a0_2 (A0_3) (c0_3) l0_3 true _ ?side1 ?side2 A42.out (hbk := ?side98) (gb_ := gb177)).mono ?_); (case side1 => repeat (first | exact (Kd.C_below HR0_3.out HB.out) | (refine Kd.C_alloc ?_ _) | (refine Kd.C_drewN ?_ _) | (refine Kd.C_drew ?_))); (case side2 => exact HC0_3.out); (case side98 => exact qK BK177.out); (try clear A42); rintro e w46 ⟨rfl, hb⟩; replace HO_8 := Aside0.mk (Kd.R_below (qR HO_8.out) hb); replace HO_70 := Aside0.mk (Kd.R_below (qR HO_70.out) hb); replace BK177 := qW BK177 hb; replace BK178 := qW BK178 hb; replace HB := qH hb; (try clear hb)))
               go_ret
               exact ⟨qE, qB⟩
              ·replace c43 := Bool.eq_false_iff.mpr c43
               subst c43
               have H1 : (ir_one.l1 k3 t179 y181 y181 (y181.length : Int) (wrap64 (x72_3 + 1)) a0_0 a0_1 a0_2 l0_3 a1_0 a1_1 a1_2 a1_3 a1_4 l1_5) = some r := by rw [if_neg (show ¬ (false = true) by decide)] at H; exact H
               clear H
               have H := H1
               clear H1
               have H' := Aside0.mk H
               clear H
               have p185 : 0 ≤ (x72_3 : Int) := of_decide_eq_true qA
               have q185 : x72_3 < (y181.length : Int) := of_decide_eq_true qA
               obtain ⟨ad185, e185, hx185_0⟩ := Kd.at_int (Kd.R_reads' HO_70.out).2.2 x72_3 p185 q185
               cases e185
               replace p185 := eq_true p185
               replace q185 := eq_true q185
               have p40 : 0 ≤ (x72_3 : Int) := of_decide_eq_true qA
               have q40 : x72_3 < (t179.size : Int) := of_decide_eq_true qA
               have hx40 := bt_at t179 x72_3
               replace p40 := eq_true p40
               replace q40 := eq_true q40
               have hnb47 := NB177_178.out
               have hnc47 := NB178_177.out
               obtain ⟨hcz48_0, hcz48_1, hcz48_2, hcz48_3, hfz48_0, hfz48_1, hfz48_2, hfz48_3⟩ := bk4 BK177.out
               go_wp2_with (first | (go_at_call 89; (refine (ir_one_1.calls (rd y181 x72_3) a0_0 a0_1 a0_2 (A0_3) (c0_3) l0_3 false _ ?side1 ?side2 A42.out (hbk := ?side98) (gb_ := gb177)).mono ?_); (case side1 => repeat (first | exact (Kd.C_below HR0_3.out HB.out) | (refine Kd.C_alloc ?_ _) | (refine Kd.C_drewN ?_ _) | (refine Kd.C_drew ?_))); (case side2 => exact HC0_3.out); (case side98 => exact qK BK177.out); (try clear A42); rintro e w49 ⟨rfl, hb⟩; replace HO_8 := Aside0.mk (Kd.R_below (qR HO_8.out) hb); replace HO_70 := Aside0.mk (Kd.R_below (qR HO_70.out) hb); replace BK177 := qW BK177 hb; replace BK178 := qW BK178 hb; replace HB := qH hb; (try clear hb)))
               go_roundg k3
               case measure => have := HJ4.out; have := HK2.out; have := HK3.out; omega
               case rel => exact ⟨(wrap64 (x72_3 + 1)), qT, H', ⟨by have := HJ4.out; have := HK2.out; have := HK3.out; omega⟩, ⟨qR HO_8.out⟩, ⟨qR HO_70.out⟩, ⟨qK BK177.out⟩, ⟨qK BK178.out⟩, ⟨qB⟩⟩
             ·rw [if_neg c41] at H
              obtain ⟨c41b0, c41b1⟩ := qn c41
              have H' := Aside0.mk H
              clear H
              have p185 : 0 ≤ (x72_3 : Int) := of_decide_eq_true qA
              have q185 : x72_3 < (y181.length : Int) := of_decide_eq_true qA
              obtain ⟨ad185, e185, hx185_0⟩ := Kd.at_int (Kd.R_reads' HO_70.out).2.2 x72_3 p185 q185
              cases e185
              replace p185 := eq_true p185
              replace q185 := eq_true q185
              have p40 : 0 ≤ (x72_3 : Int) := of_decide_eq_true qA
              have q40 : x72_3 < (t179.size : Int) := of_decide_eq_true qA
              have hx40 := bt_at t179 x72_3
              replace p40 := eq_true p40
              replace q40 := eq_true q40
              go_wp2
              go_roundg k3
              case measure => have := HJ4.out; have := HK2.out; have := HK3.out; omega
              case rel => exact ⟨(wrap64 (x72_3 + 1)), qT, H', ⟨by have := HJ4.out; have := HK2.out; have := HK3.out; omega⟩, ⟨qR HO_8.out⟩, ⟨qR HO_70.out⟩, ⟨qK BK177.out⟩, ⟨qK BK178.out⟩, ⟨qB⟩⟩
            ·rw [if_neg c39] at H
             exact absurd H (by simp)
           ·rw [if_neg c38] at H
            exact absurd H (by simp)
          ·rw [if_neg c37] at H
           exact absurd H (by simp)
         ·rw [if_neg c36] at H
          have c36b0 := decide_eq_false c36
          clear c36
          replace H := qb H; obtain ⟨t187, A50, H⟩ := H
          by_cases c51 : t187 = true
          ·subst c51
           have H1 : (some 73) = some r := by rw [if_pos rfl] at H; exact H
           clear H
           have H := H1
           clear H1
           obtain rfl := Option.some.inj H
           have hnb52 := NB178_177.out
           have hnc52 := NB177_178.out
           obtain ⟨hcz53_0, hcz53_1, hcz53_2, hcz53_3, hcz53_4, hcz53_5, hfz53_0, hfz53_1, hfz53_2, hfz53_3, hfz53_4, hfz53_5⟩ := bk6 BK178.out
           obtain ⟨hcz54_0, hcz54_1, hcz54_2, hcz54_3, hfz54_0, hfz54_1, hfz54_2, hfz54_3⟩ := bk4 BK177.out
           go_wp2_with (first | ((with_reducible refine gate_callee (f := 90) rfl ?_); refine goesL_ (some 90) rfl rfl Tryd.func90 (by kernel_rfl) rfl #[.slice A1_5 l1_5.length c1_5, .func (.func 89) #[] #[.pointer (some ⟨gb177, 0, none⟩)]] rfl qL ?_; (refine (slices_ContainsFunc_int_int.calls (A1_5) (c1_5) l1_5 a0_0 a0_1 a0_2 (A0_3) (c0_3) l0_3 true _ ?side1 ?side2 ?side3 ?side4 A50.out (hbk := ?side98) (gb_ := gb177)).mono ?_); (case side1 => repeat (first | exact (Kd.C_below HR1_5.out HB.out) | (refine Kd.C_alloc ?_ _) | (refine Kd.C_drewN ?_ _) | (refine Kd.C_drew ?_))); (case side2 => exact HC1_5.out); (case side3 => repeat (first | exact (Kd.C_below HR0_3.out HB.out) | (refine Kd.C_alloc ?_ _) | (refine Kd.C_drewN ?_ _) | (refine Kd.C_drew ?_))); (case side4 => exact HC0_3.out); (case side98 => exact qK BK177.out); rintro e w55 ⟨rfl, hb⟩; refine ⟨_, rfl, ?_⟩; replace HO_8 := Aside0.mk (Kd.R_below (qR HO_8.out) hb); replace HO_70 := Aside0.mk (Kd.R_below (qR HO_70.out) hb); replace BK177 := qW BK177 hb; replace BK178 := qW BK178 hb; replace HB := qH hb; (try clear hb)))
           go_ret
           exact ⟨qE, qB⟩
          ·replace c51 := Bool.eq_false_iff.mpr c51
           subst c51
           have H1 : (ir_one.l2 k3 t179 y181 (y181.length : Int) 0 a0_0 a0_1 a0_2 l0_3 a1_0 a1_1 a1_2 a1_3 a1_4 l1_5) = some r := by rw [if_neg (show ¬ (false = true) by decide)] at H; exact H
           clear H
           have H := H1
           clear H1
           have H' := Aside0.mk H
           clear H
           have hnb56 := NB178_177.out
           have hnc56 := NB177_178.out
           obtain ⟨hcz57_0, hcz57_1, hcz57_2, hcz57_3, hcz57_4, hcz57_5, hfz57_0, hfz57_1, hfz57_2, hfz57_3, hfz57_4, hfz57_5⟩ := bk6 BK178.out
           obtain ⟨hcz58_0, hcz58_1, hcz58_2, hcz58_3, hfz58_0, hfz58_1, hfz58_2, hfz58_3⟩ := bk4 BK177.out
           go_wp2_with (first | ((with_reducible refine gate_callee (f := 90) rfl ?_); refine goesL_ (some 90) rfl rfl Tryd.func90 (by kernel_rfl) rfl #[.slice A1_5 l1_5.length c1_5, .func (.func 89) #[] #[.pointer (some ⟨gb177, 0, none⟩)]] rfl qL ?_; (refine (slices_ContainsFunc_int_int.calls (A1_5) (c1_5) l1_5 a0_0 a0_1 a0_2 (A0_3) (c0_3) l0_3 false _ ?side1 ?side2 ?side3 ?side4 A50.out (hbk := ?side98) (gb_ := gb177)).mono ?_); (case side1 => repeat (first | exact (Kd.C_below HR1_5.out HB.out) | (refine Kd.C_alloc ?_ _) | (refine Kd.C_drewN ?_ _) | (refine Kd.C_drew ?_))); (case side2 => exact HC1_5.out); (case side3 => repeat (first | exact (Kd.C_below HR0_3.out HB.out) | (refine Kd.C_alloc ?_ _) | (refine Kd.C_drewN ?_ _) | (refine Kd.C_drew ?_))); (case side4 => exact HC0_3.out); (case side98 => exact qK BK177.out); rintro e w59 ⟨rfl, hb⟩; refine ⟨_, rfl, ?_⟩; replace HO_8 := Aside0.mk (Kd.R_below (qR HO_8.out) hb); replace HO_70 := Aside0.mk (Kd.R_below (qR HO_70.out) hb); replace BK177 := qW BK177 hb; replace BK178 := qW BK178 hb; replace HB := qH hb; (try clear hb)))
           go_loopg [93] k3 (fun kq v93 w' => ∃ (x93_4 : Int), v93 = .int .i64 x93_4 ∧ Aside0 (ir_one.l2 kq t179 y181 (y181.length : Int) x93_4 a0_0 a0_1 a0_2 l0_3 a1_0 a1_1 a1_2 a1_3 a1_4 l1_5 = some r) ∧ Aside0 (kq ≤ k3) ∧ Aside0 (Kd.R (Kd.int .i64) 3 w' w.heap.size (fun _ => True) (.slice Ao28 y181.length co28) y181) ∧ Aside0 (w'.heap[gb177]? = some (.cells #[.string a0_0, .int .i64 a0_1, .int .i64 a0_2, (.slice A0_3 l0_3.length c0_3)] 34 (0, 0))) ∧ Aside0 (w'.heap[gb178]? = some (.cells #[.int .i64 a1_0, .int .i64 a1_1, .int .i64 a1_2, .int .i64 a1_3, .string a1_4, (.slice A1_5 l1_5.length c1_5)] 31 (0, 0))) ∧ Aside0 (Below w.heap.size w w'))
           case atStart => exact ⟨(0), qT, H', ⟨Nat.le_refl _⟩, ⟨qR HO_8.out⟩, ⟨qK BK177.out⟩, ⟨qK BK178.out⟩, ⟨qB⟩⟩
           case round =>
            clear H'
            try clear c1; try clear p1; try clear q1; try clear hx1; try clear c2; try clear p2; try clear c3; try clear p3; try clear q3; try clear hx3; try clear c4; try clear p4; try clear q4; try clear hx4; try clear c5; try clear p6; try clear c7; try clear c8; try clear c9; try clear c10; try clear c10b0 c10b1; try clear c12; try clear c12b0 c12b1 c12b2; try clear c13; try clear c15; try clear c15b0 c15b1; try clear c16; try clear c18; try clear c18b0 c18b1; try clear p18; try clear q18; try clear hx18; try clear c19; try clear c21; try clear c23; try clear c24; try clear c29; try clear c29b0; try clear c30; try clear c30b0; try clear c31; try clear c31b0; try clear c32; try clear c32b0; try clear p33; try clear q33; try clear hx33; try clear c34; try clear c34b0 c34b1; try clear c35; try clear c35b0 c35b1; try clear c36; try clear c36b0; try clear c37; try clear c37b0; try clear c38; try clear c38b0; try clear c39; try clear c39b0; try clear p40; try clear q40; try clear hx40; try clear c41; try clear c41b0 c41b1; try clear c43; try clear c44; try clear c47; try clear c51; try clear c52; try clear c56; try clear hcz14_0 hcz14_1 hcz14_2 hcz14_3 hcz14_4 hcz14_5 hfz14_0 hfz14_1 hfz14_2 hfz14_3 hfz14_4 hfz14_5; try clear hcz17_0 hcz17_1 hcz17_2 hcz17_3 hcz17_4 hcz17_5 hfz17_0 hfz17_1 hfz17_2 hfz17_3 hfz17_4 hfz17_5; try clear hcz20_0 hcz20_1 hcz20_2 hcz20_3 hcz20_4 hcz20_5 hfz20_0 hfz20_1 hfz20_2 hfz20_3 hfz20_4 hfz20_5; try clear hcz22_0 hcz22_1 hcz22_2 hcz22_3 hcz22_4 hcz22_5 hfz22_0 hfz22_1 hfz22_2 hfz22_3 hfz22_4 hfz22_5; try clear hcz25_0 hcz25_1 hcz25_2 hcz25_3 hcz25_4 hcz25_5 hfz25_0 hfz25_1 hfz25_2 hfz25_3 hfz25_4 hfz25_5; try clear hcz45_0 hcz45_1 hcz45_2 hcz45_3 hfz45_0 hfz45_1 hfz45_2 hfz45_3; try clear hcz48_0 hcz48_1 hcz48_2 hcz48_3 hfz48_0 hfz48_1 hfz48_2 hfz48_3; try clear hcz53_0 hcz53_1 hcz53_2 hcz53_3 hcz53_4 hcz53_5 hfz53_0 hfz53_1 hfz53_2 hfz53_3 hfz53_4 hfz53_5; try clear hcz54_0 hcz54_1 hcz54_2 hcz54_3 hfz54_0 hfz54_1 hfz54_2 hfz54_3; try clear hcz57_0 hcz57_1 hcz57_2 hcz57_3 hcz57_4 hcz57_5 hfz57_0 hfz57_1 hfz57_2 hfz57_3 hfz57_4 hfz57_5; try clear hcz58_0 hcz58_1 hcz58_2 hcz58_3 hfz58_0 hfz58_1 hfz58_2 hfz58_3; try clear hcz9_0 hcz9_1 hcz9_2 hcz9_3 hcz9_4 hcz9_5 hfz9_0 hfz9_1 hfz9_2 hfz9_3 hfz9_4 hfz9_5; try clear hx184_0; try clear hx185_0; try clear p184; try clear p185; try clear q184; try clear q185
            obtain ⟨x93_4, rfl, HA, HK4, HO_91, BK177, BK178, HB⟩ := hrel
            cases gk with
            | zero => exact absurd HA.out (by simp [ir_one.l2])
            | succ k4 =>
             have H := HA.out
             clear HA
             simp only [ir_one.l2] at H
             by_cases c60 : x93_4 < (y181.length : Int)
             ·rw [if_pos c60] at H
              have c60b0 := decide_eq_true c60
              clear c60
              by_cases c61 : 0 ≤ x93_4
              ·rw [if_pos c61] at H
               have c61b0 := decide_eq_true c61
               clear c61
               by_cases c62 : x93_4 < (y181.length : Int)
               ·rw [if_pos c62] at H
                have c62b0 := decide_eq_true c62
                clear c62
                by_cases c63 : x93_4 < (t179.size : Int)
                ·rw [if_pos c63] at H
                 have c63b0 := decide_eq_true c63
                 clear c63
                 by_cases c65 : (bt t179 x93_4) = 110
                 ·rw [if_pos c65] at H
                  obtain ⟨c65b0, c65b1⟩ := qe c65; clear c65
                  by_cases c66 : (rd y181 x93_4) < 0
                  ·rw [if_pos c66] at H
                   have c66b0 := decide_eq_true c66
                   clear c66
                   obtain rfl := Option.some.inj H
                   have p188 : 0 ≤ (x93_4 : Int) := of_decide_eq_true qA
                   have q188 : x93_4 < (y181.length : Int) := of_decide_eq_true qA
                   obtain ⟨ad188, e188, hx188_0⟩ := Kd.at_int (Kd.R_reads' HO_91.out).2.2 x93_4 p188 q188
                   cases e188
                   replace p188 := eq_true p188
                   replace q188 := eq_true q188
                   have p64 : 0 ≤ (x93_4 : Int) := of_decide_eq_true qA
                   have q64 : x93_4 < (t179.size : Int) := of_decide_eq_true qA
                   have hx64 := bt_at t179 x93_4
                   replace p64 := eq_true p64
                   replace q64 := eq_true q64
                   go_wp2
                   go_ret
                   exact ⟨qE, qB⟩
                  ·rw [if_neg c66] at H
                   have c66b0 := decide_eq_false c66
                   clear c66
                   by_cases c67 : (rd y181 x93_4) ≥ 65536
                   ·rw [if_pos c67] at H
                    have c67b0 : decide (65536 ≤ (rd y181 x93_4)) = true := decide_eq_true c67
                    clear c67
                    obtain rfl := Option.some.inj H
                    have p188 : 0 ≤ (x93_4 : Int) := of_decide_eq_true qA
                    have q188 : x93_4 < (y181.length : Int) := of_decide_eq_true qA
                    obtain ⟨ad188, e188, hx188_0⟩ := Kd.at_int (Kd.R_reads' HO_91.out).2.2 x93_4 p188 q188
                    cases e188
                    replace p188 := eq_true p188
                    replace q188 := eq_true q188
                    have p64 : 0 ≤ (x93_4 : Int) := of_decide_eq_true qA
                    have q64 : x93_4 < (t179.size : Int) := of_decide_eq_true qA
                    have hx64 := bt_at t179 x93_4
                    replace p64 := eq_true p64
                    replace q64 := eq_true q64
                    go_wp2
                    go_ret
                    exact ⟨qE, qB⟩
                   ·rw [if_neg c67] at H
                    have c67b0 : decide (65536 ≤ (rd y181 x93_4)) = false := decide_eq_false c67
                    clear c67
                    have H' := Aside0.mk H
                    clear H
                    have p188 : 0 ≤ (x93_4 : Int) := of_decide_eq_true qA
                    have q188 : x93_4 < (y181.length : Int) := of_decide_eq_true qA
                    obtain ⟨ad188, e188, hx188_0⟩ := Kd.at_int (Kd.R_reads' HO_91.out).2.2 x93_4 p188 q188
                    cases e188
                    replace p188 := eq_true p188
                    replace q188 := eq_true q188
                    have p64 : 0 ≤ (x93_4 : Int) := of_decide_eq_true qA
                    have q64 : x93_4 < (t179.size : Int) := of_decide_eq_true qA
                    have hx64 := bt_at t179 x93_4
                    replace p64 := eq_true p64
                    replace q64 := eq_true q64
                    go_wp2
                    go_roundg k4
                    case measure => have := HJ4.out; have := HK2.out; have := HK3.out; have := HK4.out; omega
                    case rel => exact ⟨(wrap64 (x93_4 + 1)), qT, H', ⟨by have := HJ4.out; have := HK2.out; have := HK3.out; have := HK4.out; omega⟩, ⟨qR HO_91.out⟩, ⟨qK BK177.out⟩, ⟨qK BK178.out⟩, ⟨qB⟩⟩
                 ·rw [if_neg c65] at H
                  obtain ⟨c65b0, c65b1⟩ := qn c65
                  have H' := Aside0.mk H
                  clear H
                  have p188 : 0 ≤ (x93_4 : Int) := of_decide_eq_true qA
                  have q188 : x93_4 < (y181.length : Int) := of_decide_eq_true qA
                  obtain ⟨ad188, e188, hx188_0⟩ := Kd.at_int (Kd.R_reads' HO_91.out).2.2 x93_4 p188 q188
                  cases e188
                  replace p188 := eq_true p188
                  replace q188 := eq_true q188
                  have p64 : 0 ≤ (x93_4 : Int) := of_decide_eq_true qA
                  have q64 : x93_4 < (t179.size : Int) := of_decide_eq_true qA
                  have hx64 := bt_at t179 x93_4
                  replace p64 := eq_true p64
                  replace q64 := eq_true q64
                  go_wp2
                  go_roundg k4
                  case measure => have := HJ4.out; have := HK2.out; have := HK3.out; have := HK4.out; omega
                  case rel => exact ⟨(wrap64 (x93_4 + 1)), qT, H', ⟨by have := HJ4.out; have := HK2.out; have := HK3.out; have := HK4.out; omega⟩, ⟨qR HO_91.out⟩, ⟨qK BK177.out⟩, ⟨qK BK178.out⟩, ⟨qB⟩⟩
                ·rw [if_neg c63] at H
                 exact absurd H (by simp)
               ·rw [if_neg c62] at H
                exact absurd H (by simp)
              ·rw [if_neg c61] at H
               exact absurd H (by simp)
             ·rw [if_neg c60] at H
              have c60b0 := decide_eq_false c60
              clear c60
              replace H := qb H; obtain ⟨t189, A68, H⟩ := H
              have H' := Aside0.mk H
              clear H
              have hnb69 := NB178_177.out
              have hnc69 := NB177_178.out
              obtain ⟨hcz70_0, hcz70_1, hcz70_2, hcz70_3, hcz70_4, hcz70_5, hfz70_0, hfz70_1, hfz70_2, hfz70_3, hfz70_4, hfz70_5⟩ := bk6 BK178.out
              go_wp2_with (first | ((with_reducible refine gate_callee (f := 91) rfl ?_); refine goesL_ (some 112) rfl rfl Tryd.func91 (by kernel_rfl) rfl #[.agg #[.int .i64 a1_0, .int .i64 a1_1, .int .i64 a1_2, .int .i64 a1_3, .string a1_4, .slice A1_5 l1_5.length c1_5]] rfl qL ?_; (with_reducible refine (ir_Targets.calls a1_0 a1_1 a1_2 a1_3 a1_4 _ _ l1_5 t189 _ ?side1 ?side2 A68.out).mono ?_); (case side1 => exact qCB HR1_5.out); (case side2 => exact HC1_5.out); rintro e w71 ⟨v190, rfl, ho0, hb⟩; refine ⟨_, rfl, ?_⟩; have HO191 := Aside0.mk (Kd.R_lower (Kd.R_new' ho0 (Kd.R_lt (qR HO_91.out))) (below_size qB)); replace HO_91 := Aside0.mk (Kd.R_elder' (qR HO_91.out) (Kd.R_base ho0) hb); replace BK177 := qW BK177 hb; replace BK178 := qW BK178 hb; replace HB := qH hb; (try clear hb); (try clear ho0); obtain ⟨Ao72, co72, eo72⟩ := Kd.R_slice HO191.out; subst eo72))
              go_loopg [114] k4 (fun kq v114 w' => ∃ (x114_5 : Int), v114 = .int .i64 x114_5 ∧ Aside0 (ir_one.l3 kq t189 (t189.length : Int) x114_5 a0_0 a0_1 a0_2 l0_3 a1_0 a1_1 a1_2 a1_3 a1_4 l1_5 = some r) ∧ Aside0 (kq ≤ k4) ∧ Aside0 (Kd.R (Kd.int .i64) 3 w' w.heap.size (fun _ => True) (.slice Ao72 t189.length co72) t189) ∧ Aside0 (w'.heap[gb177]? = some (.cells #[.string a0_0, .int .i64 a0_1, .int .i64 a0_2, (.slice A0_3 l0_3.length c0_3)] 34 (0, 0))) ∧ Aside0 (w'.heap[gb178]? = some (.cells #[.int .i64 a1_0, .int .i64 a1_1, .int .i64 a1_2, .int .i64 a1_3, .string a1_4, (.slice A1_5 l1_5.length c1_5)] 31 (0, 0))) ∧ Aside0 (Below w.heap.size w w'))
              case atStart => exact ⟨(0), qT, H', ⟨Nat.le_refl _⟩, ⟨by (with_reducible repeat (first | apply Kd.R_alloc | apply Kd.R_drewN | apply Kd.R_drew)); exact Kd.R_mono HO191.out (fun _ hk => trivial)⟩, ⟨qK BK177.out⟩, ⟨qK BK178.out⟩, ⟨qB⟩⟩
              case round =>
               clear H'
               try clear c1; try clear p1; try clear q1; try clear hx1; try clear c2; try clear p2; try clear c3; try clear p3; try clear q3; try clear hx3; try clear c4; try clear p4; try clear q4; try clear hx4; try clear c5; try clear c6; try clear p6; try clear q6; try clear hx6; try clear c7; try clear c8; try clear c9; try clear c10; try clear c10b0 c10b1; try clear c12; try clear c12b0 c12b1 c12b2; try clear c13; try clear c15; try clear c15b0 c15b1; try clear c16; try clear c18; try clear c18b0 c18b1; try clear p18; try clear q18; try clear hx18; try clear c19; try clear c21; try clear c23; try clear c24; try clear c29; try clear c29b0; try clear c30; try clear c30b0; try clear c31; try clear c31b0; try clear c32; try clear c32b0; try clear p33; try clear q33; try clear hx33; try clear c34; try clear c34b0 c34b1; try clear c35; try clear c35b0 c35b1; try clear c36; try clear c36b0; try clear c37; try clear c37b0; try clear c38; try clear c38b0; try clear c39; try clear c39b0; try clear p40; try clear q40; try clear hx40; try clear c41; try clear c41b0 c41b1; try clear c43; try clear c44; try clear c47; try clear c51; try clear c52; try clear c56; try clear c60; try clear c60b0; try clear c61; try clear c61b0; try clear c62; try clear c62b0; try clear c63; try clear c63b0; try clear p64; try clear q64; try clear hx64; try clear c65; try clear c65b0 c65b1; try clear c66; try clear c66b0; try clear c67; try clear c67b0; try clear c69; try clear hcz14_0 hcz14_1 hcz14_2 hcz14_3 hcz14_4 hcz14_5 hfz14_0 hfz14_1 hfz14_2 hfz14_3 hfz14_4 hfz14_5; try clear hcz17_0 hcz17_1 hcz17_2 hcz17_3 hcz17_4 hcz17_5 hfz17_0 hfz17_1 hfz17_2 hfz17_3 hfz17_4 hfz17_5; try clear hcz20_0 hcz20_1 hcz20_2 hcz20_3 hcz20_4 hcz20_5 hfz20_0 hfz20_1 hfz20_2 hfz20_3 hfz20_4 hfz20_5; try clear hcz22_0 hcz22_1 hcz22_2 hcz22_3 hcz22_4 hcz22_5 hfz22_0 hfz22_1 hfz22_2 hfz22_3 hfz22_4 hfz22_5; try clear hcz25_0 hcz25_1 hcz25_2 hcz25_3 hcz25_4 hcz25_5 hfz25_0 hfz25_1 hfz25_2 hfz25_3 hfz25_4 hfz25_5; try clear hcz45_0 hcz45_1 hcz45_2 hcz45_3 hfz45_0 hfz45_1 hfz45_2 hfz45_3; try clear hcz48_0 hcz48_1 hcz48_2 hcz48_3 hfz48_0 hfz48_1 hfz48_2 hfz48_3; try clear hcz53_0 hcz53_1 hcz53_2 hcz53_3 hcz53_4 hcz53_5 hfz53_0 hfz53_1 hfz53_2 hfz53_3 hfz53_4 hfz53_5; try clear hcz54_0 hcz54_1 hcz54_2 hcz54_3 hfz54_0 hfz54_1 hfz54_2 hfz54_3; try clear hcz57_0 hcz57_1 hcz57_2 hcz57_3 hcz57_4 hcz57_5 hfz57_0 hfz57_1 hfz57_2 hfz57_3 hfz57_4 hfz57_5; try clear hcz58_0 hcz58_1 hcz58_2 hcz58_3 hfz58_0 hfz58_1 hfz58_2 hfz58_3; try clear hcz70_0 hcz70_1 hcz70_2 hcz70_3 hcz70_4 hcz70_5 hfz70_0 hfz70_1 hfz70_2 hfz70_3 hfz70_4 hfz70_5; try clear hcz9_0 hcz9_1 hcz9_2 hcz9_3 hcz9_4 hcz9_5 hfz9_0 hfz9_1 hfz9_2 hfz9_3 hfz9_4 hfz9_5; try clear hx184_0; try clear hx185_0; try clear hx188_0; try clear p184; try clear p185; try clear p188; try clear q184; try clear q185; try clear q188
               obtain ⟨x114_5, rfl, HA, HK5, HO_112, BK177, BK178, HB⟩ := hrel
               cases gk with
               | zero => exact absurd HA.out (by simp [ir_one.l3])
               | succ k5 =>
                have H := HA.out
                clear HA
                simp only [ir_one.l3] at H
                by_cases c73 : x114_5 < (t189.length : Int)
                ·rw [if_pos c73] at H
                 have c73b0 := decide_eq_true c73
                 clear c73
                 by_cases c74 : 0 ≤ x114_5
                 ·rw [if_pos c74] at H
                  have c74b0 := decide_eq_true c74
                  clear c74
                  by_cases c75 : x114_5 < (t189.length : Int)
                  ·rw [if_pos c75] at H
                   have c75b0 := decide_eq_true c75
                   clear c75
                   by_cases c76 : (rd t189 x114_5) < 0
                   ·rw [if_pos c76] at H
                    have c76b0 := decide_eq_true c76
                    clear c76
                    obtain rfl := Option.some.inj H
                    have p192 : 0 ≤ (x114_5 : Int) := of_decide_eq_true qA
                    have q192 : x114_5 < (t189.length : Int) := of_decide_eq_true qA
                    obtain ⟨ad192, e192, hx192_0⟩ := Kd.at_int (Kd.R_reads' HO_112.out).2.2 x114_5 p192 q192
                    cases e192
                    replace p192 := eq_true p192
                    replace q192 := eq_true q192
                    go_wp2
                    go_ret
                    exact ⟨qE, qB⟩
                   ·rw [if_neg c76] at H
                    have c76b0 := decide_eq_false c76
                    clear c76
                    by_cases c77 : (rd t189 x114_5) ≥ (l0_3.length : Int)
                    ·rw [if_pos c77] at H
                     have c77b0 : decide ((l0_3.length : Int) ≤ (rd t189 x114_5)) = true := decide_eq_true c77
                     clear c77
                     obtain rfl := Option.some.inj H
                     have p192 : 0 ≤ (x114_5 : Int) := of_decide_eq_true qA
                     have q192 : x114_5 < (t189.length : Int) := of_decide_eq_true qA
                     obtain ⟨ad192, e192, hx192_0⟩ := Kd.at_int (Kd.R_reads' HO_112.out).2.2 x114_5 p192 q192
                     cases e192
                     replace p192 := eq_true p192
                     replace q192 := eq_true q192
                     have hnb78 := NB177_178.out
                     have hnc78 := NB178_177.out
                     obtain ⟨hcz79_0, hcz79_1, hcz79_2, hcz79_3, hfz79_0, hfz79_1, hfz79_2, hfz79_3⟩ := bk4 BK177.out
                     go_wp2
                     go_ret
                     exact ⟨qE, qB⟩
                    ·rw [if_neg c77] at H
                     have c77b0 : decide ((l0_3.length : Int) ≤ (rd t189 x114_5)) = false := decide_eq_false c77
                     clear c77
                     have H' := Aside0.mk H
                     clear H
                     have p192 : 0 ≤ (x114_5 : Int) := of_decide_eq_true qA
                     have q192 : x114_5 < (t189.length : Int) := of_decide_eq_true qA
                     obtain ⟨ad192, e192, hx192_0⟩ := Kd.at_int (Kd.R_reads' HO_112.out).2.2 x114_5 p192 q192
                     cases e192
                     replace p192 := eq_true p192
                     replace q192 := eq_true q192
                     have hnb80 := NB177_178.out
                     have hnc80 := NB178_177.out
                     obtain ⟨hcz81_0, hcz81_1, hcz81_2, hcz81_3, hfz81_0, hfz81_1, hfz81_2, hfz81_3⟩ := bk4 BK177.out
                     go_wp2
                     go_roundg k5
                     case measure => have := HJ4.out; have := HK2.out; have := HK3.out; have := HK4.out; have := HK5.out; omega
                     case rel => exact ⟨(wrap64 (x114_5 + 1)), qT, H', ⟨by have := HJ4.out; have := HK2.out; have := HK3.out; have := HK4.out; have := HK5.out; omega⟩, ⟨qR HO_112.out⟩, ⟨qK BK177.out⟩, ⟨qK BK178.out⟩, ⟨qB⟩⟩
                  ·rw [if_neg c75] at H
                   exact absurd H (by simp)
                 ·rw [if_neg c74] at H
                  exact absurd H (by simp)
                ·rw [if_neg c73] at H
                 have c73b0 := decide_eq_false c73
                 clear c73
                 have HC82 := Aside0.mk H
                 clear H
                 go_upto_region 32 with (fail)
                 go_cut [128] (fun v128 wc => ∃ (kq : Nat) (x128_81 : Bool), v128 = .bool x128_81 ∧ Aside0 (ir_one.j5 kq x128_81 a1_0 a1_1 a1_2 a1_3 a1_4 l1_5 = some r) ∧ Aside0 (kq ≤ k5) ∧ Aside0 (wc.heap[gb177]? = some (.cells #[.string a0_0, .int .i64 a0_1, .int .i64 a0_2, (.slice A0_3 l0_3.length c0_3)] 34 (0, 0))) ∧ Aside0 (wc.heap[gb178]? = some (.cells #[.int .i64 a1_0, .int .i64 a1_1, .int .i64 a1_2, .int .i64 a1_3, .string a1_4, (.slice A1_5 l1_5.length c1_5)] 31 (0, 0))) ∧ Aside0 (Below w.heap.size w wc))
                 case first =>
                  have H := HC82.out
                  clear HC82
                  by_cases c83 : a1_0 = 11
                  ·rw [if_pos c83] at H
                   obtain ⟨c83b0, c83b1⟩ := qe c83; clear c83
                   (first | rw [c83b0] | (simp only [i64_w, i32_w]; rw [c83b0]) | skip)
                   replace H := qb H; obtain ⟨t193, A84, H⟩ := H
                   have H' := Aside0.mk H
                   clear H
                   have hnb85 := NB178_177.out
                   have hnc85 := NB177_178.out
                   obtain ⟨hcz86_0, hcz86_1, hcz86_2, hcz86_3, hcz86_4, hcz86_5, hfz86_0, hfz86_1, hfz86_2, hfz86_3, hfz86_4, hfz86_5⟩ := bk6 BK178.out
                   go_wp2_with (first | (go_at_call 40; (with_reducible refine (ir_Name.calls a1_4 t193 _ A84.out).mono ?_); (try clear A84); rintro e w87 ⟨rfl, hb⟩; replace HO_112 := Aside0.mk (Kd.R_below (qR HO_112.out) hb); replace BK177 := qW BK177 hb; replace BK178 := qW BK178 hb; replace HB := qH hb; (try clear hb)))
                   go_meet
                   case rel => exact ⟨_, (!t193), qT, H', ⟨by have := HJ4.out; have := HK2.out; have := HK3.out; have := HK4.out; have := HK5.out; first | omega | exact Nat.le_refl _⟩, ⟨qK BK177.out⟩, ⟨qK BK178.out⟩, ⟨qB⟩⟩
                  ·rw [if_neg c83] at H
                   obtain ⟨c83b0, c83b1⟩ := qn c83
                   (first | rw [c83b0] | (simp only [i64_w, i32_w]; rw [c83b0]) | skip)
                   have H' := Aside0.mk H
                   clear H
                   have hnb88 := NB178_177.out
                   have hnc88 := NB177_178.out
                   obtain ⟨hcz89_0, hcz89_1, hcz89_2, hcz89_3, hcz89_4, hcz89_5, hfz89_0, hfz89_1, hfz89_2, hfz89_3, hfz89_4, hfz89_5⟩ := bk6 BK178.out
                   go_wp2
                   go_meet
                   case rel => exact ⟨_, (false), qT, H', ⟨by have := HJ4.out; have := HK2.out; have := HK3.out; have := HK4.out; have := HK5.out; first | omega | exact Nat.le_refl _⟩, ⟨qK BK177.out⟩, ⟨qK BK178.out⟩, ⟨qB⟩⟩
                 case rest =>
                  clear HC82
                  try clear c1; try clear p1; try clear q1; try clear hx1; try clear c2; try clear p2; try clear c3; try clear p3; try clear q3; try clear hx3; try clear c4; try clear p4; try clear q4; try clear hx4; try clear c5; try clear c6; try clear p6; try clear q6; try clear hx6; try clear c7; try clear c8; try clear c9; try clear c10; try clear c10b0 c10b1; try clear c12; try clear c12b0 c12b1 c12b2; try clear c13; try clear c15; try clear c15b0 c15b1; try clear c16; try clear c18; try clear c18b0 c18b1; try clear p18; try clear q18; try clear hx18; try clear c19; try clear p19; try clear q19; try clear hx19; try clear c21; try clear c23; try clear c24; try clear c29; try clear c29b0; try clear c30; try clear c30b0; try clear c31; try clear c31b0; try clear c32; try clear c32b0; try clear p33; try clear q33; try clear hx33; try clear c34; try clear c34b0 c34b1; try clear c35; try clear c35b0 c35b1; try clear c36; try clear c36b0; try clear c37; try clear c37b0; try clear c38; try clear c38b0; try clear c39; try clear c39b0; try clear p40; try clear q40; try clear hx40; try clear c41; try clear c41b0 c41b1; try clear c43; try clear c44; try clear c47; try clear c51; try clear c52; try clear c56; try clear c60; try clear c60b0; try clear c61; try clear c61b0; try clear c62; try clear c62b0; try clear c63; try clear c63b0; try clear p64; try clear q64; try clear hx64; try clear c65; try clear c65b0 c65b1; try clear c66; try clear c66b0; try clear c67; try clear c67b0; try clear c69; try clear c73; try clear c73b0; try clear c74; try clear c74b0; try clear c75; try clear c75b0; try clear c76; try clear c76b0; try clear c77; try clear c77b0; try clear c78; try clear c80; try clear c83; try clear c83b0 c83b1; try clear c85; try clear c88; try clear hcz14_0 hcz14_1 hcz14_2 hcz14_3 hcz14_4 hcz14_5 hfz14_0 hfz14_1 hfz14_2 hfz14_3 hfz14_4 hfz14_5; try clear hcz17_0 hcz17_1 hcz17_2 hcz17_3 hcz17_4 hcz17_5 hfz17_0 hfz17_1 hfz17_2 hfz17_3 hfz17_4 hfz17_5; try clear hcz20_0 hcz20_1 hcz20_2 hcz20_3 hcz20_4 hcz20_5 hfz20_0 hfz20_1 hfz20_2 hfz20_3 hfz20_4 hfz20_5; try clear hcz22_0 hcz22_1 hcz22_2 hcz22_3 hcz22_4 hcz22_5 hfz22_0 hfz22_1 hfz22_2 hfz22_3 hfz22_4 hfz22_5; try clear hcz25_0 hcz25_1 hcz25_2 hcz25_3 hcz25_4 hcz25_5 hfz25_0 hfz25_1 hfz25_2 hfz25_3 hfz25_4 hfz25_5; try clear hcz45_0 hcz45_1 hcz45_2 hcz45_3 hfz45_0 hfz45_1 hfz45_2 hfz45_3; try clear hcz48_0 hcz48_1 hcz48_2 hcz48_3 hfz48_0 hfz48_1 hfz48_2 hfz48_3; try clear hcz53_0 hcz53_1 hcz53_2 hcz53_3 hcz53_4 hcz53_5 hfz53_0 hfz53_1 hfz53_2 hfz53_3 hfz53_4 hfz53_5; try clear hcz54_0 hcz54_1 hcz54_2 hcz54_3 hfz54_0 hfz54_1 hfz54_2 hfz54_3; try clear hcz57_0 hcz57_1 hcz57_2 hcz57_3 hcz57_4 hcz57_5 hfz57_0 hfz57_1 hfz57_2 hfz57_3 hfz57_4 hfz57_5; try clear hcz58_0 hcz58_1 hcz58_2 hcz58_3 hfz58_0 hfz58_1 hfz58_2 hfz58_3; try clear hcz70_0 hcz70_1 hcz70_2 hcz70_3 hcz70_4 hcz70_5 hfz70_0 hfz70_1 hfz70_2 hfz70_3 hfz70_4 hfz70_5; try clear hcz79_0 hcz79_1 hcz79_2 hcz79_3 hfz79_0 hfz79_1 hfz79_2 hfz79_3; try clear hcz81_0 hcz81_1 hcz81_2 hcz81_3 hfz81_0 hfz81_1 hfz81_2 hfz81_3; try clear hcz86_0 hcz86_1 hcz86_2 hcz86_3 hcz86_4 hcz86_5 hfz86_0 hfz86_1 hfz86_2 hfz86_3 hfz86_4 hfz86_5; try clear hcz89_0 hcz89_1 hcz89_2 hcz89_3 hcz89_4 hcz89_5 hfz89_0 hfz89_1 hfz89_2 hfz89_3 hfz89_4 hfz89_5; try clear hcz9_0 hcz9_1 hcz9_2 hcz9_3 hcz9_4 hcz9_5 hfz9_0 hfz9_1 hfz9_2 hfz9_3 hfz9_4 hfz9_5; try clear hx184_0; try clear hx185_0; try clear hx188_0; try clear hx192_0; try clear p184; try clear p185; try clear p188; try clear p192; try clear q184; try clear q185; try clear q188; try clear q192
                  obtain ⟨kq, x128_81, rfl, HA, HJ81, BK177, BK178, HB⟩ := hcut
                  cases kq with
                  | zero => exact absurd HA.out (by simp [ir_one.j5])
                  | succ kj81 =>
                   have H := HA.out
                   clear HA
                   simp only [ir_one.j5] at H
                   by_cases c90 : x128_81 = true
                   ·subst c90
                    have H1 : (some 70) = some r := by rw [if_pos rfl] at H; exact H
                    clear H
                    have H := H1
                    clear H1
                    obtain rfl := Option.some.inj H
                    go_wp2
                    go_ret
                    exact ⟨qE, qB⟩
                   ·replace c90 := Bool.eq_false_iff.mpr c90
                    subst c90
                    have H1 : (if (l1_5.length : Int) > 4 then (some 192) else (some 0)) = some r := by rw [if_neg (show ¬ (false = true) by decide)] at H; exact H
                    clear H
                    have H := H1
                    clear H1
                    by_cases c91 : (l1_5.length : Int) > 4
                    ·rw [if_pos c91] at H
                     have c91b0 : decide (4 < (l1_5.length : Int)) = true := decide_eq_true c91
                     have c91b1 : decide (4 < l1_5.length) = true := decide_eq_true (by omega)
                     clear c91
                     obtain rfl := Option.some.inj H
                     have hnb92 := NB178_177.out
                     have hnc92 := NB177_178.out
                     obtain ⟨hcz93_0, hcz93_1, hcz93_2, hcz93_3, hcz93_4, hcz93_5, hfz93_0, hfz93_1, hfz93_2, hfz93_3, hfz93_4, hfz93_5⟩ := bk6 BK178.out
                     go_wp2
                     go_ret
                     exact ⟨qE, qB⟩
                    ·rw [if_neg c91] at H
                     have c91b0 : decide (4 < (l1_5.length : Int)) = false := decide_eq_false c91
                     have c91b1 : decide (4 < l1_5.length) = false := decide_eq_false (by omega)
                     clear c91
                     obtain rfl := Option.some.inj H
                     have hnb94 := NB178_177.out
                     have hnc94 := NB177_178.out
                     obtain ⟨hcz95_0, hcz95_1, hcz95_2, hcz95_3, hcz95_4, hcz95_5, hfz95_0, hfz95_1, hfz95_2, hfz95_3, hfz95_4, hfz95_5⟩ := bk6 BK178.out
                     go_wp2
                     go_ret
                     exact ⟨qE, qB⟩

end Go.Proofs.YtebnnknijbgekaaDoor.Q
