/- Lean functions that answer as the Go functions named below do, and the proofs of that. Written by a program out of the translation. -/
import Derived.Test.YtbipipbfiekbgaaDoorQ0
import Derived.Test.YtbipipbfiekbgaaDoorSq
import Derived.Test.YtbipipbfiekbgaaDoorQaskParse
import Derived.Test.YtbipipbfiekbgaaDoorQcubbyref07Name
import Derived.Test.YtbipipbfiekbgaaDoorQcubbyref21Parse
namespace Go.Proofs.YtbipipbfiekbgaaDoor.Q
open Go.RowKit Go.Proofs.YtbipipbfiekbgaaDoorW.PrintWords Go.Proofs.YtbipipbfiekbgaaDoorW.PrintLast Go.Proofs.YtbipipbfiekbgaaDoorW.PrintMore
attribute [local go_sem] max2_int min2_int max_two min_two max_three min_three max_four min_four   -- for this text's walks alone
set_option linter.unusedVariables false
set_option linter.unusedSimpArgs false

/-! ### cubbylaw21_AskNames: function 6 -/
def cubbylaw21_AskNames.f (k : Nat) (a0 : Int) (a1 : ByteArray) : Option (Bool) := if (a1.size : Int) > 1024 then (some true) else ((some (([(⟨#[98, 117, 105, 108, 100]⟩ : ByteArray), (⟨#[102, 101, 116, 99, 104]⟩ : ByteArray), (⟨#[100, 114, 111, 112]⟩ : ByteArray), (⟨#[112, 105, 110]⟩ : ByteArray), (⟨#[117, 110, 112, 105, 110]⟩ : ByteArray)] : List ByteArray) : List ByteArray)).bind fun y348 => (if 0 ≤ (Int.tmod (wrap64 (a0)) 5) then (if (Int.tmod (wrap64 (a0)) 5) < (y348.length : Int) then (if (rdOf ByteArray.empty y348 (Int.tmod (wrap64 (a0)) 5)).size + 1 ≤ 9223372036854775807 then (if ((rdOf ByteArray.empty y348 (Int.tmod (wrap64 (a0)) 5)) ++ (⟨#[32]⟩ : ByteArray)).size + a1.size ≤ 9223372036854775807 then ((ask_Parse.f k (((rdOf ByteArray.empty y348 (Int.tmod (wrap64 (a0)) 5)) ++ (⟨#[32]⟩ : ByteArray)) ++ a1)).bind fun bt352 => ((cubbyref21_Parse.f k (((rdOf ByteArray.empty y348 (Int.tmod (wrap64 (a0)) 5)) ++ (⟨#[32]⟩ : ByteArray)) ++ a1)).bind fun bt358 => (if bt352.2.2.2 = bt358.2.2.2 then ((cubbyref07_Name.f k a1).bind fun t363 => (if ((bt352.2.2.2 == 0) != t363) = true then (some false) else (if bt352.2.2.2 = 0 then (if bt352.1 = (wrap64 (2 + (Int.tmod (wrap64 (a0)) 5))) then (if bt352.2.1.toList = a1.toList then (some (bt352.2.2.1.toList == ([] : List UInt8))) else (some false)) else (some false)) else (some true)))) else (some false)))) else (none)) else (none)) else (none)) else (none)))
theorem cubbylaw21_AskNames.mono : ∀ a0 a1 k, LeO (cubbylaw21_AskNames.f k a0 a1) (cubbylaw21_AskNames.f (k + 1) a0 a1) := by
 intro a0 a1 k
 unfold cubbylaw21_AskNames.f
 repeat' first | (with_reducible exact ask_Parse.mono _ _) | (with_reducible exact cubbyref07_Name.mono _ _) | (with_reducible exact cubbyref21_Parse.mono _ _) | (with_reducible exact LeO.refl _) | (with_reducible exact LeO.none _) | (with_reducible refine LeO.ite ?_ ?_) | (with_reducible refine LeO.bind ?_ (fun _ => ?_)) | exact LeO.none _ | refine LeO.ite ?_ ?_ | refine LeO.bind ?_ (fun _ => ?_)
set_option maxHeartbeats 8000000 in
set_option maxRecDepth 100000 in
theorem cubbylaw21_AskNames.calls (k : Nat) (a0 : Int) (a1 : ByteArray) (r : Bool) (w : World) (hr : r = true) (h : cubbylaw21_AskNames.f k a0 a1 = some r) :
  Calls Tryd.prog 6 #[.int .u8 a0, .string a1] w fun e w' => e = .returned (.bool r) ∧ Below w.heap.size w w' := by
 have hu40 := Tryd.underlying40
 have hu43 := Tryd.underlying43
 have HB := Aside0.mk (Below.refl w.heap.size w)
 have HRt := Aside0.mk hr
 clear hr
 have H := h; clear h; unfold cubbylaw21_AskNames.f at H
 by_cases c3 : (a1.size : Int) > 1024
 ·rw [if_pos c3] at H
  have c3b0 : decide (1024 < (a1.size : Int)) = true := decide_eq_true c3
  have c3b1 : decide (1024 < a1.size) = true := decide_eq_true (by omega)
  clear c3
  obtain rfl := Option.some.inj H
  go_enter Tryd.func6, Tryd.ntmps6
  go_wp2
  go_ret
  exact ⟨by first | rfl | (rw [show ∀ l_ : List UInt8, (l_ == []) = l_.isEmpty from fun l_ => by cases l_ <;> rfl]; rfl) | (simp [errW_none, errW_some] <;> rfl) | (simp [*, errW_none, errW_some] <;> rfl), qB⟩
 ·rw [if_neg c3] at H
  have c3b0 : decide (1024 < (a1.size : Int)) = false := decide_eq_false c3
  have c3b1 : decide (1024 < a1.size) = false := decide_eq_false (by omega)
  clear c3
  obtain ⟨y348, hy348⟩ : ∃ y_ : List ByteArray, y_ = (([(⟨#[98, 117, 105, 108, 100]⟩ : ByteArray), (⟨#[102, 101, 116, 99, 104]⟩ : ByteArray), (⟨#[100, 114, 111, 112]⟩ : ByteArray), (⟨#[112, 105, 110]⟩ : ByteArray), (⟨#[117, 110, 112, 105, 110]⟩ : ByteArray)] : List ByteArray)) := ⟨_, rfl⟩
  replace H : (if 0 ≤ (Int.tmod (wrap64 (a0)) 5) then (if (Int.tmod (wrap64 (a0)) 5) < (y348.length : Int) then (if (rdOf ByteArray.empty y348 (Int.tmod (wrap64 (a0)) 5)).size + 1 ≤ 9223372036854775807 then (if ((rdOf ByteArray.empty y348 (Int.tmod (wrap64 (a0)) 5)) ++ (⟨#[32]⟩ : ByteArray)).size + a1.size ≤ 9223372036854775807 then ((ask_Parse.f k (((rdOf ByteArray.empty y348 (Int.tmod (wrap64 (a0)) 5)) ++ (⟨#[32]⟩ : ByteArray)) ++ a1)).bind fun bt352 => ((cubbyref21_Parse.f k (((rdOf ByteArray.empty y348 (Int.tmod (wrap64 (a0)) 5)) ++ (⟨#[32]⟩ : ByteArray)) ++ a1)).bind fun bt358 => (if bt352.2.2.2 = bt358.2.2.2 then ((cubbyref07_Name.f k a1).bind fun t363 => (if ((bt352.2.2.2 == 0) != t363) = true then (some false) else (if bt352.2.2.2 = 0 then (if bt352.1 = (wrap64 (2 + (Int.tmod (wrap64 (a0)) 5))) then (if bt352.2.1.toList = a1.toList then (some (bt352.2.2.1.toList == ([] : List UInt8))) else (some false)) else (some false)) else (some true)))) else (some false)))) else (none)) else (none)) else (none)) else (none)) = some r := by first | (rw [hy348]; with_reducible exact H) | (have H2_ := (Option.bind_some _ _).symm.trans H; rw [hy348]; with_reducible exact H2_) | (have H2_ := (Option.bind_some _ _).symm.trans H; with_reducible exact H2_) | with_reducible exact H | (rw [hy348]; exact H) | exact H
  have Ny348 := Aside0.mk hy348
  clear hy348
  obtain ⟨ji4, hji4⟩ : ∃ j_ : Int, (Int.tmod (wrap64 (a0)) 5) = j_ := ⟨_, rfl⟩
  replace H : (if 0 ≤ (ji4) then (if (ji4) < (y348.length : Int) then (if (rdOf ByteArray.empty y348 (ji4)).size + 1 ≤ 9223372036854775807 then (if ((rdOf ByteArray.empty y348 (ji4)) ++ (⟨#[32]⟩ : ByteArray)).size + a1.size ≤ 9223372036854775807 then ((ask_Parse.f k (((rdOf ByteArray.empty y348 (ji4)) ++ (⟨#[32]⟩ : ByteArray)) ++ a1)).bind fun bt352 => ((cubbyref21_Parse.f k (((rdOf ByteArray.empty y348 (ji4)) ++ (⟨#[32]⟩ : ByteArray)) ++ a1)).bind fun bt358 => (if bt352.2.2.2 = bt358.2.2.2 then ((cubbyref07_Name.f k a1).bind fun t363 => (if ((bt352.2.2.2 == 0) != t363) = true then (some false) else (if bt352.2.2.2 = 0 then (if bt352.1 = (wrap64 (2 + (ji4))) then (if bt352.2.1.toList = a1.toList then (some (bt352.2.2.1.toList == ([] : List UInt8))) else (some false)) else (some false)) else (some true)))) else (some false)))) else (none)) else (none)) else (none)) else (none)) = some r := by first | (rw [hji4] at H; exact H) | (simp only [hji4] at H ⊢; exact H)
  by_cases c5 : 0 ≤ (ji4)
  ·rw [if_pos c5] at H
   have c5b0 := decide_eq_true c5
   clear c5
   by_cases c6 : (ji4) < (y348.length : Int)
   ·rw [if_pos c6] at H
    have c6b0 := decide_eq_true c6
    clear c6
    by_cases c7 : (rdOf ByteArray.empty y348 (ji4)).size + 1 ≤ 9223372036854775807
    ·rw [if_pos c7] at H
     have c7b0 := eq_true c7
     have c7b1 := decide_eq_true c7
     try have c7b2 : (9223372036854775807 < (rdOf ByteArray.empty y348 (ji4)).size + 1) = False := eq_false (Nat.not_lt.2 c7)
     by_cases c8 : ((rdOf ByteArray.empty y348 (ji4)) ++ (⟨#[32]⟩ : ByteArray)).size + a1.size ≤ 9223372036854775807
     ·rw [if_pos c8] at H
      have c8b0 := eq_true c8
      have c8b1 := decide_eq_true c8
      try have c8b2 : (9223372036854775807 < ((rdOf ByteArray.empty y348 (ji4)) ++ (⟨#[32]⟩ : ByteArray)).size + a1.size) = False := eq_false (Nat.not_lt.2 c8)
      replace H := Option.bind_eq_some_iff.mp H
      obtain ⟨⟨t352, t353, t354, t355⟩, A90, H⟩ := H
      replace H : ((cubbyref21_Parse.f k (((rdOf ByteArray.empty y348 (ji4)) ++ (⟨#[32]⟩ : ByteArray)) ++ a1)).bind fun bt358 => (if t355 = bt358.2.2.2 then ((cubbyref07_Name.f k a1).bind fun t363 => (if ((t355 == 0) != t363) = true then (some false) else (if t355 = 0 then (if t352 = (wrap64 (2 + (ji4))) then (if t353.toList = a1.toList then (some (t354.toList == ([] : List UInt8))) else (some false)) else (some false)) else (some true)))) else (some false))) = some r := H
      have A9 := Aside0.mk A90
      clear A90
      replace H := Option.bind_eq_some_iff.mp H
      obtain ⟨⟨t358, t359, t360, t361⟩, A100, H⟩ := H
      replace H : (if t355 = t361 then ((cubbyref07_Name.f k a1).bind fun t363 => (if ((t355 == 0) != t363) = true then (some false) else (if t355 = 0 then (if t352 = (wrap64 (2 + (ji4))) then (if t353.toList = a1.toList then (some (t354.toList == ([] : List UInt8))) else (some false)) else (some false)) else (some true)))) else (some false)) = some r := H
      have A10 := Aside0.mk A100
      clear A100
      by_cases c11 : t355 = t361
      ·rw [if_pos c11] at H
       obtain ⟨c11b0, c11b1⟩ := qe c11; clear c11
       replace H := qb H; obtain ⟨t363, A12, H⟩ := H
       by_cases c13 : ((t355 == 0) != t363) = true
       ·rw [if_pos c13] at H
        have c13b0 : ((t355 == 0) != t363) = true := c13
        (try (have c13b1 : decide ((t355 == 0) = t363) = false := by simpa using c13))
        (try (have c13b2 : ((t355 == 0) == t363) = false := by simpa using c13))
        (try (have c13b3 : ¬ ((t355 == 0) = t363) := by simpa using c13))
        clear c13
        exact absurd ((Option.some.inj H).trans HRt.out) (by decide)
       ·rw [if_neg c13] at H
        have c13b0 : ((t355 == 0) != t363) = false := by simpa using c13
        (try (have c13b1 : decide ((t355 == 0) = t363) = true := by simpa using c13))
        (try (have c13b2 : ((t355 == 0) == t363) = true := by simpa using c13))
        clear c13
        by_cases c14 : t355 = 0
        ·rw [if_pos c14] at H
         obtain ⟨c14b0, c14b1⟩ := qe c14; clear c14
         have hv_ : t363 = true := by cases t363 <;> simp [c14b0] at c13b0 ⊢
         by_cases c15 : t352 = (wrap64 (2 + (ji4)))
         ·rw [if_pos c15] at H
          obtain ⟨c15b0, c15b1⟩ := qe c15; clear c15
          by_cases c16 : t353.toList = a1.toList
          ·rw [if_pos c16] at H
           obtain ⟨c16b0, c16b1⟩ := qe c16; clear c16
           obtain rfl := Option.some.inj H
           go_enter Tryd.func6, Tryd.ntmps6
           go_wp2_with (first | ((with_reducible refine gate_dst (N := 14) rfl ?_); refine Kd.R_lit Kd.string _ 9 (by rfl) (N := 14) (by rfl) (xs := ([(⟨#[98, 117, 105, 108, 100]⟩ : ByteArray), (⟨#[102, 101, 116, 99, 104]⟩ : ByteArray), (⟨#[100, 114, 111, 112]⟩ : ByteArray), (⟨#[112, 105, 110]⟩ : ByteArray), (⟨#[117, 110, 112, 105, 110]⟩ : ByteArray)] : List ByteArray)) (inner := [.string (⟨#[98, 117, 105, 108, 100]⟩ : ByteArray), .string (⟨#[102, 101, 116, 99, 104]⟩ : ByteArray), .string (⟨#[100, 114, 111, 112]⟩ : ByteArray), .string (⟨#[112, 105, 110]⟩ : ByteArray), .string (⟨#[117, 110, 112, 105, 110]⟩ : ByteArray)]) (ok := fun _ => True) (okp := fun _ => True) ?hr ?hp (fun _ hk => hk) trivial (Below.refl _ _) (Nat.le_refl _) (by simp) ?_; (case hr => first | (go_simp; done) | (go_simp; rfl)); (case hp => exact (Reps.one (show Kd.M Kd.string _ _ _ (⟨#[98, 117, 105, 108, 100]⟩ : ByteArray) [.string (⟨#[98, 117, 105, 108, 100]⟩ : ByteArray)] from rfl) (Reps.one (show Kd.M Kd.string _ _ _ (⟨#[102, 101, 116, 99, 104]⟩ : ByteArray) [.string (⟨#[102, 101, 116, 99, 104]⟩ : ByteArray)] from rfl) (Reps.one (show Kd.M Kd.string _ _ _ (⟨#[100, 114, 111, 112]⟩ : ByteArray) [.string (⟨#[100, 114, 111, 112]⟩ : ByteArray)] from rfl) (Reps.one (show Kd.M Kd.string _ _ _ (⟨#[112, 105, 110]⟩ : ByteArray) [.string (⟨#[112, 105, 110]⟩ : ByteArray)] from rfl) (Reps.one (show Kd.M Kd.string _ _ _ (⟨#[117, 110, 112, 105, 110]⟩ : ByteArray) [.string (⟨#[117, 110, 112, 105, 110]⟩ : ByteArray)] from rfl) (Reps.none _ _))))))); intro v349 w17 ho18 hb hg_ hnew_; clear hg_ hnew_; (first | rw [← Ny348.out] at ho18 | (simp only [Int.reduceToNat] at ho18; rw [← Ny348.out] at ho18)); have HO350 := Aside0.mk (Kd.R_lower ho18 (below_size qB)); replace HB := qH hb; clear hb ho18; obtain ⟨Ao19, co19, eo19⟩ := Kd.R_slice HO350.out; subst eo19; have p351 : 0 ≤ ((ji4) : Int) := of_decide_eq_true qA; have q351 : (ji4) < (y348.length : Int) := of_decide_eq_true qA; obtain ⟨ad351, e351, hx351_0⟩ := Kd.at_string (Kd.R_reads' HO350.out).2.2 (ji4) p351 q351; cases e351; replace p351 := eq_true p351; replace q351 := eq_true q351) | ((with_reducible refine gate_callee (f := 14) rfl ?_); refine goesL_ (some 26) rfl rfl Tryd.func14 (by kernel_rfl) rfl #[.string (((rdOf ByteArray.empty y348 (ji4)) ++ (⟨#[32]⟩ : ByteArray)) ++ a1)] rfl (by (try simp only [List.map_toArray, List.map_cons, List.map_nil]); first | done | (simp only [hji4]; rfl) | rfl | (simp only [List.length_drop, List.length_take]; rfl)) ?_; (with_reducible refine (ask_Parse.calls k (((rdOf ByteArray.empty y348 (ji4)) ++ (⟨#[32]⟩ : ByteArray)) ++ a1) t352 t353 t354 t355 _ A9.out).mono ?_); rintro e w20 ⟨rfl, hb⟩; refine ⟨_, rfl, ?_⟩; replace HO350 := Aside0.mk (Kd.R_below (qR HO350.out) hb); replace HB := qH hb; (try clear hb)) | ((with_reducible refine gate_dst (N := 7) rfl ?_); refine box_event (by rfl) (N := 7) (by rfl) (cs := #[.int .i64 0, .string (⟨#[]⟩ : ByteArray), .string (⟨#[]⟩ : ByteArray)]) (t := 40) ?hr ?_; (case hr => first | (go_simp; done) | (go_simp; rfl)); intro gb356 hg w21 hbox hb; replace HO350 := Aside0.mk (Kd.R_below (qR HO350.out) hb); have BK356 := Aside0.mk (hbox); have GW356 := qG hg; have GE356 := GW356; replace HB := qH hb; clear hb hbox hg; have z22_0 := bk3 BK356.out; have p357 : 0 ≤ ((ji4) : Int) := of_decide_eq_true qA; have q357 : (ji4) < (y348.length : Int) := of_decide_eq_true qA; obtain ⟨ad357, e357, hx357_0⟩ := Kd.at_string (Kd.R_reads' HO350.out).2.2 (ji4) p357 q357; obtain rfl : ad351 = ad357 := (by injection e357); have hn357_0 : ad351.block ≠ gb356 := Kd.own_blk (Kd.R_ne HO350.out BK356.out (by decide)); have hn357_1 : ad351.block ≠ gb356 := Kd.own_blk (Kd.R_ne HO350.out BK356.out (by decide)); have hn357_2 : ad351.block ≠ gb356 := Kd.own_blk (Kd.R_ne HO350.out BK356.out (by decide)); replace hx357_0 := (cell_far (p := ⟨gb356, 0, none⟩) (by first | (rw [add_block]; exact hn357_0) | (show (Addr.add _ _).block ≠ _; rw [add_block]; exact hn357_0) | exact hn357_0) (.int .i64 t352)).trans hx357_0; replace hx357_0 := (cell_far (p := ⟨gb356, 1, none⟩) (by first | (rw [add_block]; exact hn357_1) | (show (Addr.add _ _).block ≠ _; rw [add_block]; exact hn357_1) | exact hn357_1) (.string t353)).trans hx357_0; replace hx357_0 := (cell_far (p := ⟨gb356, 2, none⟩) (by first | (rw [add_block]; exact hn357_2) | (show (Addr.add _ _).block ≠ _; rw [add_block]; exact hn357_2) | exact hn357_2) (.string t354)).trans hx357_0; clear hn357_0; clear hn357_1; clear hn357_2; replace p357 := eq_true p357; replace q357 := eq_true q357) | ((with_reducible refine gate_callee (f := 15) rfl ?_); refine goesL_ (some 37) rfl rfl Tryd.func15 (by kernel_rfl) rfl #[.string (((rdOf ByteArray.empty y348 (ji4)) ++ (⟨#[32]⟩ : ByteArray)) ++ a1)] rfl (by (try simp only [List.map_toArray, List.map_cons, List.map_nil]); first | done | (simp only [hji4]; rfl) | rfl | (simp only [List.length_drop, List.length_take]; rfl)) ?_; (with_reducible refine (cubbyref21_Parse.calls k (((rdOf ByteArray.empty y348 (ji4)) ++ (⟨#[32]⟩ : ByteArray)) ++ a1) t358 t359 t360 t361 _ A10.out).mono ?_); rintro e w23 ⟨rfl, hb⟩; refine ⟨_, rfl, ?_⟩; replace HO350 := Aside0.mk (Kd.R_below (by (with_reducible repeat (first | apply Kd.R_alloc | apply Kd.R_drewN | apply Kd.R_drew)); exact (Kd.R_mono (Kd.R_far (p := ⟨gb356, 2, none⟩) (Kd.R_far (p := ⟨gb356, 1, none⟩) (Kd.R_far (p := ⟨gb356, 0, none⟩) (Kd.R_types HO350.out BK356.out (by decide)) (fun _ hk => hk.2) (.int .i64 t352)) (fun _ hk => hk.2) (.string t353)) (fun _ hk => hk.2) (.string t354)) (fun _ h_ => h_.1))) hb); replace BK356 := Aside0.mk (blk_below (g := gb356) (o := .cells #[.int .i64 t352, .string t353, .string t354] 40 (0, 0)) (by (with_reducible repeat (first | refine blk_drewN ?_ _ | refine blk_drew ?_ | refine blk_alloc ?_ _)); refine blk_put (cs := #[.int .i64 t352, .string t353, .string (⟨#[]⟩ : ByteArray)]) ?_ 2 _ rfl; (with_reducible repeat (first | refine blk_drewN ?_ _ | refine blk_drew ?_ | refine blk_alloc ?_ _)); refine blk_put (cs := #[.int .i64 t352, .string (⟨#[]⟩ : ByteArray), .string (⟨#[]⟩ : ByteArray)]) ?_ 1 _ rfl; (with_reducible repeat (first | refine blk_drewN ?_ _ | refine blk_drew ?_ | refine blk_alloc ?_ _)); refine blk_put (cs := #[.int .i64 0, .string (⟨#[]⟩ : ByteArray), .string (⟨#[]⟩ : ByteArray)]) ?_ 0 _ rfl; (with_reducible repeat (first | refine blk_drewN ?_ _ | refine blk_drew ?_ | refine blk_alloc ?_ _)); exact BK356.out) hb); replace HB := qH hb) | ((with_reducible refine gate_dst (N := 9) rfl ?_); refine box_event (by rfl) (N := 9) (by rfl) (cs := #[.int .i64 0, .string (⟨#[]⟩ : ByteArray), .string (⟨#[]⟩ : ByteArray)]) (t := 43) ?hr ?_; (case hr => first | (go_simp; done) | (go_simp; rfl)); intro gb362 hg w24 hbox hb; replace HO350 := Aside0.mk (Kd.R_below (qR HO350.out) hb); have BK362 := Aside0.mk (hbox); have GW362 := qG hg; have GE362 := GW362; replace HB := qH hb; have NB356_362 := Aside0.mk ((by rw [hg]; exact Nat.ne_of_lt (blk_lt (g := gb356) (o := .cells #[.int .i64 t352, .string t353, .string t354] 40 (0, 0)) (qK BK356.out)) : gb356 ≠ gb362)); have NB362_356 := Aside0.mk ((by rw [hg]; exact Nat.ne_of_gt (blk_lt (g := gb356) (o := .cells #[.int .i64 t352, .string t353, .string t354] 40 (0, 0)) (qK BK356.out)) : gb362 ≠ gb356)); replace BK356 := qW BK356 hb; clear hb hbox hg; have hnb25 := NB362_356.out; have hnc25 := NB356_362.out; have z26_0 := bk3 BK362.out) | (go_at_call 16; (with_reducible refine (cubbyref07_Name.calls k a1 t363 _ A12.out).mono ?_); (try clear A12); rintro e w' ⟨rfl, ⟨nd, rfl⟩⟩; have z27_0 := bk3 BK356.out))
           go_ret
           exact ⟨by first | rfl | (rw [show ∀ l_ : List UInt8, (l_ == []) = l_.isEmpty from fun l_ => by cases l_ <;> rfl]; rfl) | (simp [errW_none, errW_some] <;> rfl) | (simp only [← hji4]; first | rfl | (simp [errW_none, errW_some] <;> rfl)) | (simp [*, errW_none, errW_some] <;> rfl), qB⟩
          ·rw [if_neg c16] at H
           obtain ⟨c16b0, c16b1⟩ := qn c16
           exact absurd ((Option.some.inj H).trans HRt.out) (by decide)
         ·rw [if_neg c15] at H
          obtain ⟨c15b0, c15b1⟩ := qn c15
          exact absurd ((Option.some.inj H).trans HRt.out) (by decide)
        ·rw [if_neg c14] at H
         obtain ⟨c14b0, c14b1⟩ := qn c14
         have hv_ : t363 = false := by cases t363 <;> simp [c14b0] at c13b0 ⊢
         obtain rfl := Option.some.inj H
         go_enter Tryd.func6, Tryd.ntmps6
         go_wp2_with (first | ((with_reducible refine gate_dst (N := 14) rfl ?_); refine Kd.R_lit Kd.string _ 9 (by rfl) (N := 14) (by rfl) (xs := ([(⟨#[98, 117, 105, 108, 100]⟩ : ByteArray), (⟨#[102, 101, 116, 99, 104]⟩ : ByteArray), (⟨#[100, 114, 111, 112]⟩ : ByteArray), (⟨#[112, 105, 110]⟩ : ByteArray), (⟨#[117, 110, 112, 105, 110]⟩ : ByteArray)] : List ByteArray)) (inner := [.string (⟨#[98, 117, 105, 108, 100]⟩ : ByteArray), .string (⟨#[102, 101, 116, 99, 104]⟩ : ByteArray), .string (⟨#[100, 114, 111, 112]⟩ : ByteArray), .string (⟨#[112, 105, 110]⟩ : ByteArray), .string (⟨#[117, 110, 112, 105, 110]⟩ : ByteArray)]) (ok := fun _ => True) (okp := fun _ => True) ?hr ?hp (fun _ hk => hk) trivial (Below.refl _ _) (Nat.le_refl _) (by simp) ?_; (case hr => first | (go_simp; done) | (go_simp; rfl)); (case hp => exact (Reps.one (show Kd.M Kd.string _ _ _ (⟨#[98, 117, 105, 108, 100]⟩ : ByteArray) [.string (⟨#[98, 117, 105, 108, 100]⟩ : ByteArray)] from rfl) (Reps.one (show Kd.M Kd.string _ _ _ (⟨#[102, 101, 116, 99, 104]⟩ : ByteArray) [.string (⟨#[102, 101, 116, 99, 104]⟩ : ByteArray)] from rfl) (Reps.one (show Kd.M Kd.string _ _ _ (⟨#[100, 114, 111, 112]⟩ : ByteArray) [.string (⟨#[100, 114, 111, 112]⟩ : ByteArray)] from rfl) (Reps.one (show Kd.M Kd.string _ _ _ (⟨#[112, 105, 110]⟩ : ByteArray) [.string (⟨#[112, 105, 110]⟩ : ByteArray)] from rfl) (Reps.one (show Kd.M Kd.string _ _ _ (⟨#[117, 110, 112, 105, 110]⟩ : ByteArray) [.string (⟨#[117, 110, 112, 105, 110]⟩ : ByteArray)] from rfl) (Reps.none _ _))))))); intro v349 w28 ho29 hb hg_ hnew_; clear hg_ hnew_; (first | rw [← Ny348.out] at ho29 | (simp only [Int.reduceToNat] at ho29; rw [← Ny348.out] at ho29)); have HO350 := Aside0.mk (Kd.R_lower ho29 (below_size qB)); replace HB := qH hb; clear hb ho29; obtain ⟨Ao30, co30, eo30⟩ := Kd.R_slice HO350.out; subst eo30; have p351 : 0 ≤ ((ji4) : Int) := of_decide_eq_true qA; have q351 : (ji4) < (y348.length : Int) := of_decide_eq_true qA; obtain ⟨ad351, e351, hx351_0⟩ := Kd.at_string (Kd.R_reads' HO350.out).2.2 (ji4) p351 q351; cases e351; replace p351 := eq_true p351; replace q351 := eq_true q351) | ((with_reducible refine gate_callee (f := 14) rfl ?_); refine goesL_ (some 26) rfl rfl Tryd.func14 (by kernel_rfl) rfl #[.string (((rdOf ByteArray.empty y348 (ji4)) ++ (⟨#[32]⟩ : ByteArray)) ++ a1)] rfl (by (try simp only [List.map_toArray, List.map_cons, List.map_nil]); first | done | (simp only [hji4]; rfl) | rfl | (simp only [List.length_drop, List.length_take]; rfl)) ?_; (with_reducible refine (ask_Parse.calls k (((rdOf ByteArray.empty y348 (ji4)) ++ (⟨#[32]⟩ : ByteArray)) ++ a1) t352 t353 t354 t355 _ A9.out).mono ?_); rintro e w31 ⟨rfl, hb⟩; refine ⟨_, rfl, ?_⟩; replace HO350 := Aside0.mk (Kd.R_below (qR HO350.out) hb); replace HB := qH hb; (try clear hb)) | ((with_reducible refine gate_dst (N := 7) rfl ?_); refine box_event (by rfl) (N := 7) (by rfl) (cs := #[.int .i64 0, .string (⟨#[]⟩ : ByteArray), .string (⟨#[]⟩ : ByteArray)]) (t := 40) ?hr ?_; (case hr => first | (go_simp; done) | (go_simp; rfl)); intro gb356 hg w32 hbox hb; replace HO350 := Aside0.mk (Kd.R_below (qR HO350.out) hb); have BK356 := Aside0.mk (hbox); have GW356 := qG hg; have GE356 := GW356; replace HB := qH hb; clear hb hbox hg; have z33_0 := bk3 BK356.out; have p357 : 0 ≤ ((ji4) : Int) := of_decide_eq_true qA; have q357 : (ji4) < (y348.length : Int) := of_decide_eq_true qA; obtain ⟨ad357, e357, hx357_0⟩ := Kd.at_string (Kd.R_reads' HO350.out).2.2 (ji4) p357 q357; obtain rfl : ad351 = ad357 := (by injection e357); have hn357_0 : ad351.block ≠ gb356 := Kd.own_blk (Kd.R_ne HO350.out BK356.out (by decide)); have hn357_1 : ad351.block ≠ gb356 := Kd.own_blk (Kd.R_ne HO350.out BK356.out (by decide)); have hn357_2 : ad351.block ≠ gb356 := Kd.own_blk (Kd.R_ne HO350.out BK356.out (by decide)); replace hx357_0 := (cell_far (p := ⟨gb356, 0, none⟩) (by first | (rw [add_block]; exact hn357_0) | (show (Addr.add _ _).block ≠ _; rw [add_block]; exact hn357_0) | exact hn357_0) (.int .i64 t352)).trans hx357_0; replace hx357_0 := (cell_far (p := ⟨gb356, 1, none⟩) (by first | (rw [add_block]; exact hn357_1) | (show (Addr.add _ _).block ≠ _; rw [add_block]; exact hn357_1) | exact hn357_1) (.string t353)).trans hx357_0; replace hx357_0 := (cell_far (p := ⟨gb356, 2, none⟩) (by first | (rw [add_block]; exact hn357_2) | (show (Addr.add _ _).block ≠ _; rw [add_block]; exact hn357_2) | exact hn357_2) (.string t354)).trans hx357_0; clear hn357_0; clear hn357_1; clear hn357_2; replace p357 := eq_true p357; replace q357 := eq_true q357) | ((with_reducible refine gate_callee (f := 15) rfl ?_); refine goesL_ (some 37) rfl rfl Tryd.func15 (by kernel_rfl) rfl #[.string (((rdOf ByteArray.empty y348 (ji4)) ++ (⟨#[32]⟩ : ByteArray)) ++ a1)] rfl (by (try simp only [List.map_toArray, List.map_cons, List.map_nil]); first | done | (simp only [hji4]; rfl) | rfl | (simp only [List.length_drop, List.length_take]; rfl)) ?_; (with_reducible refine (cubbyref21_Parse.calls k (((rdOf ByteArray.empty y348 (ji4)) ++ (⟨#[32]⟩ : ByteArray)) ++ a1) t358 t359 t360 t361 _ A10.out).mono ?_); rintro e w34 ⟨rfl, hb⟩; refine ⟨_, rfl, ?_⟩; replace HO350 := Aside0.mk (Kd.R_below (by (with_reducible repeat (first | apply Kd.R_alloc | apply Kd.R_drewN | apply Kd.R_drew)); exact (Kd.R_mono (Kd.R_far (p := ⟨gb356, 2, none⟩) (Kd.R_far (p := ⟨gb356, 1, none⟩) (Kd.R_far (p := ⟨gb356, 0, none⟩) (Kd.R_types HO350.out BK356.out (by decide)) (fun _ hk => hk.2) (.int .i64 t352)) (fun _ hk => hk.2) (.string t353)) (fun _ hk => hk.2) (.string t354)) (fun _ h_ => h_.1))) hb); replace BK356 := Aside0.mk (blk_below (g := gb356) (o := .cells #[.int .i64 t352, .string t353, .string t354] 40 (0, 0)) (by (with_reducible repeat (first | refine blk_drewN ?_ _ | refine blk_drew ?_ | refine blk_alloc ?_ _)); refine blk_put (cs := #[.int .i64 t352, .string t353, .string (⟨#[]⟩ : ByteArray)]) ?_ 2 _ rfl; (with_reducible repeat (first | refine blk_drewN ?_ _ | refine blk_drew ?_ | refine blk_alloc ?_ _)); refine blk_put (cs := #[.int .i64 t352, .string (⟨#[]⟩ : ByteArray), .string (⟨#[]⟩ : ByteArray)]) ?_ 1 _ rfl; (with_reducible repeat (first | refine blk_drewN ?_ _ | refine blk_drew ?_ | refine blk_alloc ?_ _)); refine blk_put (cs := #[.int .i64 0, .string (⟨#[]⟩ : ByteArray), .string (⟨#[]⟩ : ByteArray)]) ?_ 0 _ rfl; (with_reducible repeat (first | refine blk_drewN ?_ _ | refine blk_drew ?_ | refine blk_alloc ?_ _)); exact BK356.out) hb); replace HB := qH hb) | ((with_reducible refine gate_dst (N := 9) rfl ?_); refine box_event (by rfl) (N := 9) (by rfl) (cs := #[.int .i64 0, .string (⟨#[]⟩ : ByteArray), .string (⟨#[]⟩ : ByteArray)]) (t := 43) ?hr ?_; (case hr => first | (go_simp; done) | (go_simp; rfl)); intro gb362 hg w35 hbox hb; replace HO350 := Aside0.mk (Kd.R_below (qR HO350.out) hb); have BK362 := Aside0.mk (hbox); have GW362 := qG hg; have GE362 := GW362; replace HB := qH hb; have NB356_362 := Aside0.mk ((by rw [hg]; exact Nat.ne_of_lt (blk_lt (g := gb356) (o := .cells #[.int .i64 t352, .string t353, .string t354] 40 (0, 0)) (qK BK356.out)) : gb356 ≠ gb362)); have NB362_356 := Aside0.mk ((by rw [hg]; exact Nat.ne_of_gt (blk_lt (g := gb356) (o := .cells #[.int .i64 t352, .string t353, .string t354] 40 (0, 0)) (qK BK356.out)) : gb362 ≠ gb356)); replace BK356 := qW BK356 hb; clear hb hbox hg; have hnb36 := NB362_356.out; have hnc36 := NB356_362.out; have z37_0 := bk3 BK362.out) | (go_at_call 16; (with_reducible refine (cubbyref07_Name.calls k a1 t363 _ A12.out).mono ?_); (try clear A12); rintro e w' ⟨rfl, ⟨nd, rfl⟩⟩))
         go_ret
         exact ⟨by first | rfl | (rw [show ∀ l_ : List UInt8, (l_ == []) = l_.isEmpty from fun l_ => by cases l_ <;> rfl]; rfl) | (simp [errW_none, errW_some] <;> rfl) | (simp only [← hji4]; first | rfl | (simp [errW_none, errW_some] <;> rfl)) | (simp [*, errW_none, errW_some] <;> rfl), qB⟩
      ·rw [if_neg c11] at H
       obtain ⟨c11b0, c11b1⟩ := qn c11
       exact absurd ((Option.some.inj H).trans HRt.out) (by decide)
     ·rw [if_neg c8] at H
      exact absurd H (by simp)
    ·rw [if_neg c7] at H
     exact absurd H (by simp)
   ·rw [if_neg c6] at H
    exact absurd H (by simp)
  ·rw [if_neg c5] at H
   exact absurd H (by simp)

end Go.Proofs.YtbipipbfiekbgaaDoor.Q
