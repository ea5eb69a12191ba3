/- SpanSpans: parts of the proofs, put together. -/
import Derived.Test.YtpkimbkjjmbmcaaDoorMSpanSpans1
import Derived.Test.YtpkimbkjjmbmcaaDoorMSpanSpans2
import Derived.Test.YtpkimbkjjmbmcaaDoorMSpanSpans3
namespace Go.Proofs.YtpkimbkjjmbmcaaDoor.Q
open Go.RowKit Go.Proofs.YtpkimbkjjmbmcaaDoorW.PrintWords Go.Proofs.YtpkimbkjjmbmcaaDoorW.PrintLast Go.Proofs.YtpkimbkjjmbmcaaDoorW.PrintMore
attribute [local go_sem] max2_int min2_int max_two min_two max_three min_three max_four min_four
set_option linter.unusedVariables false
set_option linter.unusedSimpArgs false

mutual
def cubbyref12_Spans.l0 : Nat → List (SSpan) → List (List Int) → Int → ByteArray → Int → Int → List (List (SIns)) → Option ((List (SSpan)))
 | 0, _, _, _, _, _, _, _ => none
 | k + 1, x3, x4, x5, x558000, x558001, x558002, x558003 => if x5 < x558002 then (if x5 < x558001 then ((cubbyref12_take.f (-1) (-1) 1).bind fun bt566 => (if x3.length < 8796093022208 then (cubbyref12_Spans.l0 k (x3 ++ [(⟨bt566.1, bt566.2⟩ : SSpan)]) x4 (wrap64 (x5 + 1)) x558000 x558001 x558002 x558003) else (none))) else (if x3.length < 8796093022208 then (cubbyref12_Spans.l0 k (x3 ++ [(⟨(-1), (-1)⟩ : SSpan)]) x4 (wrap64 (x5 + 1)) x558000 x558001 x558002 x558003) else (none))) else (cubbyref12_Spans.l1 k x3 x4 0 x558000 x558001 x558002 x558003)
def cubbyref12_Spans.l1 : Nat → List (SSpan) → List (List Int) → Int → ByteArray → Int → Int → List (List (SIns)) → Option ((List (SSpan)))
 | 0, _, _, _, _, _, _, _ => none
 | k + 1, x3, x4, x7, x558000, x558001, x558002, x558003 => if x7 < (x4.length : Int) then (cubbyref12_Spans.l2 k x3 x4 x7 0 x558000 x558001 x558002 x558003) else (some x3)
def cubbyref12_Spans.l2 : Nat → List (SSpan) → List (List Int) → Int → Int → ByteArray → Int → Int → List (List (SIns)) → Option ((List (SSpan)))
 | 0, _, _, _, _, _, _, _, _ => none
 | k + 1, x3, x4, x7, x8, x558000, x558001, x558002, x558003 => if 0 ≤ x7 then (if x7 < (x4.length : Int) then (if x8 < ((rd_LInt x4 x7).length : Int) then (if 0 ≤ x8 then ((cubbyref11_Ahead.f k x558000 x558001 x558002 x558003 x7 x8).bind fun t577 => ((cubbyref11_Ahead.f k x558000 x558001 x558002 x558003 x7 (wrap64 (x8 + 1))).bind fun t580 => (cubbyref12_Spans.l3 k x3 x4 x7 x8 (rd (rd_LInt x4 x7) x8) t577 t580 0 x558000 x558001 x558002 x558003))) else (none)) else (cubbyref12_Spans.l1 k x3 x4 (wrap64 (x7 + 1)) x558000 x558001 x558002 x558003)) else (none)) else (none)
def cubbyref12_Spans.l3 : Nat → List (SSpan) → List (List Int) → Int → Int → Int → List Int → List Int → Int → ByteArray → Int → Int → List (List (SIns)) → Option ((List (SSpan)))
 | 0, _, _, _, _, _, _, _, _, _, _, _, _ => none
 | k + 1, x3, x4, x7, x8, x9, x10, x11, x12, x558000, x558001, x558002, x558003 => if x12 < x558002 then ((cubbyref12_has.f k x10 x12).bind fun t583 => (if t583 = true then (if 0 ≤ x12 then (if x12 < (x3.length : Int) then ((cubbyref12_take.f ((rd_TSpan x3 x12).f0) ((rd_TSpan x3 x12).f1) (wrap64 (2 * x9))).bind fun bt585 => (cubbyref12_Spans.j4 k (x3.set (x12 : Int).toNat (⟨bt585.1, bt585.2⟩ : SSpan)) x4 x7 x8 x9 x10 x11 x12 x558000 x558001 x558002 x558003)) else (none)) else (none)) else (cubbyref12_Spans.j4 k x3 x4 x7 x8 x9 x10 x11 x12 x558000 x558001 x558002 x558003))) else (cubbyref12_Spans.l2 k x3 x4 x7 (wrap64 (x8 + 1)) x558000 x558001 x558002 x558003)
def cubbyref12_Spans.j4 : Nat → List (SSpan) → List (List Int) → Int → Int → Int → List Int → List Int → Int → ByteArray → Int → Int → List (List (SIns)) → Option ((List (SSpan)))
 | 0, _, _, _, _, _, _, _, _, _, _, _, _ => none
 | k + 1, x3, x4, x7, x8, x9, x10, x11, x12, x558000, x558001, x558002, x558003 => (cubbyref12_has.f k x11 x12).bind fun t588 => (if t588 = true then (if 0 ≤ x12 then (if x12 < (x3.length : Int) then ((cubbyref12_take.f ((rd_TSpan x3 x12).f0) ((rd_TSpan x3 x12).f1) (wrap64 ((wrap64 (2 * x9)) + 1))).bind fun bt590 => (cubbyref12_Spans.l3 k (x3.set (x12 : Int).toNat (⟨bt590.1, bt590.2⟩ : SSpan)) x4 x7 x8 x9 x10 x11 (wrap64 (x12 + 1)) x558000 x558001 x558002 x558003)) else (none)) else (none)) else (if 0 ≤ x7 then (if x7 < (x558003.length : Int) then (if 0 ≤ x8 then (if x8 < ((rd_LIns x558003 x7).length : Int) then ((cubbyref07_Def.f ((rd_TIns (rd_LIns x558003 x7) x8).f0) ((rd_TIns (rd_LIns x558003 x7) x8).f1) ((rd_TIns (rd_LIns x558003 x7) x8).f2) ((rd_TIns (rd_LIns x558003 x7) x8).f3) ((rd_TIns (rd_LIns x558003 x7) x8).f4) ((rd_TIns (rd_LIns x558003 x7) x8).f5)).bind fun t595 => (if t595 = x12 then (if 0 ≤ x12 then (if x12 < (x3.length : Int) then ((cubbyref12_take.f ((rd_TSpan x3 x12).f0) ((rd_TSpan x3 x12).f1) (wrap64 ((wrap64 (2 * x9)) + 1))).bind fun bt597 => (cubbyref12_Spans.l3 k (x3.set (x12 : Int).toNat (⟨bt597.1, bt597.2⟩ : SSpan)) x4 x7 x8 x9 x10 x11 (wrap64 (x12 + 1)) x558000 x558001 x558002 x558003)) else (none)) else (none)) else (cubbyref12_Spans.l3 k x3 x4 x7 x8 x9 x10 x11 (wrap64 (x12 + 1)) x558000 x558001 x558002 x558003))) else (none)) else (none)) else (none)) else (none)))
end
def cubbyref12_Spans.f (k : Nat) (a0_0 : ByteArray) (a0_1 : Int) (a0_2 : Int) (l0_3 : List (List (SIns))) : Option ((List (SSpan))) := (cubbyref11_Check.f k a0_0 a0_1 a0_2 l0_3).bind fun t558 => (if t558 = 0 then ((cubbyref12_Places.f k a0_0 a0_1 a0_2 l0_3).bind fun t562 => (cubbyref12_Spans.l0 k (([] : List (SSpan))) t562 0 a0_0 a0_1 a0_2 l0_3)) else (some ([] : List (SSpan))))
set_option maxHeartbeats 8000000 in
set_option maxRecDepth 100000 in
theorem cubbyref12_Spans.calls (k : Nat) (a0_0 : ByteArray) (a0_1 : Int) (a0_2 : Int) (A0_3 : Option Addr) (c0_3 : Nat) (l0_3 : List (List (SIns))) (r : List (SSpan)) (w : World) (hr0_3 : Kd.C (Kd.slice 38 kIns) w A0_3 l0_3.length l0_3) (hc0_3 : l0_3.length ≤ c0_3) (h : cubbyref12_Spans.f k a0_0 a0_1 a0_2 l0_3 = some r) :
 Calls Tryd.prog 21 #[.agg #[.string a0_0, .int .i64 a0_1, .int .i64 a0_2, .slice A0_3 l0_3.length c0_3]] w fun e w' => ∃ v0_ : Value, e = .returned (v0_) ∧ Kd.R kSpan 28 w' w.heap.size (fun _ => True) v0_ r ∧ Below w.heap.size w w' := by
 have hu24 := Tryd.underlying24
 have hu28 := Tryd.underlying28
 have hu38 := Tryd.underlying38
 have HR0_3 := zA hr0_3
 have HC0_3 := zA hc0_3
 clear hr0_3 hc0_3
 have HB := zA (Below.refl w.heap.size w)
 have H := h; clear h; unfold cubbyref12_Spans.f at H
 replace H := qb H; obtain ⟨t558, A2, H⟩ := H
 by_cases c3 : t558 = 0
 ·rw [zC c3] at H
  obtain ⟨c3b0, c3b1⟩ := qe c3; clear c3
  obtain ⟨y559, hy559⟩ : ∃ y_ : List (SSpan), y_ = (([] : List (SSpan))) := ⟨_, rfl⟩
  replace H : ((cubbyref12_Places.f k a0_0 a0_1 a0_2 l0_3).bind fun t562 => (cubbyref12_Spans.l0 k y559 t562 0 a0_0 a0_1 a0_2 l0_3)) = some r := by (try rw [hy559]); first | with_reducible exact H | exact (zJ _ _).symm.trans H | exact H
  have Ny559 := zA hy559
  clear hy559
  replace H := qb H; obtain ⟨t562, A4, H⟩ := H
  have H' := zA H
  clear H
  go_enter Tryd.func21, Tryd.ntmps21
  go_wp2_with (first | ((with_reducible refine gate_dst (N := 1) rfl ?_); refine box_event (by rfl) (N := 1) (by rfl) (cs := #[.string a0_0, .int .i64 a0_1, .int .i64 a0_2, .slice A0_3 l0_3.length c0_3]) (t := 24) ?hr ?_; (case hr => go_simp <;> rfl); intro gb557 hg w5 hbox hb; have BK557 := zA (hbox); have GW557 := qG hg; have GE557 := GW557; replace HB := qH hb; clear hb hbox hg; have z6_0 := bk4 BK557.out) | ((with_reducible refine gate_callee (f := 38) rfl ?_); refine goesL_ (some 14) rfl rfl Tryd.func38 (by kernel_rfl) rfl #[.agg #[.string a0_0, .int .i64 a0_1, .int .i64 a0_2, .slice A0_3 l0_3.length c0_3]] rfl qL ?_; (with_reducible refine (cubbyref11_Check.calls k a0_0 a0_1 a0_2 _ _ l0_3 t558 _ ?side1 ?side2 A2.out).mono ?_); (case side1 => exact qCB HR0_3.out); (case side2 => exact HC0_3.out); rintro e w7 ⟨rfl, hb⟩; refine ⟨_, rfl, ?_⟩; replace BK557 := qW BK557 hb; replace HB := qH hb; (try clear hb)) | ((with_reducible refine gate_dst (N := 16) rfl ?_); refine Kd.R_lit kSpan _ 28 (by rfl) (N := 16) (by rfl) (xs := ([] : List (SSpan))) (inner := []) (ok := fun _ => True) (okp := fun _ => True) ?hr ?hp (fun _ hk => hk) trivial (Below.refl _ _) (Nat.le_refl _) (by simp) ?_; (case hr => go_simp <;> rfl); (case hp => exact (Reps.none _ _)); intro v560 w8 ho9 hb hg_ hnew_; clear hg_ hnew_; (first | rw [← Ny559.out] at ho9 | (simp only [Int.reduceToNat] at ho9; rw [← Ny559.out] at ho9)); have HO561 := zA (Kd.R_lower ho9 (below_size qB)); replace BK557 := qW BK557 hb; replace HB := qH hb; clear hb ho9; have z10_0 := bk4 BK557.out) | ((with_reducible refine gate_callee (f := 15) rfl ?_); refine goesL_ (some 18) rfl rfl Tryd.func15 (by kernel_rfl) rfl #[.agg #[.string a0_0, .int .i64 a0_1, .int .i64 a0_2, .slice A0_3 l0_3.length c0_3]] rfl qL ?_; (with_reducible refine (cubbyref12_Places.calls k a0_0 a0_1 a0_2 _ _ l0_3 t562 _ ?side1 ?side2 A4.out).mono ?_); (case side1 => exact qCB HR0_3.out); (case side2 => exact HC0_3.out); rintro e w11 ⟨v563, rfl, ho0, hb⟩; refine ⟨_, rfl, ?_⟩; replace HO561 := zA (Kd.R_below (qR HO561.out) hb); have HO564 := zA (Kd.S_lower ho0 (below_size qB)); replace BK557 := qW BK557 hb; replace HB := qH hb; (try clear hb); (try clear ho0)))
  go_loopg [3, 5] k (fun kq v3 v5 w' => ∃ (x3_1 : List (SSpan)) (x5_1 : Int), v5 = .int .i64 x5_1 ∧ Aside0 (cubbyref12_Spans.l0 kq x3_1 t562 x5_1 a0_0 a0_1 a0_2 l0_3 = some r) ∧ Aside0 (kq ≤ k) ∧ Aside0 (Kd.R kSpan 28 w' w.heap.size (fun _ => True) v3 x3_1) ∧ Aside0 (Kd.S (Kd.slice 3 (Kd.int .i64)) 35 w' w.heap.size (fun _ => True) v563 t562) ∧ Aside0 (w'.heap[gb557]? = some (.cells #[.string a0_0, .int .i64 a0_1, .int .i64 a0_2, (.slice A0_3 l0_3.length c0_3)] 24 (0, 0))) ∧ Aside0 (Below w.heap.size w w'))
  case atStart => exact ⟨(y559), (0), qT, H', ⟨Nat.le_refl _⟩, ⟨qR HO561.out⟩, ⟨qS HO564.out⟩, ⟨qK BK557.out⟩, ⟨qB⟩⟩
  case round =>
   clear H'
   obtain ⟨x3_1, x5_1, rfl, HA, HK1, HO_3, HO_4, BK557, HB⟩ := hrel
   cases gk with
   | zero => exact absurd HA.out (by simp [cubbyref12_Spans.l0])
   | succ k1 =>
    have H := HA.out
    clear HA
    simp only [cubbyref12_Spans.l0] at H
    by_cases c12 : x5_1 < a0_2
    ·rw [zC c12] at H
     have c12b0 := zF c12
     clear c12
     by_cases c13 : x5_1 < a0_1
     ·rw [zC c13] at H
      have c13b0 := zF c13
      clear c13
      replace H := Option.bind_eq_some_iff.mp H
      obtain ⟨⟨t566, t567⟩, A140, H⟩ := H
      replace H : (if x3_1.length < 8796093022208 then (cubbyref12_Spans.l0 k1 (x3_1 ++ [(⟨t566, t567⟩ : SSpan)]) t562 (wrap64 (x5_1 + 1)) a0_0 a0_1 a0_2 l0_3) else (none)) = some r := H
      have A14 := zA A140
      clear A140
      by_cases c15 : x3_1.length < 8796093022208
      ·rw [zC c15] at H
       have LMc15 := zA c15
       clear c15
       obtain ⟨y568, hy568⟩ : ∃ y_ : List (SSpan), y_ = (x3_1 ++ [(⟨t566, t567⟩ : SSpan)]) := ⟨_, rfl⟩
       replace H : (cubbyref12_Spans.l0 k1 y568 t562 (wrap64 (x5_1 + 1)) a0_0 a0_1 a0_2 l0_3) = some r := by (try rw [hy568]); first | with_reducible exact H | exact (zJ _ _).symm.trans H | exact H
       have Ny568 := zA hy568
       clear hy568
       have H' := zA H
       clear H
       have z16_0 := bk4 BK557.out
       go_wp2_with (first | ((with_reducible refine gate_dst (N := 6) rfl ?_); refine box_event (by rfl) (N := 6) (by rfl) (cs := #[.int .i64 0, .int .i64 0]) (t := 28) ?hr ?_; (case hr => go_simp <;> rfl); intro gb565 hg w17 hbox hb; replace HO_3 := zA (Kd.R_below (Kd.R_elderB (qR HO_3.out) gb565 (Nat.le_of_eq hg.symm)) hb); replace HO_4 := zA (Kd.S_below (qS HO_4.out) hb); have BK565 := zA (hbox); have GW565 := qG hg; have GE565 := GW565; replace HB := qH hb; have NB557_565 := zA ((by rw [hg]; exact Nat.ne_of_lt (blk_lt (g := gb557) (o := .cells #[.string a0_0, .int .i64 a0_1, .int .i64 a0_2, .slice A0_3 l0_3.length c0_3] 24 (0, 0)) (qK BK557.out)) : gb557 ≠ gb565)); have NB565_557 := zA ((by rw [hg]; exact Nat.ne_of_gt (blk_lt (g := gb557) (o := .cells #[.string a0_0, .int .i64 a0_1, .int .i64 a0_2, .slice A0_3 l0_3.length c0_3] 24 (0, 0)) (qK BK557.out)) : gb565 ≠ gb557)); replace BK557 := qW BK557 hb; clear hb hbox hg; have hnb18 := NB565_557.out; have hnc18 := NB557_565.out; have z19_0 := bk2 BK565.out; have z20_0 := bk4 BK557.out) | ((with_reducible refine gate_callee (f := 51) rfl ?_); refine goesL_ (some 31) rfl rfl Tryd.func51 (by kernel_rfl) rfl #[.agg #[.int .i64 (-1), .int .i64 (-1)], .int .i64 1] rfl qL ?_; (with_reducible refine (cubbyref12_take.calls (-1) (-1) 1 t566 t567 _ A14.out).mono ?_); rintro e w21 ⟨rfl, hb⟩; refine ⟨_, rfl, ?_⟩; replace HO_3 := zA (Kd.R_below (by (with_reducible repeat (first | apply Kd.R_alloc | apply Kd.R_drewN | apply Kd.R_drew)); exact (Kd.R_mono (Kd.R_far (p := ⟨gb565, 1, none⟩) (Kd.R_far (p := ⟨gb565, 0, none⟩) (Kd.R_mono HO_3.out (fun k_ hk => (⟨hk, hk.2⟩ : _ ∧ k_ ≠ gb565))) (fun _ hk => hk.2) (.int .i64 (-1))) (fun _ hk => hk.2) (.int .i64 (-1))) (fun _ h_ => h_.1))) hb); replace HO_4 := zA (Kd.S_below (by (with_reducible repeat (first | apply Kd.S_alloc | apply Kd.S_drewN | apply Kd.S_drew)); exact (Kd.S_mono (Kd.S_far (p := ⟨gb565, 1, none⟩) (Kd.S_far (p := ⟨gb565, 0, none⟩) (Kd.S_types HO_4.out BK565.out (by decide)) (fun _ hk => hk.2) (.int .i64 (-1))) (fun _ hk => hk.2) (.int .i64 (-1))) (fun _ h_ => h_.1))) hb); replace BK557 := zA (blk_below (g := gb557) (o := .cells #[.string a0_0, .int .i64 a0_1, .int .i64 a0_2, .slice A0_3 l0_3.length c0_3] 24 (0, 0)) (by (with_reducible repeat (first | refine blk_drewN ?_ _ | refine blk_drew ?_ | refine blk_alloc ?_ _)); refine blk_far ?_ NB557_565.out _; (with_reducible repeat (first | refine blk_drewN ?_ _ | refine blk_drew ?_ | refine blk_alloc ?_ _)); refine blk_far ?_ NB557_565.out _; (with_reducible repeat (first | refine blk_drewN ?_ _ | refine blk_drew ?_ | refine blk_alloc ?_ _)); exact BK557.out) hb); replace BK565 := zA (blk_below (g := gb565) (o := .cells #[.int .i64 (-1), .int .i64 (-1)] 28 (0, 0)) (by (with_reducible repeat (first | refine blk_drewN ?_ _ | refine blk_drew ?_ | refine blk_alloc ?_ _)); refine blk_put (cs := #[.int .i64 (-1), .int .i64 0]) ?_ 1 _ rfl; (with_reducible repeat (first | refine blk_drewN ?_ _ | refine blk_drew ?_ | refine blk_alloc ?_ _)); refine blk_put (cs := #[.int .i64 0, .int .i64 0]) ?_ 0 _ rfl; (with_reducible repeat (first | refine blk_drewN ?_ _ | refine blk_drew ?_ | refine blk_alloc ?_ _)); exact BK565.out) hb); replace HB := qH hb; have z22_0 := bk2 BK565.out) | ((with_reducible refine gate_builtin (b := .append) (xs := #[.tmp 32, .tmp 34]) rfl ?_); at_builtin; refine Kd.R_append kSpan (w0 := w) w.heap.size rfl (.tmp 32) (.tmp 34) 32 28 (.agg #[(.int .i64 0), (.int .i64 0)]) 16 rfl Tryd.underlying32 info28 rfl (by decide) (by omega) u3 x3_1 (⟨t566, t567⟩ : SSpan) [.int .i64 t566, .int .i64 t567] (fun k_ => k_ ≠ gb565) (fun _ => False) rfl (by first | (go_simp; done) | (go_simp; rfl)) ?aP (fun _ hk => hk.elim) ?aF ?aO ?aB ?aS ?aL ?_; (case aP => exact kSpan_mkM _ _ _ (⟨t566, t567⟩ : SSpan)); (case aB => exact qB); (case aF => exact (fun k_ hk => Kd.freshB (g := gb565) (o := .cells #[.int .i64 t566, .int .i64 t567] 28 (0, 0)) (by (with_reducible repeat (first | refine blk_drewN ?_ _ | refine blk_drew ?_ | refine blk_alloc ?_ _)); refine blk_put (cs := #[.int .i64 t566, .int .i64 (-1)]) ?_ 1 _ rfl; (with_reducible repeat (first | refine blk_drewN ?_ _ | refine blk_drew ?_ | refine blk_alloc ?_ _)); refine blk_put (cs := #[.int .i64 (-1), .int .i64 (-1)]) ?_ 0 _ rfl; (with_reducible repeat (first | refine blk_drewN ?_ _ | refine blk_drew ?_ | refine blk_alloc ?_ _)); exact BK565.out) k_ hk)); (case aO => exact (by (with_reducible repeat (first | apply Kd.R_alloc | apply Kd.R_drewN | apply Kd.R_drew)); exact Kd.R_mono (Kd.R_far (p := ⟨gb565, 1, none⟩) (Kd.R_far (p := ⟨gb565, 0, none⟩) (Kd.R_mono HO_3.out (fun k_ hk => (⟨hk, hk.2⟩ : _ ∧ k_ ≠ gb565))) (fun _ hk => hk.2) (.int .i64 t566)) (fun _ hk => hk.2) (.int .i64 t567)) (fun _ hk => hk.1.2))); (case aS => exact (below_size qB)); (case aL => have := LMc15.out; omega); intro v569 w23 ho hb hg hat; rw [← Ny568.out] at ho; replace HO_4 := zA (Kd.S_over' (by (with_reducible repeat (first | apply Kd.S_alloc | apply Kd.S_drewN | apply Kd.S_drew)); exact (Kd.S_mono (Kd.S_far (p := ⟨gb565, 1, none⟩) (Kd.S_far (p := ⟨gb565, 0, none⟩) (Kd.S_types HO_4.out BK565.out (by decide)) (fun _ hk => hk.2) (.int .i64 t566)) (fun _ hk => hk.2) (.int .i64 t567)) (fun _ h_ => h_.1))) (Kd.R_typed (by (with_reducible repeat (first | apply Kd.R_alloc | apply Kd.R_drewN | apply Kd.R_drew)); exact (Kd.R_mono (Kd.R_far (p := ⟨gb565, 1, none⟩) (Kd.R_far (p := ⟨gb565, 0, none⟩) (Kd.R_mono HO_3.out (fun k_ hk => (⟨hk, hk.2⟩ : _ ∧ k_ ≠ gb565))) (fun _ hk => hk.2) (.int .i64 t566)) (fun _ hk => hk.2) (.int .i64 t567)) (fun _ h_ => h_.1)))) (by decide) hg); replace BK557 := zA (blk_grown (g := gb557) (o := .cells #[.string a0_0, .int .i64 a0_1, .int .i64 a0_2, .slice A0_3 l0_3.length c0_3] 24 (0, 0)) (by (with_reducible repeat (first | refine blk_drewN ?_ _ | refine blk_drew ?_ | refine blk_alloc ?_ _)); refine blk_far ?_ NB557_565.out _; (with_reducible repeat (first | refine blk_drewN ?_ _ | refine blk_drew ?_ | refine blk_alloc ?_ _)); refine blk_far ?_ NB557_565.out _; (with_reducible repeat (first | refine blk_drewN ?_ _ | refine blk_drew ?_ | refine blk_alloc ?_ _)); exact BK557.out) hg (Kd.R_ne HO_3.out BK557.out (by decide))); replace BK565 := zA (blk_grown (g := gb565) (o := .cells #[.int .i64 t566, .int .i64 t567] 28 (0, 0)) (by (with_reducible repeat (first | refine blk_drewN ?_ _ | refine blk_drew ?_ | refine blk_alloc ?_ _)); refine blk_put (cs := #[.int .i64 t566, .int .i64 (-1)]) ?_ 1 _ rfl; (with_reducible repeat (first | refine blk_drewN ?_ _ | refine blk_drew ?_ | refine blk_alloc ?_ _)); refine blk_put (cs := #[.int .i64 (-1), .int .i64 (-1)]) ?_ 0 _ rfl; (with_reducible repeat (first | refine blk_drewN ?_ _ | refine blk_drew ?_ | refine blk_alloc ?_ _)); exact BK565.out) hg (Kd.R_away HO_3.out (fun _ hk => hk.2))); replace HB := zA (hb); have HO570 := zA (ho); clear HO_3; clear ho hb hg hat))
       go_roundg k1
       case measure => have := HK1.out; omega
       case rel => exact ⟨(y568), (wrap64 (x5_1 + 1)), qT, H', ⟨by have := HK1.out; omega⟩, ⟨by (with_reducible repeat (first | apply Kd.R_alloc | apply Kd.R_drewN | apply Kd.R_drew)); exact Kd.R_mono HO570.out (fun _ hk => trivial)⟩, ⟨qS HO_4.out⟩, ⟨qK BK557.out⟩, ⟨qB⟩⟩
      ·rw [zD c15] at H
       exact absurd H (by simp)
     ·rw [zD c13] at H
      have c13b0 := zG c13
      clear c13
      by_cases c24 : x3_1.length < 8796093022208
      ·rw [zC c24] at H
       have LMc24 := zA c24
       clear c24
       obtain ⟨y571, hy571⟩ : ∃ y_ : List (SSpan), y_ = (x3_1 ++ [(⟨(-1), (-1)⟩ : SSpan)]) := ⟨_, rfl⟩
       replace H : (cubbyref12_Spans.l0 k1 y571 t562 (wrap64 (x5_1 + 1)) a0_0 a0_1 a0_2 l0_3) = some r := by (try rw [hy571]); first | with_reducible exact H | exact (zJ _ _).symm.trans H | exact H
       have Ny571 := zA hy571
       clear hy571
       have H' := zA H
       clear H
       have z25_0 := bk4 BK557.out
       go_wp2_with (first | ((with_reducible refine gate_dst (N := 6) rfl ?_); refine box_event (by rfl) (N := 6) (by rfl) (cs := #[.int .i64 0, .int .i64 0]) (t := 28) ?hr ?_; (case hr => go_simp <;> rfl); intro gb565 hg w26 hbox hb; replace HO_3 := zA (Kd.R_below (Kd.R_elderB (qR HO_3.out) gb565 (Nat.le_of_eq hg.symm)) hb); replace HO_4 := zA (Kd.S_below (qS HO_4.out) hb); have BK565 := zA (hbox); have GW565 := qG hg; have GE565 := GW565; replace HB := qH hb; have NB557_565 := zA ((by rw [hg]; exact Nat.ne_of_lt (blk_lt (g := gb557) (o := .cells #[.string a0_0, .int .i64 a0_1, .int .i64 a0_2, .slice A0_3 l0_3.length c0_3] 24 (0, 0)) (qK BK557.out)) : gb557 ≠ gb565)); have NB565_557 := zA ((by rw [hg]; exact Nat.ne_of_gt (blk_lt (g := gb557) (o := .cells #[.string a0_0, .int .i64 a0_1, .int .i64 a0_2, .slice A0_3 l0_3.length c0_3] 24 (0, 0)) (qK BK557.out)) : gb565 ≠ gb557)); replace BK557 := qW BK557 hb; clear hb hbox hg; have hnb27 := NB565_557.out; have hnc27 := NB557_565.out; have z28_0 := bk2 BK565.out; have z29_0 := bk4 BK557.out) | ((with_reducible refine gate_builtin (b := .append) (xs := #[.tmp 32, .tmp 34]) rfl ?_); at_builtin; refine Kd.R_append kSpan (w0 := w) w.heap.size rfl (.tmp 32) (.tmp 34) 32 28 (.agg #[(.int .i64 0), (.int .i64 0)]) 16 rfl Tryd.underlying32 info28 rfl (by decide) (by omega) u3 x3_1 (⟨(-1), (-1)⟩ : SSpan) [.int .i64 (-1), .int .i64 (-1)] (fun k_ => k_ ≠ gb565) (fun _ => False) rfl (by first | (go_simp; done) | (go_simp; rfl)) ?aP (fun _ hk => hk.elim) ?aF ?aO ?aB ?aS ?aL ?_; (case aP => exact kSpan_mkM _ _ _ (⟨(-1), (-1)⟩ : SSpan)); (case aB => exact qB); (case aF => exact (fun k_ hk => Kd.freshB (g := gb565) (o := .cells #[.int .i64 (-1), .int .i64 (-1)] 28 (0, 0)) (by (with_reducible repeat (first | refine blk_drewN ?_ _ | refine blk_drew ?_ | refine blk_alloc ?_ _)); refine blk_put (cs := #[.int .i64 (-1), .int .i64 0]) ?_ 1 _ rfl; (with_reducible repeat (first | refine blk_drewN ?_ _ | refine blk_drew ?_ | refine blk_alloc ?_ _)); refine blk_put (cs := #[.int .i64 0, .int .i64 0]) ?_ 0 _ rfl; (with_reducible repeat (first | refine blk_drewN ?_ _ | refine blk_drew ?_ | refine blk_alloc ?_ _)); exact BK565.out) k_ hk)); (case aO => exact (by (with_reducible repeat (first | apply Kd.R_alloc | apply Kd.R_drewN | apply Kd.R_drew)); exact Kd.R_mono (Kd.R_far (p := ⟨gb565, 1, none⟩) (Kd.R_far (p := ⟨gb565, 0, none⟩) (Kd.R_mono HO_3.out (fun k_ hk => (⟨hk, hk.2⟩ : _ ∧ k_ ≠ gb565))) (fun _ hk => hk.2) (.int .i64 (-1))) (fun _ hk => hk.2) (.int .i64 (-1))) (fun _ hk => hk.1.2))); (case aS => exact (below_size qB)); (case aL => have := LMc24.out; omega); intro v572 w30 ho hb hg hat; rw [← Ny571.out] at ho; replace HO_4 := zA (Kd.S_over' (by (with_reducible repeat (first | apply Kd.S_alloc | apply Kd.S_drewN | apply Kd.S_drew)); exact (Kd.S_mono (Kd.S_far (p := ⟨gb565, 1, none⟩) (Kd.S_far (p := ⟨gb565, 0, none⟩) (Kd.S_types HO_4.out BK565.out (by decide)) (fun _ hk => hk.2) (.int .i64 (-1))) (fun _ hk => hk.2) (.int .i64 (-1))) (fun _ h_ => h_.1))) (Kd.R_typed (by (with_reducible repeat (first | apply Kd.R_alloc | apply Kd.R_drewN | apply Kd.R_drew)); exact (Kd.R_mono (Kd.R_far (p := ⟨gb565, 1, none⟩) (Kd.R_far (p := ⟨gb565, 0, none⟩) (Kd.R_mono HO_3.out (fun k_ hk => (⟨hk, hk.2⟩ : _ ∧ k_ ≠ gb565))) (fun _ hk => hk.2) (.int .i64 (-1))) (fun _ hk => hk.2) (.int .i64 (-1))) (fun _ h_ => h_.1)))) (by decide) hg); replace BK557 := zA (blk_grown (g := gb557) (o := .cells #[.string a0_0, .int .i64 a0_1, .int .i64 a0_2, .slice A0_3 l0_3.length c0_3] 24 (0, 0)) (by (with_reducible repeat (first | refine blk_drewN ?_ _ | refine blk_drew ?_ | refine blk_alloc ?_ _)); refine blk_far ?_ NB557_565.out _; (with_reducible repeat (first | refine blk_drewN ?_ _ | refine blk_drew ?_ | refine blk_alloc ?_ _)); refine blk_far ?_ NB557_565.out _; (with_reducible repeat (first | refine blk_drewN ?_ _ | refine blk_drew ?_ | refine blk_alloc ?_ _)); exact BK557.out) hg (Kd.R_ne HO_3.out BK557.out (by decide))); replace BK565 := zA (blk_grown (g := gb565) (o := .cells #[.int .i64 (-1), .int .i64 (-1)] 28 (0, 0)) (by (with_reducible repeat (first | refine blk_drewN ?_ _ | refine blk_drew ?_ | refine blk_alloc ?_ _)); refine blk_put (cs := #[.int .i64 (-1), .int .i64 0]) ?_ 1 _ rfl; (with_reducible repeat (first | refine blk_drewN ?_ _ | refine blk_drew ?_ | refine blk_alloc ?_ _)); refine blk_put (cs := #[.int .i64 0, .int .i64 0]) ?_ 0 _ rfl; (with_reducible repeat (first | refine blk_drewN ?_ _ | refine blk_drew ?_ | refine blk_alloc ?_ _)); exact BK565.out) hg (Kd.R_away HO_3.out (fun _ hk => hk.2))); replace HB := zA (hb); have HO573 := zA (ho); clear HO_3; clear ho hb hg hat))
       go_roundg k1
       case measure => have := HK1.out; omega
       case rel => exact ⟨(y571), (wrap64 (x5_1 + 1)), qT, H', ⟨by have := HK1.out; omega⟩, ⟨by (with_reducible repeat (first | apply Kd.R_alloc | apply Kd.R_drewN | apply Kd.R_drew)); exact Kd.R_mono HO573.out (fun _ hk => trivial)⟩, ⟨qS HO_4.out⟩, ⟨qK BK557.out⟩, ⟨qB⟩⟩
      ·rw [zD c24] at H
       exact absurd H (by simp)
    ·rw [zD c12] at H
     have c12b0 := zG c12
     clear c12
     have H' := zA H
     clear H
     have z31_0 := bk4 BK557.out
     go_wp2
     go_loopg [7] k1 (fun kq v7 w' => ∃ (x3_2 : List (SSpan)) (x7_2 : Int), v7 = .int .i64 x7_2 ∧ Aside0 (cubbyref12_Spans.l1 kq x3_2 t562 x7_2 a0_0 a0_1 a0_2 l0_3 = some r) ∧ Aside0 (kq ≤ k1) ∧ Aside0 (Kd.R kSpan 28 w' w.heap.size (fun _ => True) u3 x3_2) ∧ Aside0 (Kd.S (Kd.slice 3 (Kd.int .i64)) 35 w' w.heap.size (fun _ => True) v563 t562) ∧ Aside0 (w'.heap[gb557]? = some (.cells #[.string a0_0, .int .i64 a0_1, .int .i64 a0_2, (.slice A0_3 l0_3.length c0_3)] 24 (0, 0))) ∧ Aside0 (Below w.heap.size w w'))
     case atStart => exact ⟨(x3_1), (0), qT, H', ⟨Nat.le_refl _⟩, ⟨qR HO_3.out⟩, ⟨qS HO_4.out⟩, ⟨qK BK557.out⟩, ⟨qB⟩⟩
     case round =>
      clear H'
      obtain ⟨x3_2, x7_2, rfl, HA, HK2, HO_3, HO_4, BK557, HB⟩ := hrel
      cases gk with
      | zero => exact absurd HA.out (by simp [cubbyref12_Spans.l1])
      | succ k2 =>
       have H := HA.out
       clear HA
       simp only [cubbyref12_Spans.l1] at H
       by_cases c32 : x7_2 < (t562.length : Int)
       ·rw [zC c32] at H
        have c32b0 := zF c32
        clear c32
        have H' := zA H
        clear H
        obtain ⟨Ao33, co33, eo33⟩ := Kd.S_slice HO_4.out
        subst eo33
        go_wp2
        go_loopg [8] k2 (fun kq v8 w' => ∃ (x3_3 : List (SSpan)) (x8_3 : Int), v8 = .int .i64 x8_3 ∧ Aside0 (cubbyref12_Spans.l2 kq x3_3 t562 x7_2 x8_3 a0_0 a0_1 a0_2 l0_3 = some r) ∧ Aside0 (kq ≤ k2) ∧ Aside0 (Kd.R kSpan 28 w' w.heap.size (fun _ => True) u3 x3_3) ∧ Aside0 (Kd.S (Kd.slice 3 (Kd.int .i64)) 35 w' w.heap.size (fun _ => True) (.slice Ao33 t562.length co33) t562) ∧ Aside0 (w'.heap[gb557]? = some (.cells #[.string a0_0, .int .i64 a0_1, .int .i64 a0_2, (.slice A0_3 l0_3.length c0_3)] 24 (0, 0))) ∧ Aside0 (Below w.heap.size w w'))
        case atStart => exact ⟨(x3_2), (0), qT, H', ⟨Nat.le_refl _⟩, ⟨qR HO_3.out⟩, ⟨qS HO_4.out⟩, ⟨qK BK557.out⟩, ⟨qB⟩⟩
        case round =>
         clear H'
         obtain ⟨x3_3, x8_3, rfl, HA, HK3, HO_3, HO_4, BK557, HB⟩ := hrel
         cases gk with
         | zero => exact absurd HA.out (by simp [cubbyref12_Spans.l2])
         | succ k3 =>
          have H := HA.out
          clear HA
          simp only [cubbyref12_Spans.l2] at H
          by_cases c34 : 0 ≤ x7_2
          ·rw [zC c34] at H
           have c34b0 := zF c34
           clear c34
           by_cases c35 : x7_2 < (t562.length : Int)
           ·rw [zC c35] at H
            have c35b0 := zF c35
            clear c35
            by_cases c36 : x8_3 < ((rd_LInt t562 x7_2).length : Int)
            ·rw [zC c36] at H
             have c36b0 := zF c36
             clear c36
             by_cases c37 : 0 ≤ x8_3
             ·rw [zC c37] at H
              have c37b0 := zF c37
              clear c37
              replace H := qb H; obtain ⟨t577, A38, H⟩ := H
              replace H := qb H; obtain ⟨t580, A39, H⟩ := H
              have H' := zA H
              clear H
              have p574 : 0 ≤ (x7_2 : Int) := zB qA
              have q574 : x7_2 < (t562.length : Int) := zB qA
              obtain ⟨ad574, A574_0, c574_0, e574, hx574_0, hl574_0, hi574_0⟩ := at_LInt (Kd.S_reads' HO_4.out).2.2 x7_2 p574 q574
              cases e574
              obtain ⟨ce574, hce574, hMe574, hcc574⟩ := Kd.S_get HO_4.out [] x7_2 p574 (by first | exact q574 | exact zB qA | (have e_ := (Kd.S_reads' HO_4.out).1; omega))
              obtain ⟨ve574_0, rfl, ge574_0⟩ := hMe574
              have hv574_0 := hcc574 0 _ rfl
              rw [Nat.add_zero, show ((Kd.slice 3 (Kd.int .i64))).sz = 1 from rfl, Nat.mul_one] at hv574_0
              replace hv574_0 := zI (hv574_0.symm.trans hx574_0)
              rw [hv574_0] at ge574_0
              have HL574_0 := zA (show Kd.R (Kd.int .i64) 3 _ _ _ _ (rd_LInt t562 x7_2) from ge574_0)
              clear hv574_0 ge574_0
              clear hcc574 hce574
              have HR574_0 := zA hi574_0
              have HC574_0 := zA hl574_0
              clear hi574_0 hl574_0
              replace p574 := eq_true p574
              replace q574 := eq_true q574
              have p575 : 0 ≤ (x7_2 : Int) := zB qA
              have q575 : x7_2 < (t562.length : Int) := zB qA
              obtain ⟨ad575, A575_0, c575_0, e575, hx575_0, hl575_0, hi575_0⟩ := at_LInt (Kd.S_reads' HO_4.out).2.2 x7_2 p575 q575
              obtain rfl : ad574 = ad575 := (by injection e575)
              obtain ⟨ce575, hce575, hMe575, hcc575⟩ := Kd.S_get HO_4.out [] x7_2 p575 (by first | exact q575 | exact zB qA | (have e_ := (Kd.S_reads' HO_4.out).1; omega))
              obtain ⟨ve575_0, rfl, ge575_0⟩ := hMe575
              have hv575_0 := hcc575 0 _ rfl
              rw [Nat.add_zero, show ((Kd.slice 3 (Kd.int .i64))).sz = 1 from rfl, Nat.mul_one] at hv575_0
              replace hv575_0 := zI (hv575_0.symm.trans hx575_0)
              rw [hv575_0] at ge575_0
              have HL575_0 := zA (show Kd.R (Kd.int .i64) 3 _ _ _ _ (rd_LInt t562 x7_2) from ge575_0)
              clear hv575_0 ge575_0
              clear hcc575 hce575
              have HR575_0 := zA hi575_0
              have HC575_0 := zA hl575_0
              clear hi575_0 hl575_0
              replace p575 := eq_true p575
              replace q575 := eq_true q575
              have ea_ := zI (hx574_0.symm.trans hx575_0)
              injection ea_ with ea_ en_ ec_
              subst ea_
              subst ec_
              clear en_
              have p576 : 0 ≤ (x8_3 : Int) := zB qA
              have q576 : x8_3 < ((rd_LInt t562 x7_2).length : Int) := zB qA
              obtain ⟨ad576, e576, hx576_0⟩ := Kd.at_int (by repeat (first | (with_reducible exact HR575_0.out) | (with_reducible refine Kd.C_alloc ?_ _) | (with_reducible refine Kd.C_drewN ?_ _) | (with_reducible refine Kd.C_drew ?_) | exact HR575_0.out)) x8_3 p576 q576
              cases e576
              replace p576 := eq_true p576
              replace q576 := eq_true q576
              have z40_0 := bk4 BK557.out
              go_wp2_with (first | ((with_reducible refine gate_callee (f := 19) rfl ?_); refine goesL_ (some 61) rfl rfl Tryd.func19 (by kernel_rfl) rfl #[.agg #[.string a0_0, .int .i64 a0_1, .int .i64 a0_2, .slice A0_3 l0_3.length c0_3], .int .i64 x7_2, .int .i64 x8_3] rfl qL ?_; (with_reducible refine (cubbyref11_Ahead.calls k3 a0_0 a0_1 a0_2 _ _ l0_3 x7_2 x8_3 t577 _ ?side1 ?side2 A38.out).mono ?_); (case side1 => exact qCB HR0_3.out); (case side2 => exact HC0_3.out); rintro e w41 ⟨v578, rfl, ho0, hb⟩; refine ⟨_, rfl, ?_⟩; replace HO_3 := zA (Kd.R_below (qR HO_3.out) hb); replace HO_4 := zA (Kd.S_elder' (qS HO_4.out) (Kd.R_base ho0) hb); have HO579 := zA (Kd.R_lower (Kd.R_new' (Kd.R_new' ho0 (Kd.R_lt (qR HL574_0.out))) (Kd.R_lt (qR HL575_0.out))) (below_size qB)); replace HL574_0 := zA (Kd.R_elder' (qR HL574_0.out) (Kd.R_base ho0) hb); replace HL575_0 := zA (Kd.R_elder' (qR HL575_0.out) (Kd.R_base ho0) hb); replace BK557 := qW BK557 hb; replace HR574_0 := zA (Kd.C_below (by repeat (first | (with_reducible exact HR574_0.out) | (with_reducible refine Kd.C_alloc ?_ _) | (with_reducible refine Kd.C_drewN ?_ _) | (with_reducible refine Kd.C_drew ?_) | exact HR574_0.out)) hb); replace HR575_0 := zA (Kd.C_below (by repeat (first | (with_reducible exact HR575_0.out) | (with_reducible refine Kd.C_alloc ?_ _) | (with_reducible refine Kd.C_drewN ?_ _) | (with_reducible refine Kd.C_drew ?_) | exact HR575_0.out)) hb); replace HB := qH hb; have z42_0 := bk4 BK557.out) | ((with_reducible refine gate_callee (f := 19) rfl ?_); refine goesL_ (some 66) rfl rfl Tryd.func19 (by kernel_rfl) rfl #[.agg #[.string a0_0, .int .i64 a0_1, .int .i64 a0_2, .slice A0_3 l0_3.length c0_3], .int .i64 x7_2, .int .i64 (wrap64 (x8_3 + 1))] rfl qL ?_; (with_reducible refine (cubbyref11_Ahead.calls k3 a0_0 a0_1 a0_2 _ _ l0_3 x7_2 (wrap64 (x8_3 + 1)) t580 _ ?side1 ?side2 A39.out).mono ?_); (case side1 => exact qCB HR0_3.out); (case side2 => exact HC0_3.out); rintro e w43 ⟨v581, rfl, ho0, hb⟩; refine ⟨_, rfl, ?_⟩; replace HO_3 := zA (Kd.R_below (qR HO_3.out) hb); replace HO_4 := zA (Kd.S_elder' (qS HO_4.out) (Kd.R_base ho0) hb); have HO582 := zA (Kd.R_lower (Kd.R_new' (Kd.R_new' (Kd.R_new' ho0 (Kd.R_lt (qR HL574_0.out))) (Kd.R_lt (qR HL575_0.out))) (Kd.R_lt (qR HO579.out))) (below_size qB)); replace HL574_0 := zA (Kd.R_elder' (qR HL574_0.out) (Kd.R_base ho0) hb); replace HL575_0 := zA (Kd.R_elder' (qR HL575_0.out) (Kd.R_base ho0) hb); replace HO579 := zA (Kd.R_elder' (qR HO579.out) (Kd.R_base ho0) hb); replace BK557 := qW BK557 hb; replace HR574_0 := zA (Kd.C_below (by repeat (first | (with_reducible exact HR574_0.out) | (with_reducible refine Kd.C_alloc ?_ _) | (with_reducible refine Kd.C_drewN ?_ _) | (with_reducible refine Kd.C_drew ?_) | exact HR574_0.out)) hb); replace HR575_0 := zA (Kd.C_below (by repeat (first | (with_reducible exact HR575_0.out) | (with_reducible refine Kd.C_alloc ?_ _) | (with_reducible refine Kd.C_drewN ?_ _) | (with_reducible refine Kd.C_drew ?_) | exact HR575_0.out)) hb); replace HB := qH hb))
              go_loopg [12] k3 (fun kq v12 w' => ∃ (x3_4 : List (SSpan)) (x12_4 : Int), v12 = .int .i64 x12_4 ∧ Aside0 (cubbyref12_Spans.l3 kq x3_4 t562 x7_2 x8_3 (rd (rd_LInt t562 x7_2) x8_3) t577 t580 x12_4 a0_0 a0_1 a0_2 l0_3 = some r) ∧ Aside0 (kq ≤ k3) ∧ Aside0 (Kd.R kSpan 28 w' w.heap.size (fun _ => True) u3 x3_4) ∧ Aside0 (Kd.S (Kd.slice 3 (Kd.int .i64)) 35 w' w.heap.size (fun k_ => some k_ ≠ (v578 : Value).ownBlock ∧ some k_ ≠ (v581 : Value).ownBlock) (.slice (some ad574) t562.length co33) t562) ∧ Aside0 (Kd.R (Kd.int .i64) 3 w' w.heap.size (fun k_ => some k_ ≠ (v581 : Value).ownBlock) v578 t577) ∧ Aside0 (Kd.R (Kd.int .i64) 3 w' w.heap.size (fun k_ => some k_ ≠ (v578 : Value).ownBlock) v581 t580) ∧ Aside0 (w'.heap[gb557]? = some (.cells #[.string a0_0, .int .i64 a0_1, .int .i64 a0_2, (.slice A0_3 l0_3.length c0_3)] 24 (0, 0))) ∧ Aside0 (Below w.heap.size w w'))
              case atStart => exact ⟨(x3_3), (0), qT, H', ⟨Nat.le_refl _⟩, ⟨qR HO_3.out⟩, ⟨by (with_reducible repeat (first | apply Kd.S_alloc | apply Kd.S_drewN | apply Kd.S_drew)); exact Kd.S_mono HO_4.out (fun _ hk => ⟨hk.1.2, hk.2⟩)⟩, ⟨by (with_reducible repeat (first | apply Kd.R_alloc | apply Kd.R_drewN | apply Kd.R_drew)); exact Kd.R_mono HO579.out (fun _ hk => hk.2)⟩, ⟨by (with_reducible repeat (first | apply Kd.R_alloc | apply Kd.R_drewN | apply Kd.R_drew)); exact Kd.R_mono HO582.out (fun _ hk => hk.2)⟩, ⟨qK BK557.out⟩, ⟨qB⟩⟩
              case round =>
               clear H'
               obtain ⟨x3_4, x12_4, rfl, HA, HK4, HO_3, HO_4, HO_10, HO_11, BK557, HB⟩ := hrel
               cases gk with
               | zero => exact absurd HA.out (by simp [cubbyref12_Spans.l3])
               | succ k4 =>
                have H := HA.out
                clear HA
                simp only [cubbyref12_Spans.l3] at H
                by_cases c44 : x12_4 < a0_2
                ·rw [zC c44] at H
                 have c44b0 := zF c44
                 clear c44
                 replace H := qb H; obtain ⟨t583, A45, H⟩ := H
                 have HC46 := zA H
                 clear H
                 have z47_0 := bk4 BK557.out
                 obtain ⟨Ao48, co48, eo48⟩ := Kd.R_slice HO_10.out
                 subst eo48
                 go_upto_if 75 with (first | ((with_reducible refine gate_callee (f := 52) rfl ?_); refine goesL_ (some 75) rfl rfl Tryd.func52 (by kernel_rfl) rfl #[.slice Ao48 t577.length co48, .int .i64 x12_4] rfl qL ?_; (with_reducible refine (cubbyref12_has.calls k4 _ _ t577 x12_4 t583 _ ?side1 ?side2 A45.out).mono ?_); (case side1 => repeat (first | exact (Kd.R_reads' HO_10.out).2.2 | (with_reducible refine Kd.C_alloc ?_ _) | (with_reducible refine Kd.C_drewN ?_ _) | (with_reducible refine Kd.C_drew ?_))); (case side2 => exact (Kd.R_reads' HO_10.out).2.1); rintro e w' ⟨rfl, ⟨nd, rfl⟩⟩; refine ⟨_, rfl, ?_⟩))
                 (try simp only [Act.put, List.setIfInBounds_toArray, List.set_cons_zero, List.set_cons_succ])
                 go_cut [] (fun wc => ∃ (kq : Nat) (x3_45 : List (SSpan)), Aside0 (cubbyref12_Spans.j4 kq x3_45 t562 x7_2 x8_3 (rd (rd_LInt t562 x7_2) x8_3) t577 t580 x12_4 a0_0 a0_1 a0_2 l0_3 = some r) ∧ Aside0 (kq ≤ k4) ∧ Aside0 (Kd.R kSpan 28 wc w.heap.size (fun _ => True) u3 x3_45) ∧ Aside0 (Kd.S (Kd.slice 3 (Kd.int .i64)) 35 wc w.heap.size (fun k_ => some k_ ≠ ((.slice Ao48 t577.length co48) : Value).ownBlock ∧ some k_ ≠ (v581 : Value).ownBlock) (.slice (some ad574) t562.length co33) t562) ∧ Aside0 (Kd.R (Kd.int .i64) 3 wc w.heap.size (fun k_ => some k_ ≠ (v581 : Value).ownBlock) (.slice Ao48 t577.length co48) t577) ∧ Aside0 (Kd.R (Kd.int .i64) 3 wc w.heap.size (fun k_ => some k_ ≠ ((.slice Ao48 t577.length co48) : Value).ownBlock) v581 t580) ∧ Aside0 (wc.heap[gb557]? = some (.cells #[.string a0_0, .int .i64 a0_1, .int .i64 a0_2, (.slice A0_3 l0_3.length c0_3)] 24 (0, 0))) ∧ Aside0 (Below w.heap.size w wc))
                 case first =>
                  have H := HC46.out
                  clear HC46
                  by_cases c49 : t583 = true
                  ·subst c49
                   have H1 : (if 0 ≤ x12_4 then (if x12_4 < (x3_4.length : Int) then ((cubbyref12_take.f ((rd_TSpan x3_4 x12_4).f0) ((rd_TSpan x3_4 x12_4).f1) (wrap64 (2 * (rd (rd_LInt t562 x7_2) x8_3)))).bind fun bt585 => (cubbyref12_Spans.j4 k4 (x3_4.set (x12_4 : Int).toNat (⟨bt585.1, bt585.2⟩ : SSpan)) t562 x7_2 x8_3 (rd (rd_LInt t562 x7_2) x8_3) t577 t580 x12_4 a0_0 a0_1 a0_2 l0_3)) else (none)) else (none)) = some r := by rw [zC rfl] at H; exact H
                   clear H
                   have H := H1
                   clear H1
                   by_cases c50 : 0 ≤ x12_4
                   ·rw [zC c50] at H
                    have c50b0 := zF c50
                    clear c50
                    (first | rw [c50b0] | (simp only [i64_w, i32_w]; rw [c50b0]) | skip)
                    by_cases c51 : x12_4 < (x3_4.length : Int)
                    ·rw [zC c51] at H
                     have c51b0 := zF c51
                     clear c51
                     replace H := Option.bind_eq_some_iff.mp H
                     obtain ⟨⟨t585, t586⟩, A520, H⟩ := H
                     replace H : (cubbyref12_Spans.j4 k4 (x3_4.set (x12_4 : Int).toNat (⟨t585, t586⟩ : SSpan)) t562 x7_2 x8_3 (rd (rd_LInt t562 x7_2) x8_3) t577 t580 x12_4 a0_0 a0_1 a0_2 l0_3) = some r := H
                     have A52 := zA A520
                     clear A520
                     obtain ⟨y587, hy587⟩ : ∃ y_ : List (SSpan), y_ = (x3_4.set (x12_4 : Int).toNat (⟨t585, t586⟩ : SSpan)) := ⟨_, rfl⟩
                     replace H : (cubbyref12_Spans.j4 k4 y587 t562 x7_2 x8_3 (rd (rd_LInt t562 x7_2) x8_3) t577 t580 x12_4 a0_0 a0_1 a0_2 l0_3) = some r := by (try rw [hy587]); first | with_reducible exact H | exact (zJ _ _).symm.trans H | exact H
                     have Ny587 := zA hy587
                     clear hy587
                     have H' := zA H
                     clear H
                     obtain ⟨Ao54, co54, eo54⟩ := Kd.R_slice HO_3.out
                     subst eo54
                     have p584 : 0 ≤ (x12_4 : Int) := zB qA
                     have q584 : x12_4 < (x3_4.length : Int) := zB qA
                     obtain ⟨ad584, e584, hx584_0, hx584_1⟩ := at_TSpan (Kd.R_reads' HO_3.out).2.2 x12_4 p584 q584
                     cases e584
                     replace p584 := eq_true p584
                     replace q584 := eq_true q584
                     go_wp2_with (first | ((with_reducible refine gate_callee (f := 51) rfl ?_); refine goesL_ (some 84) rfl rfl Tryd.func51 (by kernel_rfl) rfl #[.agg #[.int .i64 ((rd_TSpan x3_4 x12_4).f0), .int .i64 ((rd_TSpan x3_4 x12_4).f1)], .int .i64 (wrap64 (2 * (rd (rd_LInt t562 x7_2) x8_3)))] rfl qL ?_; (with_reducible refine (cubbyref12_take.calls ((rd_TSpan x3_4 x12_4).f0) ((rd_TSpan x3_4 x12_4).f1) (wrap64 (2 * (rd (rd_LInt t562 x7_2) x8_3))) t585 t586 _ A52.out).mono ?_); rintro e w55 ⟨rfl, hb⟩; refine ⟨_, rfl, ?_⟩; replace HO_3 := zA (Kd.R_below (qR HO_3.out) hb); replace HO_4 := zA (Kd.S_below (qS HO_4.out) hb); replace HO_10 := zA (Kd.R_below (qR HO_10.out) hb); replace HO_11 := zA (Kd.R_below (qR HO_11.out) hb); replace BK557 := qW BK557 hb; replace HB := qH hb; (try clear hb); have p53 : 0 ≤ (x12_4 : Int) := zB qA; have q53 : (x12_4 : Int) < ((x3_4.length : Int) : Int) := zB qA; obtain ⟨go53, co53, eo53, gb53, gl53, cl53, HG53⟩ := Kd.R_form HO_3.out (by omega); (first | cases eo53 | (injection eo53 with ea_ en_ ec_; (first | subst ea_ | (injection ea_ with ea_; subst ea_)); subst ec_; clear en_)); have GB53 := zA gb53; have GG53 := zA HG53; clear gb53 gl53 HG53; (first | simp only [add_plain] at hx584_0 | skip); (first | simp only [add_plain] at hx584_1 | skip); obtain ⟨ce53, hcl53, hM53, hcc53, hfr53⟩ := Kd.R_elem HO_3.out zSpan (x12_4 : Int) p53 q53; obtain rfl := kSpan_openM hM53; have hx53_0 : w55.cell? ⟨go53, (x12_4 : Int).toNat * 2, none⟩ = some (.int .i64 ((rd_TSpan x3_4 x12_4).f0)) := hcc53 0 _ rfl; have hx53_1 : w55.cell? ⟨go53, (x12_4 : Int).toNat * 2 + 1, none⟩ = some (.int .i64 ((rd_TSpan x3_4 x12_4).f1)) := hcc53 1 _ rfl; have hf53_0 : w55.frozen? ⟨go53, (x12_4 : Int).toNat * 2, none⟩ = false := hfr53 0; have hf53_1 : w55.frozen? ⟨go53, (x12_4 : Int).toNat * 2 + 1, none⟩ = false := hfr53 1; clear hcl53 hcc53 hfr53 hM53; replace p53 := eq_true p53; replace q53 := eq_true q53; have HX56 := zA (show Kd.R kSpan 28 w55 w.heap.size (fun _ => True) (.slice (some ⟨go53, 0, none⟩) x3_4.length co54) x3_4 from (qR HO_3.out)); obtain ⟨ce56, hcl56, hM56, hcc56, hfr56⟩ := Kd.R_elem HX56.out zSpan (x12_4 : Int) (zB qA) (by have h_ : (x12_4 : Int) < ((x3_4.length : Int) : Int) := zB qA; first | exact h_ | (have e_ := (Kd.R_reads' HO_3.out).1; omega) | simpa using h_); obtain rfl := kSpan_openM hM56; have HP56 := Kd.R_seg HX56.out (x12_4 : Int) (zB qA) (by have h_ : (x12_4 : Int) < ((x3_4.length : Int) : Int) := zB qA; first | exact h_ | (have e_ := (Kd.R_reads' HO_3.out).1; omega) | simpa using h_) (seg := [.int .i64 t585, .int .i64 t586]) (j := 0) hcl56 hcc56 (show 2 ≤ 2 from by decide) (x' := (⟨t585, t586⟩ : SSpan)) (kSpan_mkM _ _ _ (⟨t585, t586⟩ : SSpan) ) (fun _ hk => hk); have hx56_0 := hcc56 0 _ rfl; (try simp only [show (kSpan).sz = 2 from rfl, Nat.mul_one, Nat.add_zero] at hx56_0); have hf56_0 := hfr56 0; (try simp only [show (kSpan).sz = 2 from rfl, Nat.mul_one, Nat.add_zero] at hf56_0); have hx56_1 := hcc56 1 _ rfl; (try simp only [show (kSpan).sz = 2 from rfl, Nat.mul_one, Nat.add_zero] at hx56_1); have hf56_1 := hfr56 1; (try simp only [show (kSpan).sz = 2 from rfl, Nat.mul_one, Nat.add_zero] at hf56_1); clear hcl56 hcc56 hfr56 hM56) | ((with_reducible refine gate_store (t := 28) (p := 85) rfl ?_); refine store_event (t := 28) (p := 85) (v := ?vo_w57) (w1 := ((w55.setCell ⟨go53, (x12_4 : Int).toNat * 2, none⟩ (.int .i64 t585)).setCell ⟨go53, (x12_4 : Int).toNat * 2 + 1, none⟩ (.int .i64 t586))) (by rfl) (by rfl) (by rfl) ?hr ?_; (case hr => go_simp <;> rfl); intro w57 hw; have hg : w55.grownBy w57 (some go53) := (by rw [hw]; exact HP56.2); have hp_ : Kd.R kSpan 28 w57 w.heap.size (fun _ => True) (.slice (some ⟨go53, 0, none⟩) x3_4.length co54) y587 := (by rw [hw, Ny587.out]; exact HP56.1); clear HP56; replace HO_4 := zA (Kd.S_over' (v := (.slice (some ⟨go53, 0, none⟩) x3_4.length co54)) (qS HO_4.out) (Kd.R_typed HO_3.out) (by decide) hg); replace HO_10 := zA (Kd.R_over' (v := (.slice (some ⟨go53, 0, none⟩) x3_4.length co54)) (qR HO_10.out) (Kd.R_typed HO_3.out) (by decide) hg); replace HO_11 := zA (Kd.R_over' (v := (.slice (some ⟨go53, 0, none⟩) x3_4.length co54)) (qR HO_11.out) (Kd.R_typed HO_3.out) (by decide) hg); replace BK557 := zA (blk_grown (qK BK557.out) hg (Kd.R_ne HO_3.out BK557.out (by decide))); replace HO_3 := zA (hp_); replace HB := zA ((by rw [hw]; exact below_set (below_set (HB.out) GB53.out) GB53.out : Below w.heap.size w w57)); clear hg hw hp_))
                     go_meet
                     case rel => exact ⟨_, (y587), H', ⟨by have := HK1.out; have := HK2.out; have := HK3.out; have := HK4.out; first | omega | exact Nat.le_refl _⟩, ⟨qR HO_3.out⟩, ⟨qS HO_4.out⟩, ⟨qR HO_10.out⟩, ⟨qR HO_11.out⟩, ⟨qK BK557.out⟩, ⟨qB⟩⟩
                    ·rw [zD c51] at H
                     exact absurd H (by simp)
                   ·rw [zD c50] at H
                    exact absurd H (by simp)
                  ·replace c49 := Bool.eq_false_iff.mpr c49
                   subst c49
                   have H1 : (cubbyref12_Spans.j4 k4 x3_4 t562 x7_2 x8_3 (rd (rd_LInt t562 x7_2) x8_3) t577 t580 x12_4 a0_0 a0_1 a0_2 l0_3) = some r := by rw [zD (show ¬ (false = true) by decide)] at H; exact H
                   clear H
                   have H := H1
                   clear H1
                   have H' := zA H
                   clear H
                   go_wp2
                   go_meet
                   case rel => exact ⟨_, (x3_4), H', ⟨by have := HK1.out; have := HK2.out; have := HK3.out; have := HK4.out; first | omega | exact Nat.le_refl _⟩, ⟨qR HO_3.out⟩, ⟨qS HO_4.out⟩, ⟨qR HO_10.out⟩, ⟨qR HO_11.out⟩, ⟨qK BK557.out⟩, ⟨qB⟩⟩
                 case rest =>
                  clear HC46
                  obtain ⟨kq, x3_45, HA, HJ45, HO_3, HO_4, HO_10, HO_11, BK557, HB⟩ := hcut
                  cases kq with
                  | zero => exact absurd HA.out (by simp [cubbyref12_Spans.j4])
                  | succ kj45 =>
                   have H := HA.out
                   clear HA
                   simp only [cubbyref12_Spans.j4] at H
                   replace H := qb H; obtain ⟨t588, A58, H⟩ := H
                   by_cases c59 : t588 = true
                   ·subst c59
                    have H1 : (if 0 ≤ x12_4 then (if x12_4 < (x3_45.length : Int) then ((cubbyref12_take.f ((rd_TSpan x3_45 x12_4).f0) ((rd_TSpan x3_45 x12_4).f1) (wrap64 ((wrap64 (2 * (rd (rd_LInt t562 x7_2) x8_3))) + 1))).bind fun bt590 => (cubbyref12_Spans.l3 kj45 (x3_45.set (x12_4 : Int).toNat (⟨bt590.1, bt590.2⟩ : SSpan)) t562 x7_2 x8_3 (rd (rd_LInt t562 x7_2) x8_3) t577 t580 (wrap64 (x12_4 + 1)) a0_0 a0_1 a0_2 l0_3)) else (none)) else (none)) = some r := by rw [zC rfl] at H; exact H
                    clear H
                    have H := H1
                    clear H1
                    by_cases c60 : 0 ≤ x12_4
                    ·rw [zC c60] at H
                     have c60b0 := zF c60
                     clear c60
                     by_cases c61 : x12_4 < (x3_45.length : Int)
                     ·rw [zC c61] at H
                      have c61b0 := zF c61
                      clear c61
                      replace H := Option.bind_eq_some_iff.mp H
                      obtain ⟨⟨t590, t591⟩, A620, H⟩ := H
                      replace H : (cubbyref12_Spans.l3 kj45 (x3_45.set (x12_4 : Int).toNat (⟨t590, t591⟩ : SSpan)) t562 x7_2 x8_3 (rd (rd_LInt t562 x7_2) x8_3) t577 t580 (wrap64 (x12_4 + 1)) a0_0 a0_1 a0_2 l0_3) = some r := H
                      have A62 := zA A620
                      clear A620
                      obtain ⟨y592, hy592⟩ : ∃ y_ : List (SSpan), y_ = (x3_45.set (x12_4 : Int).toNat (⟨t590, t591⟩ : SSpan)) := ⟨_, rfl⟩
                      replace H : (cubbyref12_Spans.l3 kj45 y592 t562 x7_2 x8_3 (rd (rd_LInt t562 x7_2) x8_3) t577 t580 (wrap64 (x12_4 + 1)) a0_0 a0_1 a0_2 l0_3) = some r := by (try rw [hy592]); first | with_reducible exact H | exact (zJ _ _).symm.trans H | exact H
                      have Ny592 := zA hy592
                      clear hy592
                      have H' := zA H
                      clear H
                      obtain ⟨Ao64, co64, eo64⟩ := Kd.R_slice HO_11.out
                      subst eo64
                      go_wp2_with (first | ((with_reducible refine gate_callee (f := 52) rfl ?_); refine goesL_ (some 88) rfl rfl Tryd.func52 (by kernel_rfl) rfl #[.slice Ao64 t580.length co64, .int .i64 x12_4] rfl qL ?_; (with_reducible refine (cubbyref12_has.calls kj45 _ _ t580 x12_4 true _ ?side1 ?side2 A58.out).mono ?_); (case side1 => repeat (first | exact (Kd.R_reads' HO_11.out).2.2 | (with_reducible refine Kd.C_alloc ?_ _) | (with_reducible refine Kd.C_drewN ?_ _) | (with_reducible refine Kd.C_drew ?_))); (case side2 => exact (Kd.R_reads' HO_11.out).2.1); rintro e w' ⟨rfl, ⟨nd, rfl⟩⟩; refine ⟨_, rfl, ?_⟩; (try (rw [drewN_self wc]; generalize hq_ : World.drewN wc _ = wc; have n0_ : Aside0 (Kd.R (Kd.int .i64) 3 wc w.heap.size (fun k_ => some k_ ≠ (.slice Ao64 t580.length co64 : Value).ownBlock) (.slice Ao48 t577.length co48) t577) := ⟨by rw [← hq_]; exact (qR HO_10.out)⟩; have n1_ : Aside0 (Kd.R (Kd.int .i64) 3 wc w.heap.size (fun k_ => some k_ ≠ (.slice Ao48 t577.length co48 : Value).ownBlock) (.slice Ao64 t580.length co64) t580) := ⟨by rw [← hq_]; exact (qR HO_11.out)⟩; have n2_ : Aside0 (Kd.R kSpan 28 wc w.heap.size (fun _ => True) u3 x3_45) := ⟨by rw [← hq_]; exact (qR HO_3.out)⟩; have n3_ : Aside0 (Kd.S (Kd.slice 3 (Kd.int .i64)) 35 wc w.heap.size (fun k_ => some k_ ≠ (.slice Ao48 t577.length co48 : Value).ownBlock ∧ some k_ ≠ (.slice Ao64 t580.length co64 : Value).ownBlock) (.slice (some ad574) t562.length co33) t562) := ⟨by rw [← hq_]; exact (qS HO_4.out)⟩; have n4_ : Aside0 (wc.heap[gb557]? = some (.cells #[.string a0_0, .int .i64 a0_1, .int .i64 a0_2, .slice A0_3 l0_3.length c0_3] 24 (0, 0))) := ⟨by rw [← hq_]; exact (qK BK557.out)⟩; have n5_ : Aside0 (Below w.heap.size w wc) := ⟨by rw [← hq_]; exact qB⟩; clear HO_10 HO_11 HO_3 HO_4 BK557 HB hq_; have HO_10 := n0_; have HO_11 := n1_; have HO_3 := n2_; have HO_4 := n3_; have BK557 := n4_; have HB := n5_; clear n0_ n1_ n2_ n3_ n4_ n5_)); obtain ⟨Ao65, co65, eo65⟩ := Kd.R_slice HO_3.out; subst eo65; have p589 : 0 ≤ (x12_4 : Int) := zB qA; have q589 : x12_4 < (x3_45.length : Int) := zB qA; obtain ⟨ad589, e589, hx589_0, hx589_1⟩ := at_TSpan (Kd.R_reads' HO_3.out).2.2 x12_4 p589 q589; cases e589; replace p589 := eq_true p589; replace q589 := eq_true q589) | ((with_reducible refine gate_callee (f := 51) rfl ?_); refine goesL_ (some 111) rfl rfl Tryd.func51 (by kernel_rfl) rfl #[.agg #[.int .i64 ((rd_TSpan x3_45 x12_4).f0), .int .i64 ((rd_TSpan x3_45 x12_4).f1)], .int .i64 (wrap64 ((wrap64 (2 * (rd (rd_LInt t562 x7_2) x8_3))) + 1))] rfl qL ?_; (with_reducible refine (cubbyref12_take.calls ((rd_TSpan x3_45 x12_4).f0) ((rd_TSpan x3_45 x12_4).f1) (wrap64 ((wrap64 (2 * (rd (rd_LInt t562 x7_2) x8_3))) + 1)) t590 t591 _ A62.out).mono ?_); rintro e w66 ⟨rfl, hb⟩; refine ⟨_, rfl, ?_⟩; replace HO_3 := zA (Kd.R_below (qR HO_3.out) hb); replace HO_4 := zA (Kd.S_below (qS HO_4.out) hb); replace HO_10 := zA (Kd.R_below (qR HO_10.out) hb); replace HO_11 := zA (Kd.R_below (qR HO_11.out) hb); replace BK557 := qW BK557 hb; replace HB := qH hb; (try clear hb); have p63 : 0 ≤ (x12_4 : Int) := zB qA; have q63 : (x12_4 : Int) < ((x3_45.length : Int) : Int) := zB qA; obtain ⟨go63, co63, eo63, gb63, gl63, cl63, HG63⟩ := Kd.R_form HO_3.out (by omega); (first | cases eo63 | (injection eo63 with ea_ en_ ec_; (first | subst ea_ | (injection ea_ with ea_; subst ea_)); subst ec_; clear en_)); have GB63 := zA gb63; have GG63 := zA HG63; clear gb63 gl63 HG63; (first | simp only [add_plain] at hx589_0 | skip); (first | simp only [add_plain] at hx589_1 | skip); obtain ⟨ce63, hcl63, hM63, hcc63, hfr63⟩ := Kd.R_elem HO_3.out zSpan (x12_4 : Int) p63 q63; obtain rfl := kSpan_openM hM63; have hx63_0 : w66.cell? ⟨go63, (x12_4 : Int).toNat * 2, none⟩ = some (.int .i64 ((rd_TSpan x3_45 x12_4).f0)) := hcc63 0 _ rfl; have hx63_1 : w66.cell? ⟨go63, (x12_4 : Int).toNat * 2 + 1, none⟩ = some (.int .i64 ((rd_TSpan x3_45 x12_4).f1)) := hcc63 1 _ rfl; have hf63_0 : w66.frozen? ⟨go63, (x12_4 : Int).toNat * 2, none⟩ = false := hfr63 0; have hf63_1 : w66.frozen? ⟨go63, (x12_4 : Int).toNat * 2 + 1, none⟩ = false := hfr63 1; clear hcl63 hcc63 hfr63 hM63; replace p63 := eq_true p63; replace q63 := eq_true q63; have HX67 := zA (show Kd.R kSpan 28 w66 w.heap.size (fun _ => True) (.slice (some ⟨go63, 0, none⟩) x3_45.length co65) x3_45 from (qR HO_3.out)); obtain ⟨ce67, hcl67, hM67, hcc67, hfr67⟩ := Kd.R_elem HX67.out zSpan (x12_4 : Int) (zB qA) (by have h_ : (x12_4 : Int) < ((x3_45.length : Int) : Int) := zB qA; first | exact h_ | (have e_ := (Kd.R_reads' HO_3.out).1; omega) | simpa using h_); obtain rfl := kSpan_openM hM67; have HP67 := Kd.R_seg HX67.out (x12_4 : Int) (zB qA) (by have h_ : (x12_4 : Int) < ((x3_45.length : Int) : Int) := zB qA; first | exact h_ | (have e_ := (Kd.R_reads' HO_3.out).1; omega) | simpa using h_) (seg := [.int .i64 t590, .int .i64 t591]) (j := 0) hcl67 hcc67 (show 2 ≤ 2 from by decide) (x' := (⟨t590, t591⟩ : SSpan)) (kSpan_mkM _ _ _ (⟨t590, t591⟩ : SSpan) ) (fun _ hk => hk); have hx67_0 := hcc67 0 _ rfl; (try simp only [show (kSpan).sz = 2 from rfl, Nat.mul_one, Nat.add_zero] at hx67_0); have hf67_0 := hfr67 0; (try simp only [show (kSpan).sz = 2 from rfl, Nat.mul_one, Nat.add_zero] at hf67_0); have hx67_1 := hcc67 1 _ rfl; (try simp only [show (kSpan).sz = 2 from rfl, Nat.mul_one, Nat.add_zero] at hx67_1); have hf67_1 := hfr67 1; (try simp only [show (kSpan).sz = 2 from rfl, Nat.mul_one, Nat.add_zero] at hf67_1); clear hcl67 hcc67 hfr67 hM67) | ((with_reducible refine gate_store (t := 28) (p := 112) rfl ?_); refine store_event (t := 28) (p := 112) (v := ?vo_w68) (w1 := ((w66.setCell ⟨go63, (x12_4 : Int).toNat * 2, none⟩ (.int .i64 t590)).setCell ⟨go63, (x12_4 : Int).toNat * 2 + 1, none⟩ (.int .i64 t591))) (by rfl) (by rfl) (by rfl) ?hr ?_; (case hr => go_simp <;> rfl); intro w68 hw; have hg : w66.grownBy w68 (some go63) := (by rw [hw]; exact HP67.2); have hp_ : Kd.R kSpan 28 w68 w.heap.size (fun _ => True) (.slice (some ⟨go63, 0, none⟩) x3_45.length co65) y592 := (by rw [hw, Ny592.out]; exact HP67.1); clear HP67; replace HO_4 := zA (Kd.S_over' (v := (.slice (some ⟨go63, 0, none⟩) x3_45.length co65)) (qS HO_4.out) (Kd.R_typed HO_3.out) (by decide) hg); replace HO_10 := zA (Kd.R_over' (v := (.slice (some ⟨go63, 0, none⟩) x3_45.length co65)) (qR HO_10.out) (Kd.R_typed HO_3.out) (by decide) hg); replace HO_11 := zA (Kd.R_over' (v := (.slice (some ⟨go63, 0, none⟩) x3_45.length co65)) (qR HO_11.out) (Kd.R_typed HO_3.out) (by decide) hg); replace BK557 := zA (blk_grown (qK BK557.out) hg (Kd.R_ne HO_3.out BK557.out (by decide))); replace HO_3 := zA (hp_); replace HB := zA ((by rw [hw]; exact below_set (below_set (HB.out) GB63.out) GB63.out : Below w.heap.size w w68)); clear hg hw hp_))
                      go_roundg kj45
                      case measure => have := HK1.out; have := HK2.out; have := HK3.out; have := HK4.out; have := HJ45.out; omega
                      case rel => exact ⟨(y592), (wrap64 (x12_4 + 1)), qT, H', ⟨by have := HK1.out; have := HK2.out; have := HK3.out; have := HK4.out; have := HJ45.out; omega⟩, ⟨qR HO_3.out⟩, ⟨qS HO_4.out⟩, ⟨qR HO_10.out⟩, ⟨qR HO_11.out⟩, ⟨qK BK557.out⟩, ⟨qB⟩⟩
                     ·rw [zD c61] at H
                      exact absurd H (by simp)
                    ·rw [zD c60] at H
                     exact absurd H (by simp)
                   ·replace c59 := Bool.eq_false_iff.mpr c59
                    subst c59
                    have H1 : (if 0 ≤ x7_2 then (if x7_2 < (l0_3.length : Int) then (if 0 ≤ x8_3 then (if x8_3 < ((rd_LIns l0_3 x7_2).length : Int) then ((cubbyref07_Def.f ((rd_TIns (rd_LIns l0_3 x7_2) x8_3).f0) ((rd_TIns (rd_LIns l0_3 x7_2) x8_3).f1) ((rd_TIns (rd_LIns l0_3 x7_2) x8_3).f2) ((rd_TIns (rd_LIns l0_3 x7_2) x8_3).f3) ((rd_TIns (rd_LIns l0_3 x7_2) x8_3).f4) ((rd_TIns (rd_LIns l0_3 x7_2) x8_3).f5)).bind fun t595 => (if t595 = x12_4 then (if 0 ≤ x12_4 then (if x12_4 < (x3_45.length : Int) then ((cubbyref12_take.f ((rd_TSpan x3_45 x12_4).f0) ((rd_TSpan x3_45 x12_4).f1) (wrap64 ((wrap64 (2 * (rd (rd_LInt t562 x7_2) x8_3))) + 1))).bind fun bt597 => (cubbyref12_Spans.l3 kj45 (x3_45.set (x12_4 : Int).toNat (⟨bt597.1, bt597.2⟩ : SSpan)) t562 x7_2 x8_3 (rd (rd_LInt t562 x7_2) x8_3) t577 t580 (wrap64 (x12_4 + 1)) a0_0 a0_1 a0_2 l0_3)) else (none)) else (none)) else (cubbyref12_Spans.l3 kj45 x3_45 t562 x7_2 x8_3 (rd (rd_LInt t562 x7_2) x8_3) t577 t580 (wrap64 (x12_4 + 1)) a0_0 a0_1 a0_2 l0_3))) else (none)) else (none)) else (none)) else (none)) = some r := by rw [zD (show ¬ (false = true) by decide)] at H; exact H
                    clear H
                    have H := H1
                    clear H1
                    by_cases c69 : 0 ≤ x7_2
                    ·rw [zC c69] at H
                     have c69b0 := zF c69
                     clear c69
                     by_cases c70 : x7_2 < (l0_3.length : Int)
                     ·rw [zC c70] at H
                      have c70b0 := zF c70
                      clear c70
                      by_cases c71 : 0 ≤ x8_3
                      ·rw [zC c71] at H
                       have c71b0 := zF c71
                       clear c71
                       by_cases c72 : x8_3 < ((rd_LIns l0_3 x7_2).length : Int)
                       ·rw [zC c72] at H
                        have c72b0 := zF c72
                        clear c72
                        replace H := qb H; obtain ⟨t595, A73, H⟩ := H
                        by_cases c74 : t595 = x12_4
                        ·rw [zC c74] at H
                         obtain ⟨c74b0, c74b1⟩ := qe c74; clear c74
                         by_cases c75 : 0 ≤ x12_4
                         ·rw [zC c75] at H
                          have c75b0 := zF c75
                          clear c75
                          by_cases c76 : x12_4 < (x3_45.length : Int)
                          ·rw [zC c76] at H
                           have c76b0 := zF c76
                           clear c76
                           replace H := Option.bind_eq_some_iff.mp H
                           obtain ⟨⟨t597, t598⟩, A770, H⟩ := H
                           replace H : (cubbyref12_Spans.l3 kj45 (x3_45.set (x12_4 : Int).toNat (⟨t597, t598⟩ : SSpan)) t562 x7_2 x8_3 (rd (rd_LInt t562 x7_2) x8_3) t577 t580 (wrap64 (x12_4 + 1)) a0_0 a0_1 a0_2 l0_3) = some r := H
                           have A77 := zA A770
                           clear A770
                           obtain ⟨y599, hy599⟩ : ∃ y_ : List (SSpan), y_ = (x3_45.set (x12_4 : Int).toNat (⟨t597, t598⟩ : SSpan)) := ⟨_, rfl⟩
                           replace H : (cubbyref12_Spans.l3 kj45 y599 t562 x7_2 x8_3 (rd (rd_LInt t562 x7_2) x8_3) t577 t580 (wrap64 (x12_4 + 1)) a0_0 a0_1 a0_2 l0_3) = some r := by (try rw [hy599]); first | with_reducible exact H | exact (zJ _ _).symm.trans H | exact H
                           have Ny599 := zA hy599
                           clear hy599
                           have H' := zA H
                           clear H
                           obtain ⟨Ao79, co79, eo79⟩ := Kd.R_slice HO_11.out
                           subst eo79
                           go_wp2_with (first | ((with_reducible refine gate_callee (f := 52) rfl ?_); refine goesL_ (some 88) rfl rfl Tryd.func52 (by kernel_rfl) rfl #[.slice Ao79 t580.length co79, .int .i64 x12_4] rfl qL ?_; (with_reducible refine (cubbyref12_has.calls kj45 _ _ t580 x12_4 false _ ?side1 ?side2 A58.out).mono ?_); (case side1 => repeat (first | exact (Kd.R_reads' HO_11.out).2.2 | (with_reducible refine Kd.C_alloc ?_ _) | (with_reducible refine Kd.C_drewN ?_ _) | (with_reducible refine Kd.C_drew ?_))); (case side2 => exact (Kd.R_reads' HO_11.out).2.1); rintro e w' ⟨rfl, ⟨nd, rfl⟩⟩; refine ⟨_, rfl, ?_⟩; (try (rw [drewN_self wc]; generalize hq_ : World.drewN wc _ = wc; have n0_ : Aside0 (Kd.R (Kd.int .i64) 3 wc w.heap.size (fun k_ => some k_ ≠ (.slice Ao79 t580.length co79 : Value).ownBlock) (.slice Ao48 t577.length co48) t577) := ⟨by rw [← hq_]; exact (qR HO_10.out)⟩; have n1_ : Aside0 (Kd.R (Kd.int .i64) 3 wc w.heap.size (fun k_ => some k_ ≠ (.slice Ao48 t577.length co48 : Value).ownBlock) (.slice Ao79 t580.length co79) t580) := ⟨by rw [← hq_]; exact (qR HO_11.out)⟩; have n2_ : Aside0 (Kd.R kSpan 28 wc w.heap.size (fun _ => True) u3 x3_45) := ⟨by rw [← hq_]; exact (qR HO_3.out)⟩; have n3_ : Aside0 (Kd.S (Kd.slice 3 (Kd.int .i64)) 35 wc w.heap.size (fun k_ => some k_ ≠ (.slice Ao48 t577.length co48 : Value).ownBlock ∧ some k_ ≠ (.slice Ao79 t580.length co79 : Value).ownBlock) (.slice (some ad574) t562.length co33) t562) := ⟨by rw [← hq_]; exact (qS HO_4.out)⟩; have n4_ : Aside0 (wc.heap[gb557]? = some (.cells #[.string a0_0, .int .i64 a0_1, .int .i64 a0_2, .slice A0_3 l0_3.length c0_3] 24 (0, 0))) := ⟨by rw [← hq_]; exact (qK BK557.out)⟩; have n5_ : Aside0 (Below w.heap.size w wc) := ⟨by rw [← hq_]; exact qB⟩; clear HO_10 HO_11 HO_3 HO_4 BK557 HB hq_; have HO_10 := n0_; have HO_11 := n1_; have HO_3 := n2_; have HO_4 := n3_; have BK557 := n4_; have HB := n5_; clear n0_ n1_ n2_ n3_ n4_ n5_)); have z80_0 := bk4 BK557.out; have p593 : 0 ≤ (x7_2 : Int) := zB qA; have q593 : x7_2 < (l0_3.length : Int) := zB qA; obtain ⟨ad593, A593_0, c593_0, e593, hx593_0, hl593_0, hi593_0⟩ := at_LIns HR0_3.out x7_2 p593 q593; cases e593; replace hx593_0 := (HB.out.cell (zE w _ hx593_0)).trans hx593_0; have HR593_0 := zA hi593_0; have HC593_0 := zA hl593_0; clear hi593_0 hl593_0; replace p593 := eq_true p593; replace q593 := eq_true q593; have p594 : 0 ≤ (x8_3 : Int) := zB qA; have q594 : x8_3 < ((rd_LIns l0_3 x7_2).length : Int) := zB qA; obtain ⟨ad594, A594_5, c594_5, e594, hx594_0, hx594_1, hx594_2, hx594_3, hx594_4, hx594_5, hl594_5, hi594_5⟩ := at_TIns HR593_0.out x8_3 p594 q594; cases e594; replace hx594_0 := (HB.out.cell (zE w _ hx594_0)).trans hx594_0; replace hx594_1 := (HB.out.cell (zE w _ hx594_1)).trans hx594_1; replace hx594_2 := (HB.out.cell (zE w _ hx594_2)).trans hx594_2; replace hx594_3 := (HB.out.cell (zE w _ hx594_3)).trans hx594_3; replace hx594_4 := (HB.out.cell (zE w _ hx594_4)).trans hx594_4; replace hx594_5 := (HB.out.cell (zE w _ hx594_5)).trans hx594_5; have HR594_5 := zA hi594_5; have HC594_5 := zA hl594_5; clear hi594_5 hl594_5; replace p594 := eq_true p594; replace q594 := eq_true q594) | (go_at_call 18; (with_reducible refine (cubbyref07_Def.calls ((rd_TIns (rd_LIns l0_3 x7_2) x8_3).f0) ((rd_TIns (rd_LIns l0_3 x7_2) x8_3).f1) ((rd_TIns (rd_LIns l0_3 x7_2) x8_3).f2) ((rd_TIns (rd_LIns l0_3 x7_2) x8_3).f3) ((rd_TIns (rd_LIns l0_3 x7_2) x8_3).f4) _ _ ((rd_TIns (rd_LIns l0_3 x7_2) x8_3).f5) t595 _ ?side1 ?side2 A73.out).mono ?_); (case side1 => exact qCB HR594_5.out); (case side2 => exact HC594_5.out); (try clear A73); rintro e w81 ⟨rfl, hb⟩; replace HO_3 := zA (Kd.R_below (qR HO_3.out) hb); replace HO_4 := zA (Kd.S_below (qS HO_4.out) hb); replace HO_10 := zA (Kd.R_below (qR HO_10.out) hb); replace HO_11 := zA (Kd.R_below (qR HO_11.out) hb); replace BK557 := qW BK557 hb; replace HB := qH hb; (try clear hb); obtain ⟨Ao82, co82, eo82⟩ := Kd.R_slice HO_3.out; subst eo82; have p596 : 0 ≤ (x12_4 : Int) := zB qA; have q596 : x12_4 < (x3_45.length : Int) := zB qA; obtain ⟨ad596, e596, hx596_0, hx596_1⟩ := at_TSpan (Kd.R_reads' HO_3.out).2.2 x12_4 p596 q596; cases e596; replace p596 := eq_true p596; replace q596 := eq_true q596) | ((with_reducible refine gate_callee (f := 51) rfl ?_); refine goesL_ (some 111) rfl rfl Tryd.func51 (by kernel_rfl) rfl #[.agg #[.int .i64 ((rd_TSpan x3_45 x12_4).f0), .int .i64 ((rd_TSpan x3_45 x12_4).f1)], .int .i64 (wrap64 ((wrap64 (2 * (rd (rd_LInt t562 x7_2) x8_3))) + 1))] rfl qL ?_; (with_reducible refine (cubbyref12_take.calls ((rd_TSpan x3_45 x12_4).f0) ((rd_TSpan x3_45 x12_4).f1) (wrap64 ((wrap64 (2 * (rd (rd_LInt t562 x7_2) x8_3))) + 1)) t597 t598 _ A77.out).mono ?_); rintro e w83 ⟨rfl, hb⟩; refine ⟨_, rfl, ?_⟩; replace HO_3 := zA (Kd.R_below (qR HO_3.out) hb); replace HO_4 := zA (Kd.S_below (qS HO_4.out) hb); replace HO_10 := zA (Kd.R_below (qR HO_10.out) hb); replace HO_11 := zA (Kd.R_below (qR HO_11.out) hb); replace BK557 := qW BK557 hb; replace HB := qH hb; (try clear hb); have p78 : 0 ≤ (x12_4 : Int) := zB qA; have q78 : (x12_4 : Int) < ((x3_45.length : Int) : Int) := zB qA; obtain ⟨go78, co78, eo78, gb78, gl78, cl78, HG78⟩ := Kd.R_form HO_3.out (by omega); (first | cases eo78 | (injection eo78 with ea_ en_ ec_; (first | subst ea_ | (injection ea_ with ea_; subst ea_)); subst ec_; clear en_)); have GB78 := zA gb78; have GG78 := zA HG78; clear gb78 gl78 HG78; (first | simp only [add_plain] at hx596_0 | skip); (first | simp only [add_plain] at hx596_1 | skip); obtain ⟨ce78, hcl78, hM78, hcc78, hfr78⟩ := Kd.R_elem HO_3.out zSpan (x12_4 : Int) p78 q78; obtain rfl := kSpan_openM hM78; have hx78_0 : w83.cell? ⟨go78, (x12_4 : Int).toNat * 2, none⟩ = some (.int .i64 ((rd_TSpan x3_45 x12_4).f0)) := hcc78 0 _ rfl; have hx78_1 : w83.cell? ⟨go78, (x12_4 : Int).toNat * 2 + 1, none⟩ = some (.int .i64 ((rd_TSpan x3_45 x12_4).f1)) := hcc78 1 _ rfl; have hf78_0 : w83.frozen? ⟨go78, (x12_4 : Int).toNat * 2, none⟩ = false := hfr78 0; have hf78_1 : w83.frozen? ⟨go78, (x12_4 : Int).toNat * 2 + 1, none⟩ = false := hfr78 1; clear hcl78 hcc78 hfr78 hM78; replace p78 := eq_true p78; replace q78 := eq_true q78; have HX84 := zA (show Kd.R kSpan 28 w83 w.heap.size (fun _ => True) (.slice (some ⟨go78, 0, none⟩) x3_45.length co82) x3_45 from (qR HO_3.out)); obtain ⟨ce84, hcl84, hM84, hcc84, hfr84⟩ := Kd.R_elem HX84.out zSpan (x12_4 : Int) (zB qA) (by have h_ : (x12_4 : Int) < ((x3_45.length : Int) : Int) := zB qA; first | exact h_ | (have e_ := (Kd.R_reads' HO_3.out).1; omega) | simpa using h_); obtain rfl := kSpan_openM hM84; have HP84 := Kd.R_seg HX84.out (x12_4 : Int) (zB qA) (by have h_ : (x12_4 : Int) < ((x3_45.length : Int) : Int) := zB qA; first | exact h_ | (have e_ := (Kd.R_reads' HO_3.out).1; omega) | simpa using h_) (seg := [.int .i64 t597, .int .i64 t598]) (j := 0) hcl84 hcc84 (show 2 ≤ 2 from by decide) (x' := (⟨t597, t598⟩ : SSpan)) (kSpan_mkM _ _ _ (⟨t597, t598⟩ : SSpan) ) (fun _ hk => hk); have hx84_0 := hcc84 0 _ rfl; (try simp only [show (kSpan).sz = 2 from rfl, Nat.mul_one, Nat.add_zero] at hx84_0); have hf84_0 := hfr84 0; (try simp only [show (kSpan).sz = 2 from rfl, Nat.mul_one, Nat.add_zero] at hf84_0); have hx84_1 := hcc84 1 _ rfl; (try simp only [show (kSpan).sz = 2 from rfl, Nat.mul_one, Nat.add_zero] at hx84_1); have hf84_1 := hfr84 1; (try simp only [show (kSpan).sz = 2 from rfl, Nat.mul_one, Nat.add_zero] at hf84_1); clear hcl84 hcc84 hfr84 hM84) | ((with_reducible refine gate_store (t := 28) (p := 112) rfl ?_); refine store_event (t := 28) (p := 112) (v := ?vo_w85) (w1 := ((w83.setCell ⟨go78, (x12_4 : Int).toNat * 2, none⟩ (.int .i64 t597)).setCell ⟨go78, (x12_4 : Int).toNat * 2 + 1, none⟩ (.int .i64 t598))) (by rfl) (by rfl) (by rfl) ?hr ?_; (case hr => go_simp <;> rfl); intro w85 hw; have hg : w83.grownBy w85 (some go78) := (by rw [hw]; exact HP84.2); have hp_ : Kd.R kSpan 28 w85 w.heap.size (fun _ => True) (.slice (some ⟨go78, 0, none⟩) x3_45.length co82) y599 := (by rw [hw, Ny599.out]; exact HP84.1); clear HP84; replace HO_4 := zA (Kd.S_over' (v := (.slice (some ⟨go78, 0, none⟩) x3_45.length co82)) (qS HO_4.out) (Kd.R_typed HO_3.out) (by decide) hg); replace HO_10 := zA (Kd.R_over' (v := (.slice (some ⟨go78, 0, none⟩) x3_45.length co82)) (qR HO_10.out) (Kd.R_typed HO_3.out) (by decide) hg); replace HO_11 := zA (Kd.R_over' (v := (.slice (some ⟨go78, 0, none⟩) x3_45.length co82)) (qR HO_11.out) (Kd.R_typed HO_3.out) (by decide) hg); replace BK557 := zA (blk_grown (qK BK557.out) hg (Kd.R_ne HO_3.out BK557.out (by decide))); replace HO_3 := zA (hp_); replace HB := zA ((by rw [hw]; exact below_set (below_set (HB.out) GB78.out) GB78.out : Below w.heap.size w w85)); clear hg hw hp_))
                           go_roundg kj45
                           case measure => have := HK1.out; have := HK2.out; have := HK3.out; have := HK4.out; have := HJ45.out; omega
                           case rel => exact ⟨(y599), (wrap64 (x12_4 + 1)), qT, H', ⟨by have := HK1.out; have := HK2.out; have := HK3.out; have := HK4.out; have := HJ45.out; omega⟩, ⟨qR HO_3.out⟩, ⟨qS HO_4.out⟩, ⟨qR HO_10.out⟩, ⟨qR HO_11.out⟩, ⟨qK BK557.out⟩, ⟨qB⟩⟩
                          ·rw [zD c76] at H
                           exact absurd H (by simp)
                         ·rw [zD c75] at H
                          exact absurd H (by simp)
                        ·rw [zD c74] at H
                         obtain ⟨c74b0, c74b1⟩ := qn c74
                         have H' := zA H
                         clear H
                         obtain ⟨Ao86, co86, eo86⟩ := Kd.R_slice HO_11.out
                         subst eo86
                         go_wp2_with (first | ((with_reducible refine gate_callee (f := 52) rfl ?_); refine goesL_ (some 88) rfl rfl Tryd.func52 (by kernel_rfl) rfl #[.slice Ao86 t580.length co86, .int .i64 x12_4] rfl qL ?_; (with_reducible refine (cubbyref12_has.calls kj45 _ _ t580 x12_4 false _ ?side1 ?side2 A58.out).mono ?_); (case side1 => repeat (first | exact (Kd.R_reads' HO_11.out).2.2 | (with_reducible refine Kd.C_alloc ?_ _) | (with_reducible refine Kd.C_drewN ?_ _) | (with_reducible refine Kd.C_drew ?_))); (case side2 => exact (Kd.R_reads' HO_11.out).2.1); rintro e w' ⟨rfl, ⟨nd, rfl⟩⟩; refine ⟨_, rfl, ?_⟩; have z87_0 := bk4 BK557.out; have p593 : 0 ≤ (x7_2 : Int) := zB qA; have q593 : x7_2 < (l0_3.length : Int) := zB qA; obtain ⟨ad593, A593_0, c593_0, e593, hx593_0, hl593_0, hi593_0⟩ := at_LIns HR0_3.out x7_2 p593 q593; cases e593; replace hx593_0 := (HB.out.cell (zE w _ hx593_0)).trans hx593_0; have HR593_0 := zA hi593_0; have HC593_0 := zA hl593_0; clear hi593_0 hl593_0; replace p593 := eq_true p593; replace q593 := eq_true q593; have p594 : 0 ≤ (x8_3 : Int) := zB qA; have q594 : x8_3 < ((rd_LIns l0_3 x7_2).length : Int) := zB qA; obtain ⟨ad594, A594_5, c594_5, e594, hx594_0, hx594_1, hx594_2, hx594_3, hx594_4, hx594_5, hl594_5, hi594_5⟩ := at_TIns HR593_0.out x8_3 p594 q594; cases e594; replace hx594_0 := (HB.out.cell (zE w _ hx594_0)).trans hx594_0; replace hx594_1 := (HB.out.cell (zE w _ hx594_1)).trans hx594_1; replace hx594_2 := (HB.out.cell (zE w _ hx594_2)).trans hx594_2; replace hx594_3 := (HB.out.cell (zE w _ hx594_3)).trans hx594_3; replace hx594_4 := (HB.out.cell (zE w _ hx594_4)).trans hx594_4; replace hx594_5 := (HB.out.cell (zE w _ hx594_5)).trans hx594_5; have HR594_5 := zA hi594_5; have HC594_5 := zA hl594_5; clear hi594_5 hl594_5; replace p594 := eq_true p594; replace q594 := eq_true q594) | (go_at_call 18; (with_reducible refine (cubbyref07_Def.calls ((rd_TIns (rd_LIns l0_3 x7_2) x8_3).f0) ((rd_TIns (rd_LIns l0_3 x7_2) x8_3).f1) ((rd_TIns (rd_LIns l0_3 x7_2) x8_3).f2) ((rd_TIns (rd_LIns l0_3 x7_2) x8_3).f3) ((rd_TIns (rd_LIns l0_3 x7_2) x8_3).f4) _ _ ((rd_TIns (rd_LIns l0_3 x7_2) x8_3).f5) t595 _ ?side1 ?side2 A73.out).mono ?_); (case side1 => repeat (first | exact (Kd.C_below HR594_5.out qB) | (with_reducible refine Kd.C_alloc ?_ _) | (with_reducible refine Kd.C_drewN ?_ _) | (with_reducible refine Kd.C_drew ?_))); (case side2 => exact HC594_5.out); (try clear A73); rintro e w88 ⟨rfl, hb⟩; replace HO_3 := zA (Kd.R_below (qR HO_3.out) hb); replace HO_4 := zA (Kd.S_below (qS HO_4.out) hb); replace HO_10 := zA (Kd.R_below (qR HO_10.out) hb); replace HO_11 := zA (Kd.R_below (qR HO_11.out) hb); replace BK557 := qW BK557 hb; replace HB := qH hb; (try clear hb)))
                         go_roundg kj45
                         case measure => have := HK1.out; have := HK2.out; have := HK3.out; have := HK4.out; have := HJ45.out; omega
                         case rel => exact ⟨(x3_45), (wrap64 (x12_4 + 1)), qT, H', ⟨by have := HK1.out; have := HK2.out; have := HK3.out; have := HK4.out; have := HJ45.out; omega⟩, ⟨qR HO_3.out⟩, ⟨qS HO_4.out⟩, ⟨qR HO_10.out⟩, ⟨qR HO_11.out⟩, ⟨qK BK557.out⟩, ⟨qB⟩⟩
                       ·rw [zD c72] at H
                        exact absurd H (by simp)
                      ·rw [zD c71] at H
                       exact absurd H (by simp)
                     ·rw [zD c70] at H
                      exact absurd H (by simp)
                    ·rw [zD c69] at H
                     exact absurd H (by simp)
                ·rw [zD c44] at H
                 have c44b0 := zG c44
                 clear c44
                 have H' := zA H
                 clear H
                 have z89_0 := bk4 BK557.out
                 go_wp2
                 go_roundg k4
                 case measure => have := HK1.out; have := HK2.out; have := HK3.out; have := HK4.out; omega
                 case rel => exact ⟨(x3_4), (wrap64 (x8_3 + 1)), qT, H', ⟨by have := HK1.out; have := HK2.out; have := HK3.out; have := HK4.out; omega⟩, ⟨qR HO_3.out⟩, ⟨by (with_reducible repeat (first | apply Kd.S_alloc | apply Kd.S_drewN | apply Kd.S_drew)); exact Kd.S_mono HO_4.out (fun _ hk => trivial)⟩, ⟨qK BK557.out⟩, ⟨qB⟩⟩
             ·rw [zD c37] at H
              exact absurd H (by simp)
            ·rw [zD c36] at H
             have c36b0 := zG c36
             clear c36
             have H' := zA H
             clear H
             have p574 : 0 ≤ (x7_2 : Int) := zB qA
             have q574 : x7_2 < (t562.length : Int) := zB qA
             obtain ⟨ad574, A574_0, c574_0, e574, hx574_0, hl574_0, hi574_0⟩ := at_LInt (Kd.S_reads' HO_4.out).2.2 x7_2 p574 q574
             cases e574
             obtain ⟨ce574, hce574, hMe574, hcc574⟩ := Kd.S_get HO_4.out [] x7_2 p574 (by first | exact q574 | exact zB qA | (have e_ := (Kd.S_reads' HO_4.out).1; omega))
             obtain ⟨ve574_0, rfl, ge574_0⟩ := hMe574
             have hv574_0 := hcc574 0 _ rfl
             rw [Nat.add_zero, show ((Kd.slice 3 (Kd.int .i64))).sz = 1 from rfl, Nat.mul_one] at hv574_0
             replace hv574_0 := zI (hv574_0.symm.trans hx574_0)
             rw [hv574_0] at ge574_0
             have HL574_0 := zA (show Kd.R (Kd.int .i64) 3 _ _ _ _ (rd_LInt t562 x7_2) from ge574_0)
             clear hv574_0 ge574_0
             clear hcc574 hce574
             have HR574_0 := zA hi574_0
             have HC574_0 := zA hl574_0
             clear hi574_0 hl574_0
             replace p574 := eq_true p574
             replace q574 := eq_true q574
             go_wp2
             go_roundg k3
             case measure => have := HK1.out; have := HK2.out; have := HK3.out; omega
             case rel => exact ⟨(x3_3), (wrap64 (x7_2 + 1)), qT, H', ⟨by have := HK1.out; have := HK2.out; have := HK3.out; omega⟩, ⟨qR HO_3.out⟩, ⟨qS HO_4.out⟩, ⟨qK BK557.out⟩, ⟨qB⟩⟩
           ·rw [zD c35] at H
            exact absurd H (by simp)
          ·rw [zD c34] at H
           exact absurd H (by simp)
       ·rw [zD c32] at H
        have c32b0 := zG c32
        clear c32
        obtain rfl := zI H
        obtain ⟨Ao90, co90, eo90⟩ := Kd.S_slice HO_4.out
        subst eo90
        go_wp2
        go_ret
        exact ⟨_, qE, qR HO_3.out, qB⟩
 ·rw [zD c3] at H
  obtain ⟨c3b0, c3b1⟩ := qn c3
  obtain rfl := zI H
  go_enter Tryd.func21, Tryd.ntmps21
  go_wp2_with (first | ((with_reducible refine gate_dst (N := 1) rfl ?_); refine box_event (by rfl) (N := 1) (by rfl) (cs := #[.string a0_0, .int .i64 a0_1, .int .i64 a0_2, .slice A0_3 l0_3.length c0_3]) (t := 24) ?hr ?_; (case hr => go_simp <;> rfl); intro gb557 hg w91 hbox hb; have BK557 := zA (hbox); have GW557 := qG hg; have GE557 := GW557; replace HB := qH hb; clear hb hbox hg; have z92_0 := bk4 BK557.out) | ((with_reducible refine gate_callee (f := 38) rfl ?_); refine goesL_ (some 14) rfl rfl Tryd.func38 (by kernel_rfl) rfl #[.agg #[.string a0_0, .int .i64 a0_1, .int .i64 a0_2, .slice A0_3 l0_3.length c0_3]] rfl qL ?_; (with_reducible refine (cubbyref11_Check.calls k a0_0 a0_1 a0_2 _ _ l0_3 t558 _ ?side1 ?side2 A2.out).mono ?_); (case side1 => exact qCB HR0_3.out); (case side2 => exact HC0_3.out); rintro e w93 ⟨rfl, hb⟩; refine ⟨_, rfl, ?_⟩; replace BK557 := qW BK557 hb; replace HB := qH hb; (try clear hb)))
  go_ret
  exact ⟨_, qE, by first | exact Kd.R_nil _ _ _ _ _ | exact Kd.N_nil _ _ _ _ _ | exact Kd.V_nil _ _ _ _ _ | exact Kd.Q_nil _ _ _ _ _ | exact Kd.S_nil _ _ _ _ _, qB⟩

def span_Meet.f (a0_0 : Int) (a0_1 : Int) (a1_0 : Int) (a1_1 : Int) : Option (Bool) := if a0_0 ≥ 0 then (if a1_0 ≥ 0 then (if a0_0 ≤ a0_1 then (if a1_0 ≤ a1_1 then (some (decide ((mx a0_0 a1_0) ≤ (mn a0_1 a1_1)))) else (some false)) else (some false)) else (some false)) else (some false)
set_option maxHeartbeats 8000000 in
set_option maxRecDepth 100000 in
theorem span_Meet.calls (a0_0 : Int) (a0_1 : Int) (a1_0 : Int) (a1_1 : Int) (r : Bool) (w : World) (h : span_Meet.f a0_0 a0_1 a1_0 a1_1 = some r) :
 Calls Tryd.prog 12 #[.agg #[.int .i64 a0_0, .int .i64 a0_1], .agg #[.int .i64 a1_0, .int .i64 a1_1]] w fun e w' => e = .returned (.bool r) ∧ Below w.heap.size w w' := by
 have hu28 := Tryd.underlying28
 have HB := zA (Below.refl w.heap.size w)
 have H := h; clear h; unfold span_Meet.f at H
 by_cases c3 : a0_0 ≥ 0
 ·rw [zC c3] at H
  have c3b0 : decide (0 ≤ a0_0) = true := zF c3
  clear c3
  by_cases c4 : a1_0 ≥ 0
  ·rw [zC c4] at H
   have c4b0 : decide (0 ≤ a1_0) = true := zF c4
   clear c4
   by_cases c5 : a0_0 ≤ a0_1
   ·rw [zC c5] at H
    have c5b0 := zF c5
    clear c5
    by_cases c6 : a1_0 ≤ a1_1
    ·rw [zC c6] at H
     have c6b0 := zF c6
     clear c6
     obtain ⟨ji7, hji7⟩ : ∃ j_ : Int, (mx a0_0 a1_0) = j_ := ⟨_, rfl⟩
     replace H : (some (decide ((ji7) ≤ (mn a0_1 a1_1)))) = some r := by first | (rw [hji7] at H; exact H) | (simp only [hji7] at H ⊢; exact H)
     have hji7_ : (if a0_0 < a1_0 then a1_0 else a0_0) = ji7 := hji7
     obtain ⟨ji8, hji8⟩ : ∃ j_ : Int, (mn a0_1 a1_1) = j_ := ⟨_, rfl⟩
     replace H : (some (decide ((ji7) ≤ (ji8)))) = some r := by first | (rw [hji8] at H; exact H) | (simp only [hji8] at H ⊢; exact H)
     have hji8_ : (if a1_1 < a0_1 then a1_1 else a0_1) = ji8 := hji8
     obtain rfl := zI H
     go_enter Tryd.func12, Tryd.ntmps12
     go_wp2_with (first | ((with_reducible refine gate_dst (N := 2) rfl ?_); (try (refine gate_guard (by rfl) ?_; dsimp only)); refine box_event (by rfl) (N := 2) (by rfl) (cs := #[.int .i64 a0_0, .int .i64 a0_1]) (t := 28) ?hr ?_; (case hr => go_simp <;> rfl); intro gb263 hg w9 hbox hb; have BK263 := zA (hbox); have GW263 := qG hg; have GE263 := GW263; replace HB := qH hb; clear hb hbox hg) | ((with_reducible refine gate_dst (N := 3) rfl ?_); (try (refine gate_guard (by rfl) ?_; dsimp only)); refine box_event (by rfl) (N := 3) (by rfl) (cs := #[.int .i64 a1_0, .int .i64 a1_1]) (t := 28) ?hr ?_; (case hr => go_simp <;> rfl); intro gb264 hg w10 hbox hb; have BK264 := zA (hbox); have GW264 := qG hg; have GE264 := GW264; replace HB := qH hb; have NB263_264 := zA ((by rw [hg]; exact Nat.ne_of_lt (blk_lt (g := gb263) (o := .cells #[.int .i64 a0_0, .int .i64 a0_1] 28 (0, 0)) (qK BK263.out)) : gb263 ≠ gb264)); have NB264_263 := zA ((by rw [hg]; exact Nat.ne_of_gt (blk_lt (g := gb263) (o := .cells #[.int .i64 a0_0, .int .i64 a0_1] 28 (0, 0)) (qK BK263.out)) : gb264 ≠ gb263)); replace BK263 := qW BK263 hb; clear hb hbox hg; have hnb11 := NB263_264.out; have hnc11 := NB264_263.out; have z12_0 := bk2 BK263.out; have z13_0 := bk2 BK264.out))
     go_ret
     exact ⟨by first | rfl | (simp [errW_none, errW_some] <;> rfl) | (simp only [← hji7, ← hji8]; first | rfl | (simp [errW_none, errW_some] <;> rfl)) | (simp [*, errW_none, errW_some] <;> rfl), qB⟩
    ·rw [zD c6] at H
     have c6b0 := zG c6
     clear c6
     obtain rfl := zI H
     go_enter Tryd.func12, Tryd.ntmps12
     go_wp2_with (first | ((with_reducible refine gate_dst (N := 2) rfl ?_); (try (refine gate_guard (by rfl) ?_; dsimp only)); refine box_event (by rfl) (N := 2) (by rfl) (cs := #[.int .i64 a0_0, .int .i64 a0_1]) (t := 28) ?hr ?_; (case hr => go_simp <;> rfl); intro gb263 hg w14 hbox hb; have BK263 := zA (hbox); have GW263 := qG hg; have GE263 := GW263; replace HB := qH hb; clear hb hbox hg) | ((with_reducible refine gate_dst (N := 3) rfl ?_); (try (refine gate_guard (by rfl) ?_; dsimp only)); refine box_event (by rfl) (N := 3) (by rfl) (cs := #[.int .i64 a1_0, .int .i64 a1_1]) (t := 28) ?hr ?_; (case hr => go_simp <;> rfl); intro gb264 hg w15 hbox hb; have BK264 := zA (hbox); have GW264 := qG hg; have GE264 := GW264; replace HB := qH hb; have NB263_264 := zA ((by rw [hg]; exact Nat.ne_of_lt (blk_lt (g := gb263) (o := .cells #[.int .i64 a0_0, .int .i64 a0_1] 28 (0, 0)) (qK BK263.out)) : gb263 ≠ gb264)); have NB264_263 := zA ((by rw [hg]; exact Nat.ne_of_gt (blk_lt (g := gb263) (o := .cells #[.int .i64 a0_0, .int .i64 a0_1] 28 (0, 0)) (qK BK263.out)) : gb264 ≠ gb263)); replace BK263 := qW BK263 hb; clear hb hbox hg; have hnb16 := NB263_264.out; have hnc16 := NB264_263.out; have z17_0 := bk2 BK263.out; have z18_0 := bk2 BK264.out))
     go_ret
     exact ⟨qE, qB⟩
   ·rw [zD c5] at H
    have c5b0 := zG c5
    clear c5
    obtain rfl := zI H
    go_enter Tryd.func12, Tryd.ntmps12
    go_wp2_with (first | ((with_reducible refine gate_dst (N := 2) rfl ?_); (try (refine gate_guard (by rfl) ?_; dsimp only)); refine box_event (by rfl) (N := 2) (by rfl) (cs := #[.int .i64 a0_0, .int .i64 a0_1]) (t := 28) ?hr ?_; (case hr => go_simp <;> rfl); intro gb263 hg w19 hbox hb; have BK263 := zA (hbox); have GW263 := qG hg; have GE263 := GW263; replace HB := qH hb; clear hb hbox hg) | ((with_reducible refine gate_dst (N := 3) rfl ?_); (try (refine gate_guard (by rfl) ?_; dsimp only)); refine box_event (by rfl) (N := 3) (by rfl) (cs := #[.int .i64 a1_0, .int .i64 a1_1]) (t := 28) ?hr ?_; (case hr => go_simp <;> rfl); intro gb264 hg w20 hbox hb; have BK264 := zA (hbox); have GW264 := qG hg; have GE264 := GW264; replace HB := qH hb; have NB263_264 := zA ((by rw [hg]; exact Nat.ne_of_lt (blk_lt (g := gb263) (o := .cells #[.int .i64 a0_0, .int .i64 a0_1] 28 (0, 0)) (qK BK263.out)) : gb263 ≠ gb264)); have NB264_263 := zA ((by rw [hg]; exact Nat.ne_of_gt (blk_lt (g := gb263) (o := .cells #[.int .i64 a0_0, .int .i64 a0_1] 28 (0, 0)) (qK BK263.out)) : gb264 ≠ gb263)); replace BK263 := qW BK263 hb; clear hb hbox hg; have hnb21 := NB263_264.out; have hnc21 := NB264_263.out; have z22_0 := bk2 BK263.out; have z23_0 := bk2 BK264.out))
    go_ret
    exact ⟨qE, qB⟩
  ·rw [zD c4] at H
   have c4b0 : decide (0 ≤ a1_0) = false := zG c4
   clear c4
   obtain rfl := zI H
   go_enter Tryd.func12, Tryd.ntmps12
   go_wp2_with (first | ((with_reducible refine gate_dst (N := 2) rfl ?_); (try (refine gate_guard (by rfl) ?_; dsimp only)); refine box_event (by rfl) (N := 2) (by rfl) (cs := #[.int .i64 a0_0, .int .i64 a0_1]) (t := 28) ?hr ?_; (case hr => go_simp <;> rfl); intro gb263 hg w24 hbox hb; have BK263 := zA (hbox); have GW263 := qG hg; have GE263 := GW263; replace HB := qH hb; clear hb hbox hg) | ((with_reducible refine gate_dst (N := 3) rfl ?_); (try (refine gate_guard (by rfl) ?_; dsimp only)); refine box_event (by rfl) (N := 3) (by rfl) (cs := #[.int .i64 a1_0, .int .i64 a1_1]) (t := 28) ?hr ?_; (case hr => go_simp <;> rfl); intro gb264 hg w25 hbox hb; have BK264 := zA (hbox); have GW264 := qG hg; have GE264 := GW264; replace HB := qH hb; have NB263_264 := zA ((by rw [hg]; exact Nat.ne_of_lt (blk_lt (g := gb263) (o := .cells #[.int .i64 a0_0, .int .i64 a0_1] 28 (0, 0)) (qK BK263.out)) : gb263 ≠ gb264)); have NB264_263 := zA ((by rw [hg]; exact Nat.ne_of_gt (blk_lt (g := gb263) (o := .cells #[.int .i64 a0_0, .int .i64 a0_1] 28 (0, 0)) (qK BK263.out)) : gb264 ≠ gb263)); replace BK263 := qW BK263 hb; clear hb hbox hg; have hnb26 := NB263_264.out; have hnc26 := NB264_263.out; have z27_0 := bk2 BK263.out; have z28_0 := bk2 BK264.out))
   go_ret
   exact ⟨qE, qB⟩
 ·rw [zD c3] at H
  have c3b0 : decide (0 ≤ a0_0) = false := zG c3
  clear c3
  obtain rfl := zI H
  go_enter Tryd.func12, Tryd.ntmps12
  go_wp2_with (first | ((with_reducible refine gate_dst (N := 2) rfl ?_); (try (refine gate_guard (by rfl) ?_; dsimp only)); refine box_event (by rfl) (N := 2) (by rfl) (cs := #[.int .i64 a0_0, .int .i64 a0_1]) (t := 28) ?hr ?_; (case hr => go_simp <;> rfl); intro gb263 hg w29 hbox hb; have BK263 := zA (hbox); have GW263 := qG hg; have GE263 := GW263; replace HB := qH hb; clear hb hbox hg) | ((with_reducible refine gate_dst (N := 3) rfl ?_); (try (refine gate_guard (by rfl) ?_; dsimp only)); refine box_event (by rfl) (N := 3) (by rfl) (cs := #[.int .i64 a1_0, .int .i64 a1_1]) (t := 28) ?hr ?_; (case hr => go_simp <;> rfl); intro gb264 hg w30 hbox hb; have BK264 := zA (hbox); have GW264 := qG hg; have GE264 := GW264; replace HB := qH hb; have NB263_264 := zA ((by rw [hg]; exact Nat.ne_of_lt (blk_lt (g := gb263) (o := .cells #[.int .i64 a0_0, .int .i64 a0_1] 28 (0, 0)) (qK BK263.out)) : gb263 ≠ gb264)); have NB264_263 := zA ((by rw [hg]; exact Nat.ne_of_gt (blk_lt (g := gb263) (o := .cells #[.int .i64 a0_0, .int .i64 a0_1] 28 (0, 0)) (qK BK263.out)) : gb264 ≠ gb263)); replace BK263 := qW BK263 hb; clear hb hbox hg; have hnb31 := NB263_264.out; have hnc31 := NB264_263.out; have z32_0 := bk2 BK263.out))
  go_ret
  exact ⟨qE, qB⟩
end Go.Proofs.YtpkimbkjjmbmcaaDoor.Q
namespace Go.Proofs.YtpkimbkjjmbmcaaDoor.Q
open Go.RowKit Go.Shelf Go.Proofs.YtpkimbkjjmbmcaaDoorW.PrintWords Go.Proofs.YtpkimbkjjmbmcaaDoorW.PrintLast Go.Proofs.YtpkimbkjjmbmcaaDoorW.PrintMore
set_option linter.unusedVariables false
def nameCut : ByteArray := ⟨#[97, 98, 99, 100, 101, 102, 103, 104, 105, 106, 107, 108, 109, 110, 111, 112, 113, 114, 115, 116, 117, 118, 119, 120, 121, 122, 48, 49, 50, 51, 52, 53, 54, 55, 56, 57]⟩
def strings_Trim.f (a0 a1 : ByteArray) : Option ByteArray := if a0.size ≤ 9223372036854775807 ∧ a1 = nameCut then some ⟨(Lib.trimS a0.data.toList a1.data.toList).toArray⟩ else none
theorem strings_Trim.calls (a0 a1 : ByteArray) (r : ByteArray) (w : World) (h : strings_Trim.f a0 a1 = some r) :
 Calls Tryd.prog 132 #[.string a0, .string a1] w fun e w' => e = .returned (.string r) ∧ Below w.heap.size w w' := by
 unfold strings_Trim.f at h
 split at h
 ·next c =>
  obtain ⟨c0, rfl⟩ := c
  obtain rfl := zI h
  exact Any.strings_Trim_laid Tryd.lays160 (by kernel_rfl) a0 nameCut w c0 (by decide) (ascii_of_all (by decide))
 ·exact absurd h (by simp)
end Go.Proofs.YtpkimbkjjmbmcaaDoor.Q
namespace Go.Proofs.YtpkimbkjjmbmcaaDoor.Q
open Go.RowKit Go.Proofs.YtpkimbkjjmbmcaaDoorW.PrintWords Go.Proofs.YtpkimbkjjmbmcaaDoorW.PrintLast Go.Proofs.YtpkimbkjjmbmcaaDoorW.PrintMore
attribute [local go_sem] max2_int min2_int max_two min_two max_three min_three max_four min_four
set_option linter.unusedVariables false
set_option linter.unusedSimpArgs false

def ir_Name.f (a0 : ByteArray) : Option (Bool) := if a0.toList = ([] : List UInt8) then (some false) else (if (a0.size : Int) > 12 then (some false) else (if 0 < (a0.size : Int) then (if (bt a0 0) < 97 then (some false) else ((strings_Trim.f a0 (⟨#[97, 98, 99, 100, 101, 102, 103, 104, 105, 106, 107, 108, 109, 110, 111, 112, 113, 114, 115, 116, 117, 118, 119, 120, 121, 122, 48, 49, 50, 51, 52, 53, 54, 55, 56, 57]⟩ : ByteArray)).bind fun t266 => (some (t266.toList == ([] : List UInt8))))) else (none)))
set_option maxHeartbeats 8000000 in
set_option maxRecDepth 100000 in
theorem ir_Name.calls (a0 : ByteArray) (r : Bool) (w : World) (h : ir_Name.f a0 = some r) :
 Calls Tryd.prog 93 #[.string a0] w fun e w' => e = .returned (.bool r) ∧ Below w.heap.size w w' := by
 have HB := zA (Below.refl w.heap.size w)
 have H := h; clear h; unfold ir_Name.f at H
 by_cases c2 : a0.toList = ([] : List UInt8)
 ·rw [zC c2] at H
  obtain ⟨c2b0, c2b1⟩ := qe c2; clear c2
  obtain rfl := zI H
  go_enter Tryd.func93, Tryd.ntmps93
  go_wp2
  go_ret
  exact ⟨qE, qB⟩
 ·rw [zD c2] at H
  obtain ⟨c2b0, c2b1⟩ := qn c2
  by_cases c3 : (a0.size : Int) > 12
  ·rw [zC c3] at H
   have c3b0 : decide (12 < (a0.size : Int)) = true := zF c3
   have c3b1 : decide (12 < a0.size) = true := zF (by omega)
   clear c3
   obtain rfl := zI H
   go_enter Tryd.func93, Tryd.ntmps93
   go_wp2
   go_ret
   exact ⟨qE, qB⟩
  ·rw [zD c3] at H
   have c3b0 : decide (12 < (a0.size : Int)) = false := zG c3
   have c3b1 : decide (12 < a0.size) = false := zG (by omega)
   clear c3
   by_cases c4 : 0 < (a0.size : Int)
   ·rw [zC c4] at H
    have c4b0 := zF c4
    have c4b1 : decide (0 < a0.size) = true := zF (by omega)
    clear c4
    by_cases c6 : (bt a0 0) < 97
    ·rw [zC c6] at H
     have c6b0 := zF c6
     clear c6
     obtain rfl := zI H
     have p5 : 0 ≤ (0 : Int) := (by omega)
     have q5 : 0 < a0.size := (by have : (0 : Int) < (a0.size : Int) := zB qA; omega)
     have hx5 : ∀ h : 0 < a0.size, ((a0[0]'h).toNat : Int) = bt a0 0 := bt_at a0 0
     clear p5
     have qi5 : (0 < (a0.size : Int)) = True := eq_true (zB qA)
     replace q5 := eq_true q5
     go_enter Tryd.func93, Tryd.ntmps93
     go_wp2
     go_ret
     exact ⟨qE, qB⟩
    ·rw [zD c6] at H
     have c6b0 := zG c6
     clear c6
     replace H := qb H; obtain ⟨t266, A7, H⟩ := H
     obtain rfl := zI H
     have p5 : 0 ≤ (0 : Int) := (by omega)
     have q5 : 0 < a0.size := (by have : (0 : Int) < (a0.size : Int) := zB qA; omega)
     have hx5 : ∀ h : 0 < a0.size, ((a0[0]'h).toNat : Int) = bt a0 0 := bt_at a0 0
     clear p5
     have qi5 : (0 < (a0.size : Int)) = True := eq_true (zB qA)
     replace q5 := eq_true q5
     go_enter Tryd.func93, Tryd.ntmps93
     go_wp2_with (first | ((with_reducible refine gate_callee (f := 132) rfl ?_); refine goesL_ (some 16) rfl rfl Tryd.func132 (by kernel_rfl) rfl #[.string a0, .string (⟨#[97, 98, 99, 100, 101, 102, 103, 104, 105, 106, 107, 108, 109, 110, 111, 112, 113, 114, 115, 116, 117, 118, 119, 120, 121, 122, 48, 49, 50, 51, 52, 53, 54, 55, 56, 57]⟩ : ByteArray)] rfl qL ?_; (with_reducible refine (strings_Trim.calls a0 (⟨#[97, 98, 99, 100, 101, 102, 103, 104, 105, 106, 107, 108, 109, 110, 111, 112, 113, 114, 115, 116, 117, 118, 119, 120, 121, 122, 48, 49, 50, 51, 52, 53, 54, 55, 56, 57]⟩ : ByteArray) t266 _ A7.out).mono ?_); rintro e w8 ⟨rfl, hb⟩; refine ⟨_, rfl, ?_⟩; replace HB := qH hb; (try clear hb)))
     go_ret
     exact ⟨qE, qB⟩
   ·rw [zD c4] at H
    exact absurd H (by simp)
end Go.Proofs.YtpkimbkjjmbmcaaDoor.Q
namespace Go.Proofs.YtpkimbkjjmbmcaaDoor.Q
open Go.RowKit Go.Shelf Go.Proofs.YtpkimbkjjmbmcaaDoorW.PrintWords Go.Proofs.YtpkimbkjjmbmcaaDoorW.PrintLast Go.Proofs.YtpkimbkjjmbmcaaDoorW.PrintMore
set_option linter.unusedVariables false
def oddReg (regs n : Int) : Bool := decide (n < 0 ∨ regs ≤ n)
theorem ir_one_1.pred {regs p : Int} {nm : ByteArray} {bl : Value} {g : Nat} {w : World} (hbk : w.heap[g]? = some (.cells #[.string nm, .int .i64 p, .int .i64 regs, bl] 24 (0, 0))) :
 PredAt Tryd.prog 153 #[.pointer (some ⟨g, 0, none⟩)] (Value.int .i64) (oddReg regs) w := fun W x hb => by
 have hc : W.cell? ⟨g, 2, none⟩ = some (.int .i64 regs) := (blk_cell (blk_below hbk hb) 2).trans rfl
 show Calls Tryd.prog 153 #[.int .i64 x, .pointer (some ⟨g, 0, none⟩)] W _
 clear hbk hb
 unfold oddReg
 by_cases c0 : x < 0
 ·have c0b : decide (x < 0) = true := zF c0
  rw [zF (.inl c0)]
  go_enter Tryd.func153, Tryd.ntmps153
  go_wp2
  go_ret
  exact ⟨rfl, 0, rfl⟩
 ·have c0b : decide (x < 0) = false := zG c0
  by_cases c1 : regs ≤ x
  ·have c1b : decide (regs ≤ x) = true := zF c1
   rw [zF (.inr c1)]
   go_enter Tryd.func153, Tryd.ntmps153
   go_wp2
   go_ret
   exact ⟨rfl, 0, rfl⟩
  ·have c1b : decide (regs ≤ x) = false := zG c1
   rw [zG (by omega)]
   go_enter Tryd.func153, Tryd.ntmps153
   go_wp2
   go_ret
   exact ⟨rfl, 0, rfl⟩
def ir_one_1.f (a0 : Int) (a1_0 : ByteArray) (a1_1 : Int) (a1_2 : Int) (l1_3 : List (List SIns)) : Option Bool := some (oddReg a1_2 a0)
theorem ir_one_1.calls (a0 : Int) (a1_0 : ByteArray) (a1_1 : Int) (a1_2 : Int) (A1_3 : Option Addr) (c1_3 : Nat) (l1_3 : List (List SIns)) (r : Bool) (w : World) (hr1_3 : Kd.C (Kd.slice 38 kIns) w A1_3 l1_3.length l1_3) (hc1_3 : l1_3.length ≤ c1_3) (h : ir_one_1.f a0 a1_0 a1_1 a1_2 l1_3 = some r)
 {gb_ : Nat} (hbk : w.heap[gb_]? = some (.cells #[.string a1_0, .int .i64 a1_1, .int .i64 a1_2, .slice A1_3 l1_3.length c1_3] 24 (0, 0))) :
 Calls Tryd.prog 153 #[.int .i64 a0, .pointer (some ⟨gb_, 0, none⟩)] w fun e w' => e = .returned (.bool r) ∧ Below w.heap.size w w' := by
 obtain rfl := zI h
 exact (ir_one_1.pred hbk w a0 (Below.refl _ _)).mono fun e w' q => ⟨q.1, by
  obtain ⟨n, rfl⟩ := q.2
  exact below_drewN' (Below.refl _ w) n⟩
theorem spot_none {w : World} {ad : Addr} {v : Value} (h : w.cell? ad = some v) : ad.spot = none := by
 unfold World.cell? at h
 split at h
 ·split at h
  ·exact absurd h (by simp)
  ·next hs => simpa using hs
 ·exact absurd h (by simp)
def slices_ContainsFunc_int_int.f (l0 : List Int) (a1_0 : ByteArray) (a1_1 : Int) (a1_2 : Int) (l1_3 : List (List SIns)) : Option Bool := some (l0.any (oddReg a1_2))
theorem slices_ContainsFunc_int_int.calls (A0 : Option Addr) (c0 : Nat) (l0 : List Int) (a1_0 : ByteArray) (a1_1 : Int) (a1_2 : Int) (A1_3 : Option Addr) (c1_3 : Nat) (l1_3 : List (List SIns)) (r : Bool) (w : World) (hr0 : Kd.C (Kd.int .i64) w A0 l0.length l0) (hc0 : l0.length ≤ c0) (hr1_3 : Kd.C (Kd.slice 38 kIns) w A1_3 l1_3.length l1_3) (hc1_3 : l1_3.length ≤ c1_3) (h : slices_ContainsFunc_int_int.f l0 a1_0 a1_1 a1_2 l1_3 = some r)
 {gb_ : Nat} (hbk : w.heap[gb_]? = some (.cells #[.string a1_0, .int .i64 a1_1, .int .i64 a1_2, .slice A1_3 l1_3.length c1_3] 24 (0, 0))) :
 Calls Tryd.prog 154 #[.slice A0 l0.length c0, .func (.func 153) #[] #[.pointer (some ⟨gb_, 0, none⟩)]] w fun e w' => e = .returned (.bool r) ∧ Below w.heap.size w w' := by
 obtain rfl := zI h
 have hR := Kd.reads_of_C (enc := Value.int .i64) (d := (0 : Int)) (h1 := fun _ => rfl) hr0
 have hp := ir_one_1.pred hbk
 have eg : ∀ args w, (callFunc 153 args).run Tryd.prog w = .ok (.enter 153 args) w := enters_of Tryd.func153 (by kernel_rfl) rfl
 clear hbk hr1_3 hc1_3 hr0
 cases l0 with
 | nil =>
  refine (AnyE.slices_ContainsFunc_empty Tryd.l8 A0 c0 _ w).mono ?_
  rintro e w' ⟨rfl, rfl⟩
  exact ⟨rfl, Below.refl _ _⟩
 | cons x xs =>
  obtain ⟨ad, rfl, hc⟩ := hR.2.2 (by simp)
  have hs : ad.spot = none := spot_none (hc 0 (by simp))
  obtain ⟨b, off, sp⟩ := ad
  obtain rfl : sp = none := hs
  have hcell : ∀ j, j < (x :: xs).length → w.cell? ⟨b, off + j, none⟩ = some (.int .i64 ((x :: xs)[j]!)) := by
   intro j hj
   have e := hc j hj
   have e1 : (Addr.add ⟨b, off, none⟩ j) = ⟨b, off + j, none⟩ := by
    unfold Addr.add
    split
    ·next h0 => rw [h0]; rfl
    ·rfl
   rw [e1] at e
   rw [e]
   congr 2
   rw [List.getD_eq_getElem?_getD, List.getElem!_eq_getElem?_getD]
   rfl
  refine (AnyE.slices_ContainsFunc Tryd.l8 (Value.int .i64) (oddReg a1_2) 153 #[.pointer (some ⟨gb_, 0, none⟩)] eg b off (x :: xs).length c0 (x :: xs) w hp (Nat.le_refl _) hR.2.1 hcell).mono ?_
  rintro e w' ⟨rfl, n, rfl⟩
  rw [List.take_length]
  exact ⟨rfl, below_drewN' (Below.refl _ w) n⟩
end Go.Proofs.YtpkimbkjjmbmcaaDoor.Q
namespace Go.Proofs.YtpkimbkjjmbmcaaDoor.Q
open Go.RowKit Go.Proofs.YtpkimbkjjmbmcaaDoorW.PrintWords Go.Proofs.YtpkimbkjjmbmcaaDoorW.PrintLast Go.Proofs.YtpkimbkjjmbmcaaDoorW.PrintMore
attribute [local go_sem] max2_int min2_int max_two min_two max_three min_three max_four min_four
set_option linter.unusedVariables false
set_option linter.unusedSimpArgs false

def ir_Last.f (a0 : Int) : Option (Bool) := if a0 ≥ 12 then (some (decide (a0 ≤ 14))) else (some false)
set_option maxHeartbeats 8000000 in
set_option maxRecDepth 100000 in
theorem ir_Last.calls (a0 : Int) (r : Bool) (w : World) (h : ir_Last.f a0 = some r) :
 Calls Tryd.prog 152 #[.int .i64 a0] w fun e w' => e = .returned (.bool r) ∧ Drawn0 w w' := by
 have H := h; clear h; unfold ir_Last.f at H
 by_cases c2 : a0 ≥ 12
 ·rw [zC c2] at H
  have c2b0 : decide (12 ≤ a0) = true := zF c2
  clear c2
  obtain rfl := zI H
  go_enter Tryd.func152, Tryd.ntmps152
  go_wp2
  go_ret
  exact ⟨by first | rfl | (simp; done) | (simp [*]; done), qD⟩
 ·rw [zD c2] at H
  have c2b0 : decide (12 ≤ a0) = false := zG c2
  clear c2
  obtain rfl := zI H
  go_enter Tryd.func152, Tryd.ntmps152
  go_wp2
  go_ret
  exact ⟨by first | rfl | (simp; done) | (simp [*]; done), qD⟩

mutual
def ir_one.j0 : Nat → ByteArray → Bool → ByteArray → Int → Int → List (List (SIns)) → Int → Int → Int → Int → ByteArray → List Int → Option (Int)
 | 0, _, _, _, _, _, _, _, _, _, _, _, _ => none
 | k + 1, x7, x45, x275000, x275001, x275002, x275003, x276000, x276001, x276002, x276003, x276004, x276005 => if x45 = true then (some 72) else ((some (([x276001, x276002, x276003] : List Int) : List Int)).bind fun y278 => (ir_one.l0 k x7 y278 y278 (y278.length : Int) 0 x275000 x275001 x275002 x275003 x276000 x276001 x276002 x276003 x276004 x276005))
def ir_one.l0 : Nat → ByteArray → List Int → List Int → Int → Int → ByteArray → Int → Int → List (List (SIns)) → Int → Int → Int → Int → ByteArray → List Int → Option (Int)
 | 0, _, _, _, _, _, _, _, _, _, _, _, _, _, _, _ => none
 | k + 1, x7, x8, x53, x54, x55, x275000, x275001, x275002, x275003, x276000, x276001, x276002, x276003, x276004, x276005 => if x55 < x54 then (if 0 ≤ x55 then (if x55 < (x53.length : Int) then (if x55 < (x7.size : Int) then (if (bt x7 x55) = 32 then (if (rd x53 x55) = 0 then (ir_one.l0 k x7 x8 x53 x54 (wrap64 (x55 + 1)) x275000 x275001 x275002 x275003 x276000 x276001 x276002 x276003 x276004 x276005) else (some 72)) else (ir_one.l0 k x7 x8 x53 x54 (wrap64 (x55 + 1)) x275000 x275001 x275002 x275003 x276000 x276001 x276002 x276003 x276004 x276005)) else (none)) else (none)) else (none)) else (ir_one.l1 k x7 x8 x8 (x8.length : Int) 0 x275000 x275001 x275002 x275003 x276000 x276001 x276002 x276003 x276004 x276005)
def ir_one.l1 : Nat → ByteArray → List Int → List Int → Int → Int → ByteArray → Int → Int → List (List (SIns)) → Int → Int → Int → Int → ByteArray → List Int → Option (Int)
 | 0, _, _, _, _, _, _, _, _, _, _, _, _, _, _, _ => none
 | k + 1, x7, x8, x70, x71, x72, x275000, x275001, x275002, x275003, x276000, x276001, x276002, x276003, x276004, x276005 => if x72 < x71 then (if 0 ≤ x72 then (if x72 < (x70.length : Int) then (if x72 < (x7.size : Int) then (if (bt x7 x72) = 114 then ((ir_one_1.f (rd x70 x72) x275000 x275001 x275002 x275003).bind fun t283 => (if t283 = true then (some 73) else (ir_one.l1 k x7 x8 x70 x71 (wrap64 (x72 + 1)) x275000 x275001 x275002 x275003 x276000 x276001 x276002 x276003 x276004 x276005))) else (ir_one.l1 k x7 x8 x70 x71 (wrap64 (x72 + 1)) x275000 x275001 x275002 x275003 x276000 x276001 x276002 x276003 x276004 x276005)) else (none)) else (none)) else (none)) else ((slices_ContainsFunc_int_int.f x276005 x275000 x275001 x275002 x275003).bind fun t284 => (if t284 = true then (some 73) else (ir_one.l2 k x7 x8 (x8.length : Int) 0 x275000 x275001 x275002 x275003 x276000 x276001 x276002 x276003 x276004 x276005)))
def ir_one.l2 : Nat → ByteArray → List Int → Int → Int → ByteArray → Int → Int → List (List (SIns)) → Int → Int → Int → Int → ByteArray → List Int → Option (Int)
 | 0, _, _, _, _, _, _, _, _, _, _, _, _, _, _ => none
 | k + 1, x7, x91, x92, x93, x275000, x275001, x275002, x275003, x276000, x276001, x276002, x276003, x276004, x276005 => if x93 < x92 then (if 0 ≤ x93 then (if x93 < (x91.length : Int) then (if x93 < (x7.size : Int) then (if (bt x7 x93) = 110 then (if (rd x91 x93) < 0 then (some 81) else (if (rd x91 x93) ≥ 65536 then (some 81) else (ir_one.l2 k x7 x91 x92 (wrap64 (x93 + 1)) x275000 x275001 x275002 x275003 x276000 x276001 x276002 x276003 x276004 x276005))) else (ir_one.l2 k x7 x91 x92 (wrap64 (x93 + 1)) x275000 x275001 x275002 x275003 x276000 x276001 x276002 x276003 x276004 x276005)) else (none)) else (none)) else (none)) else ((ir_Targets.f x276000 x276001 x276002 x276003 x276004 x276005).bind fun t286 => (ir_one.l3 k t286 (t286.length : Int) 0 x275000 x275001 x275002 x275003 x276000 x276001 x276002 x276003 x276004 x276005))
def ir_one.l3 : Nat → List Int → Int → Int → ByteArray → Int → Int → List (List (SIns)) → Int → Int → Int → Int → ByteArray → List Int → Option (Int)
 | 0, _, _, _, _, _, _, _, _, _, _, _, _, _ => none
 | k + 1, x112, x113, x114, x275000, x275001, x275002, x275003, x276000, x276001, x276002, x276003, x276004, x276005 => if x114 < x113 then (if 0 ≤ x114 then (if x114 < (x112.length : Int) then (if (rd x112 x114) < 0 then (some 74) else (if (rd x112 x114) ≥ (x275003.length : Int) then (some 74) else (ir_one.l3 k x112 x113 (wrap64 (x114 + 1)) x275000 x275001 x275002 x275003 x276000 x276001 x276002 x276003 x276004 x276005))) else (none)) else (none)) else (if x276000 = 11 then ((ir_Name.f x276004).bind fun t290 => (ir_one.j5 k (!t290) x276000 x276001 x276002 x276003 x276004 x276005)) else (ir_one.j5 k false x276000 x276001 x276002 x276003 x276004 x276005))
def ir_one.j5 : Nat → Bool → Int → Int → Int → Int → ByteArray → List Int → Option (Int)
 | 0, _, _, _, _, _, _, _ => none
 | k + 1, x128, x276000, x276001, x276002, x276003, x276004, x276005 => if x128 = true then (some 70) else (if (x276005.length : Int) > 4 then (some 192) else (some 0))
end
def ir_one.f (k : Nat) (a0_0 : ByteArray) (a0_1 : Int) (a0_2 : Int) (l0_3 : List (List (SIns))) (a1_0 : Int) (a1_1 : Int) (a1_2 : Int) (a1_3 : Int) (a1_4 : ByteArray) (l1_5 : List Int) (a2 : Bool) : Option (Int) := (ir_shape.f a1_0).bind fun t276 => (if t276.toList = ([] : List UInt8) then (ir_one.j0 k t276 true a0_0 a0_1 a0_2 l0_3 a1_0 a1_1 a1_2 a1_3 a1_4 l1_5) else ((ir_Last.f a1_0).bind fun t277 => (if (t277 != a2) = true then (ir_one.j0 k t276 true a0_0 a0_1 a0_2 l0_3 a1_0 a1_1 a1_2 a1_3 a1_4 l1_5) else (if a1_0 = 11 then (ir_one.j0 k t276 false a0_0 a0_1 a0_2 l0_3 a1_0 a1_1 a1_2 a1_3 a1_4 l1_5) else (if a1_4.toList = ([] : List UInt8) then (ir_one.j0 k t276 (decide ((l1_5.length : Int) > 0)) a0_0 a0_1 a0_2 l0_3 a1_0 a1_1 a1_2 a1_3 a1_4 l1_5) else (ir_one.j0 k t276 true a0_0 a0_1 a0_2 l0_3 a1_0 a1_1 a1_2 a1_3 a1_4 l1_5))))))
set_option maxHeartbeats 8000000 in
set_option maxRecDepth 100000 in
theorem ir_one.calls (k : Nat) (a0_0 : ByteArray) (a0_1 : Int) (a0_2 : Int) (A0_3 : Option Addr) (c0_3 : Nat) (l0_3 : List (List (SIns))) (a1_0 : Int) (a1_1 : Int) (a1_2 : Int) (a1_3 : Int) (a1_4 : ByteArray) (A1_5 : Option Addr) (c1_5 : Nat) (l1_5 : List Int) (a2 : Bool) (r : Int) (w : World) (hL : LaidW w) (hr0_3 : Kd.C (Kd.slice 38 kIns) w A0_3 l0_3.length l0_3) (hc0_3 : l0_3.length ≤ c0_3) (hr1_5 : Kd.C (Kd.int .i64) w A1_5 l1_5.length l1_5) (hc1_5 : l1_5.length ≤ c1_5) (h : ir_one.f k a0_0 a0_1 a0_2 l0_3 a1_0 a1_1 a1_2 a1_3 a1_4 l1_5 a2 = some r) :
 Calls Tryd.prog 118 #[.agg #[.string a0_0, .int .i64 a0_1, .int .i64 a0_2, .slice A0_3 l0_3.length c0_3], .agg #[.int .i64 a1_0, .int .i64 a1_1, .int .i64 a1_2, .int .i64 a1_3, .string a1_4, .slice A1_5 l1_5.length c1_5], .bool a2] w fun e w' => e = .returned (.int .i64 r) ∧ Below w.heap.size w w' := by
 have hu24 := Tryd.underlying24
 have hu38 := Tryd.underlying38
 have HR0_3 := zA hr0_3
 have HC0_3 := zA hc0_3
 clear hr0_3 hc0_3
 have HR1_5 := zA hr1_5
 have HC1_5 := zA hc1_5
 clear hr1_5 hc1_5
 have HB := zA (Below.refl w.heap.size w)
 have HLd := zA hL
 clear hL
 have H := h; clear h; unfold ir_one.f at H
 replace H := qb H; obtain ⟨t276, A4, H⟩ := H
 have HC5 := zA H
 clear H
 go_enter Tryd.func118, Tryd.ntmps118
 go_upto_region 2 with (first | ((with_reducible refine gate_dst (N := 3) rfl ?_); (try (refine gate_guard (by rfl) ?_; dsimp only)); refine box_event (by rfl) (N := 3) (by rfl) (cs := #[.string a0_0, .int .i64 a0_1, .int .i64 a0_2, .slice A0_3 l0_3.length c0_3]) (t := 24) ?hr ?_; (case hr => go_simp <;> rfl); intro gb274 hg w6 hbox hb; have BK274 := zA (hbox); have GW274 := qG hg; have GE274 := GW274; replace HB := qH hb; clear hb hbox hg) | ((with_reducible refine gate_dst (N := 4) rfl ?_); (try (refine gate_guard (by rfl) ?_; dsimp only)); refine box_event (by rfl) (N := 4) (by rfl) (cs := #[.int .i64 a1_0, .int .i64 a1_1, .int .i64 a1_2, .int .i64 a1_3, .string a1_4, .slice A1_5 l1_5.length c1_5]) (t := 38) ?hr ?_; (case hr => go_simp <;> rfl); intro gb275 hg w7 hbox hb; have BK275 := zA (hbox); have GW275 := qG hg; have GE275 := GW275; replace HB := qH hb; have NB274_275 := zA ((by rw [hg]; exact Nat.ne_of_lt (blk_lt (g := gb274) (o := .cells #[.string a0_0, .int .i64 a0_1, .int .i64 a0_2, .slice A0_3 l0_3.length c0_3] 24 (0, 0)) (qK BK274.out)) : gb274 ≠ gb275)); have NB275_274 := zA ((by rw [hg]; exact Nat.ne_of_gt (blk_lt (g := gb274) (o := .cells #[.string a0_0, .int .i64 a0_1, .int .i64 a0_2, .slice A0_3 l0_3.length c0_3] 24 (0, 0)) (qK BK274.out)) : gb275 ≠ gb274)); replace BK274 := qW BK274 hb; clear hb hbox hg; have hnb8 := NB275_274.out; have hnc8 := NB274_275.out; have z9_0 := bk6 BK275.out) | ((with_reducible refine gate_callee (f := 85) rfl ?_); refine goesL_ (some 20) rfl rfl Tryd.func85 (by kernel_rfl) rfl #[.int .i64 a1_0] rfl qL ?_; (with_reducible refine (ir_shape.calls a1_0 t276 _ A4.out (hL := ?side99)).mono ?_); (case side99 => exact LaidW.below HLd.out qB); rintro e w' ⟨rfl, ⟨nd, rfl⟩⟩; refine ⟨_, rfl, ?_⟩))
 (try simp only [Act.put, List.setIfInBounds_toArray, List.set_cons_zero, List.set_cons_succ])
 go_cut [45] (fun v45 wc => ∃ (kq : Nat) (x45_4 : Bool), v45 = .bool x45_4 ∧ Aside0 (ir_one.j0 kq t276 x45_4 a0_0 a0_1 a0_2 l0_3 a1_0 a1_1 a1_2 a1_3 a1_4 l1_5 = some r) ∧ Aside0 (kq ≤ k) ∧ Aside0 (wc.heap[gb274]? = some (.cells #[.string a0_0, .int .i64 a0_1, .int .i64 a0_2, (.slice A0_3 l0_3.length c0_3)] 24 (0, 0))) ∧ Aside0 (wc.heap[gb275]? = some (.cells #[.int .i64 a1_0, .int .i64 a1_1, .int .i64 a1_2, .int .i64 a1_3, .string a1_4, (.slice A1_5 l1_5.length c1_5)] 38 (0, 0))) ∧ Aside0 (Below w.heap.size w wc))
 case first =>
  have H := HC5.out
  clear HC5
  by_cases c10 : t276.toList = ([] : List UInt8)
  ·rw [zC c10] at H
   obtain ⟨c10b0, c10b1⟩ := qe c10; clear c10
   (first | rw [c10b0] | (simp only [i64_w, i32_w]; rw [c10b0]) | skip)
   have H' := zA H
   clear H
   go_wp2
   go_meet
   case rel => exact ⟨_, (true), qT, H', ⟨qO⟩, ⟨qK BK274.out⟩, ⟨qK BK275.out⟩, ⟨qB⟩⟩
  ·rw [zD c10] at H
   obtain ⟨c10b0, c10b1⟩ := qn c10
   (first | rw [c10b0] | (simp only [i64_w, i32_w]; rw [c10b0]) | skip)
   replace H := qb H; obtain ⟨t277, A11, H⟩ := H
   by_cases c12 : (t277 != a2) = true
   ·rw [zC c12] at H
    have c12b0 : (t277 != a2) = true := c12
    (try (have c12b1 : decide (t277 = a2) = false := by simpa using c12))
    (try (have c12b2 : (t277 == a2) = false := by simpa using c12))
    (try (have c12b3 : ¬ (t277 = a2) := by simpa using c12))
    clear c12
    have H' := zA H
    clear H
    have hnb13 := NB275_274.out
    have hnc13 := NB274_275.out
    have z14_0 := bk6 BK275.out
    go_wp2_with (first | (go_at_call 152; (with_reducible refine (ir_Last.calls a1_0 t277 _ A11.out).mono ?_); (try clear A11); rintro e w' ⟨rfl, ⟨nd, rfl⟩⟩))
    go_meet
    case rel => exact ⟨_, (true), qT, H', ⟨qO⟩, ⟨qK BK274.out⟩, ⟨qK BK275.out⟩, ⟨qB⟩⟩
   ·rw [zD c12] at H
    have c12b0 : (t277 != a2) = false := by simpa using c12
    (try (have c12b1 : decide (t277 = a2) = true := by simpa using c12))
    (try (have c12b2 : (t277 == a2) = true := by simpa using c12))
    clear c12
    by_cases c15 : a1_0 = 11
    ·rw [zC c15] at H
     obtain ⟨c15b0, c15b1⟩ := qe c15; clear c15
     have H' := zA H
     clear H
     have hnb16 := NB275_274.out
     have hnc16 := NB274_275.out
     have z17_0 := bk6 BK275.out
     go_wp2_with (first | (go_at_call 152; (with_reducible refine (ir_Last.calls a1_0 t277 _ A11.out).mono ?_); (try clear A11); rintro e w' ⟨rfl, ⟨nd, rfl⟩⟩))
     go_meet
     case rel => exact ⟨_, (false), qT, H', ⟨qO⟩, ⟨qK BK274.out⟩, ⟨qK BK275.out⟩, ⟨qB⟩⟩
    ·rw [zD c15] at H
     obtain ⟨c15b0, c15b1⟩ := qn c15
     by_cases c18 : a1_4.toList = ([] : List UInt8)
     ·rw [zC c18] at H
      obtain ⟨c18b0, c18b1⟩ := qe c18; clear c18
      have H' := zA H
      clear H
      have hnb19 := NB275_274.out
      have hnc19 := NB274_275.out
      have z20_0 := bk6 BK275.out
      go_wp2_with (first | (go_at_call 152; (with_reducible refine (ir_Last.calls a1_0 t277 _ A11.out).mono ?_); (try clear A11); rintro e w' ⟨rfl, ⟨nd, rfl⟩⟩))
      go_meet
      case rel => exact ⟨_, (decide ((l1_5.length : Int) > 0)), qT, H', ⟨qO⟩, ⟨qK BK274.out⟩, ⟨qK BK275.out⟩, ⟨qB⟩⟩
     ·rw [zD c18] at H
      obtain ⟨c18b0, c18b1⟩ := qn c18
      have H' := zA H
      clear H
      have hnb21 := NB275_274.out
      have hnc21 := NB274_275.out
      have z22_0 := bk6 BK275.out
      go_wp2_with (first | (go_at_call 152; (with_reducible refine (ir_Last.calls a1_0 t277 _ A11.out).mono ?_); (try clear A11); rintro e w' ⟨rfl, ⟨nd, rfl⟩⟩))
      go_meet
      case rel => exact ⟨_, (true), qT, H', ⟨qO⟩, ⟨qK BK274.out⟩, ⟨qK BK275.out⟩, ⟨qB⟩⟩
 case rest =>
  clear HC5
  obtain ⟨kq, x45_4, rfl, HA, HJ4, BK274, BK275, HB⟩ := hcut
  cases kq with
  | zero => exact absurd HA.out (by simp [ir_one.j0])
  | succ kj4 =>
   have H := HA.out
   clear HA
   simp only [ir_one.j0] at H
   by_cases c23 : x45_4 = true
   ·subst c23
    have H1 : (some 72) = some r := by rw [zC rfl] at H; exact H
    clear H
    have H := H1
    clear H1
    obtain rfl := zI H
    go_wp2
    go_ret
    exact ⟨qE, qB⟩
   ·replace c23 := Bool.eq_false_iff.mpr c23
    subst c23
    have H1 : ((some (([a1_1, a1_2, a1_3] : List Int) : List Int)).bind fun y278 => (ir_one.l0 kj4 t276 y278 y278 (y278.length : Int) 0 a0_0 a0_1 a0_2 l0_3 a1_0 a1_1 a1_2 a1_3 a1_4 l1_5)) = some r := by rw [zD (show ¬ (false = true) by decide)] at H; exact H
    clear H
    have H := H1
    clear H1
    obtain ⟨y278, hy278⟩ : ∃ y_ : List Int, y_ = (([a1_1, a1_2, a1_3] : List Int)) := ⟨_, rfl⟩
    replace H : (ir_one.l0 kj4 t276 y278 y278 (y278.length : Int) 0 a0_0 a0_1 a0_2 l0_3 a1_0 a1_1 a1_2 a1_3 a1_4 l1_5) = some r := by (try rw [hy278]); first | with_reducible exact H | exact (zJ _ _).symm.trans H | exact H
    have Ny278 := zA hy278
    clear hy278
    have H' := zA H
    clear H
    have hnb24 := NB275_274.out
    have hnc24 := NB274_275.out
    have z25_0 := bk6 BK275.out
    go_wp2_with (first | ((with_reducible refine gate_dst (N := 52) rfl ?_); (try (refine gate_guard (by rfl) ?_; dsimp only)); refine Kd.R_lit (Kd.int .i64) _ 3 (by rfl) (N := 52) (by rfl) (xs := ([a1_1, a1_2, a1_3] : List Int)) (inner := [.int .i64 a1_1, .int .i64 a1_2, .int .i64 a1_3]) (ok := fun _ => True) (okp := fun _ => True) ?hr ?hp (fun _ hk => hk) trivial (Below.refl _ _) (Nat.le_refl _) (by simp) ?_; (case hr => go_simp <;> rfl); (case hp => exact (Reps.one (show Kd.M (Kd.int .i64) _ _ _ a1_1 [.int .i64 a1_1] from rfl) (Reps.one (show Kd.M (Kd.int .i64) _ _ _ a1_2 [.int .i64 a1_2] from rfl) (Reps.one (show Kd.M (Kd.int .i64) _ _ _ a1_3 [.int .i64 a1_3] from rfl) (Reps.none _ _))))); intro v279 w26 ho27 hb hg_ hnew_; clear hg_ hnew_; (first | rw [← Ny278.out] at ho27 | (simp only [Int.reduceToNat] at ho27; rw [← Ny278.out] at ho27)); have HO280 := zA (Kd.R_lower ho27 (below_size qB)); replace BK274 := qW BK274 hb; replace BK275 := qW BK275 hb; replace HB := qH hb; clear hb ho27; obtain ⟨Ao28, co28, eo28⟩ := Kd.R_slice HO280.out; subst eo28))
    go_loopg [55] kj4 (fun kq v55 w' => ∃ (x55_2 : Int), v55 = .int .i64 x55_2 ∧ Aside0 (ir_one.l0 kq t276 y278 y278 (y278.length : Int) x55_2 a0_0 a0_1 a0_2 l0_3 a1_0 a1_1 a1_2 a1_3 a1_4 l1_5 = some r) ∧ Aside0 (kq ≤ kj4) ∧ Aside0 (Kd.R (Kd.int .i64) 3 w' w.heap.size (fun _ => True) (.slice Ao28 y278.length co28) y278) ∧ Aside0 (Kd.R (Kd.int .i64) 3 w' w.heap.size (fun _ => True) (.slice Ao28 y278.length co28) y278) ∧ Aside0 (w'.heap[gb274]? = some (.cells #[.string a0_0, .int .i64 a0_1, .int .i64 a0_2, (.slice A0_3 l0_3.length c0_3)] 24 (0, 0))) ∧ Aside0 (w'.heap[gb275]? = some (.cells #[.int .i64 a1_0, .int .i64 a1_1, .int .i64 a1_2, .int .i64 a1_3, .string a1_4, (.slice A1_5 l1_5.length c1_5)] 38 (0, 0))) ∧ Aside0 (Below w.heap.size w w'))
    case atStart => exact ⟨(0), qT, H', ⟨Nat.le_refl _⟩, ⟨qR HO280.out⟩, ⟨qR HO280.out⟩, ⟨qK BK274.out⟩, ⟨qK BK275.out⟩, ⟨qB⟩⟩
    case round =>
     clear H'
     obtain ⟨x55_2, rfl, HA, HK2, HO_8, HO_53, BK274, BK275, HB⟩ := hrel
     cases gk with
     | zero => exact absurd HA.out (by simp [ir_one.l0])
     | succ k2 =>
      have H := HA.out
      clear HA
      simp only [ir_one.l0] at H
      by_cases c29 : x55_2 < (y278.length : Int)
      ·rw [zC c29] at H
       have c29b0 := zF c29
       clear c29
       by_cases c30 : 0 ≤ x55_2
       ·rw [zC c30] at H
        have c30b0 := zF c30
        clear c30
        by_cases c31 : x55_2 < (y278.length : Int)
        ·rw [zC c31] at H
         have c31b0 := zF c31
         clear c31
         by_cases c32 : x55_2 < (t276.size : Int)
         ·rw [zC c32] at H
          have c32b0 := zF c32
          clear c32
          by_cases c34 : (bt t276 x55_2) = 32
          ·rw [zC c34] at H
           obtain ⟨c34b0, c34b1⟩ := qe c34; clear c34
           by_cases c35 : (rd y278 x55_2) = 0
           ·rw [zC c35] at H
            obtain ⟨c35b0, c35b1⟩ := qe c35; clear c35
            have H' := zA H
            clear H
            have p281 : 0 ≤ (x55_2 : Int) := zB qA
            have q281 : x55_2 < (y278.length : Int) := zB qA
            obtain ⟨ad281, e281, hx281_0⟩ := Kd.at_int (Kd.R_reads' HO_53.out).2.2 x55_2 p281 q281
            cases e281
            replace p281 := eq_true p281
            replace q281 := eq_true q281
            have p33 : 0 ≤ (x55_2 : Int) := zB qA
            have q33 : x55_2 < (t276.size : Int) := zB qA
            have hx33 := bt_at t276 x55_2
            replace p33 := eq_true p33
            replace q33 := eq_true q33
            go_wp2
            go_roundg k2
            case measure => have := HJ4.out; have := HK2.out; omega
            case rel => exact ⟨(wrap64 (x55_2 + 1)), qT, H', ⟨by have := HJ4.out; have := HK2.out; omega⟩, ⟨qR HO_8.out⟩, ⟨qR HO_53.out⟩, ⟨qK BK274.out⟩, ⟨qK BK275.out⟩, ⟨qB⟩⟩
           ·rw [zD c35] at H
            obtain ⟨c35b0, c35b1⟩ := qn c35
            obtain rfl := zI H
            have p281 : 0 ≤ (x55_2 : Int) := zB qA
            have q281 : x55_2 < (y278.length : Int) := zB qA
            obtain ⟨ad281, e281, hx281_0⟩ := Kd.at_int (Kd.R_reads' HO_53.out).2.2 x55_2 p281 q281
            cases e281
            replace p281 := eq_true p281
            replace q281 := eq_true q281
            have p33 : 0 ≤ (x55_2 : Int) := zB qA
            have q33 : x55_2 < (t276.size : Int) := zB qA
            have hx33 := bt_at t276 x55_2
            replace p33 := eq_true p33
            replace q33 := eq_true q33
            go_wp2
            go_ret
            exact ⟨qE, qB⟩
          ·rw [zD c34] at H
           obtain ⟨c34b0, c34b1⟩ := qn c34
           have H' := zA H
           clear H
           have p281 : 0 ≤ (x55_2 : Int) := zB qA
           have q281 : x55_2 < (y278.length : Int) := zB qA
           obtain ⟨ad281, e281, hx281_0⟩ := Kd.at_int (Kd.R_reads' HO_53.out).2.2 x55_2 p281 q281
           cases e281
           replace p281 := eq_true p281
           replace q281 := eq_true q281
           have p33 : 0 ≤ (x55_2 : Int) := zB qA
           have q33 : x55_2 < (t276.size : Int) := zB qA
           have hx33 := bt_at t276 x55_2
           replace p33 := eq_true p33
           replace q33 := eq_true q33
           go_wp2
           go_roundg k2
           case measure => have := HJ4.out; have := HK2.out; omega
           case rel => exact ⟨(wrap64 (x55_2 + 1)), qT, H', ⟨by have := HJ4.out; have := HK2.out; omega⟩, ⟨qR HO_8.out⟩, ⟨qR HO_53.out⟩, ⟨qK BK274.out⟩, ⟨qK BK275.out⟩, ⟨qB⟩⟩
         ·rw [zD c32] at H
          exact absurd H (by simp)
        ·rw [zD c31] at H
         exact absurd H (by simp)
       ·rw [zD c30] at H
        exact absurd H (by simp)
      ·rw [zD c29] at H
       have c29b0 := zG c29
       clear c29
       have H' := zA H
       clear H
       go_wp2
       go_loopg [72] k2 (fun kq v72 w' => ∃ (x72_3 : Int), v72 = .int .i64 x72_3 ∧ Aside0 (ir_one.l1 kq t276 y278 y278 (y278.length : Int) x72_3 a0_0 a0_1 a0_2 l0_3 a1_0 a1_1 a1_2 a1_3 a1_4 l1_5 = some r) ∧ Aside0 (kq ≤ k2) ∧ Aside0 (Kd.R (Kd.int .i64) 3 w' w.heap.size (fun _ => True) (.slice Ao28 y278.length co28) y278) ∧ Aside0 (Kd.R (Kd.int .i64) 3 w' w.heap.size (fun _ => True) (.slice Ao28 y278.length co28) y278) ∧ Aside0 (w'.heap[gb274]? = some (.cells #[.string a0_0, .int .i64 a0_1, .int .i64 a0_2, (.slice A0_3 l0_3.length c0_3)] 24 (0, 0))) ∧ Aside0 (w'.heap[gb275]? = some (.cells #[.int .i64 a1_0, .int .i64 a1_1, .int .i64 a1_2, .int .i64 a1_3, .string a1_4, (.slice A1_5 l1_5.length c1_5)] 38 (0, 0))) ∧ Aside0 (Below w.heap.size w w'))
       case atStart => exact ⟨(0), qT, H', ⟨Nat.le_refl _⟩, ⟨qR HO_8.out⟩, ⟨qR HO_8.out⟩, ⟨qK BK274.out⟩, ⟨qK BK275.out⟩, ⟨qB⟩⟩
       case round =>
        clear H'
        obtain ⟨x72_3, rfl, HA, HK3, HO_8, HO_70, BK274, BK275, HB⟩ := hrel
        cases gk with
        | zero => exact absurd HA.out (by simp [ir_one.l1])
        | succ k3 =>
         have H := HA.out
         clear HA
         simp only [ir_one.l1] at H
         by_cases c36 : x72_3 < (y278.length : Int)
         ·rw [zC c36] at H
          have c36b0 := zF c36
          clear c36
          by_cases c37 : 0 ≤ x72_3
          ·rw [zC c37] at H
           have c37b0 := zF c37
           clear c37
           by_cases c38 : x72_3 < (y278.length : Int)
           ·rw [zC c38] at H
            have c38b0 := zF c38
            clear c38
            by_cases c39 : x72_3 < (t276.size : Int)
            ·rw [zC c39] at H
             have c39b0 := zF c39
             clear c39
             by_cases c41 : (bt t276 x72_3) = 114
             ·rw [zC c41] at H
              obtain ⟨c41b0, c41b1⟩ := qe c41; clear c41
              replace H := qb H; obtain ⟨t283, A42, H⟩ := H
              by_cases c43 : t283 = true
              ·subst c43
               have H1 : (some 73) = some r := by rw [zC rfl] at H; exact H
               clear H
               have H := H1
               clear H1
               obtain rfl := zI H
               have p282 : 0 ≤ (x72_3 : Int) := zB qA
               have q282 : x72_3 < (y278.length : Int) := zB qA
               obtain ⟨ad282, e282, hx282_0⟩ := Kd.at_int (Kd.R_reads' HO_70.out).2.2 x72_3 p282 q282
               cases e282
               replace p282 := eq_true p282
               replace q282 := eq_true q282
               have p40 : 0 ≤ (x72_3 : Int) := zB qA
               have q40 : x72_3 < (t276.size : Int) := zB qA
               have hx40 := bt_at t276 x72_3
               replace p40 := eq_true p40
               replace q40 := eq_true q40
               have hnb44 := NB274_275.out
               have hnc44 := NB275_274.out
               have z45_0 := bk4 BK274.out
               go_wp2_with (first | (go_at_call 153; (refine (ir_one_1.calls (rd y278 x72_3) a0_0 a0_1 a0_2 (A0_3) (c0_3) l0_3 true _ ?side1 ?side2 A42.out (hbk := ?side98) (gb_ := gb274)).mono ?_); (case side1 => repeat (first | exact (Kd.C_below HR0_3.out HB.out) | (refine Kd.C_alloc ?_ _) | (refine Kd.C_drewN ?_ _) | (refine Kd.C_drew ?_))); (case side2 => exact HC0_3.out); (case side98 => exact qK BK274.out); (try clear A42); rintro e w46 ⟨rfl, hb⟩; replace HO_8 := zA (Kd.R_below (qR HO_8.out) hb); replace HO_70 := zA (Kd.R_below (qR HO_70.out) hb); replace BK274 := qW BK274 hb; replace BK275 := qW BK275 hb; replace HB := qH hb; (try clear hb)))
               go_ret
               exact ⟨qE, qB⟩
              ·replace c43 := Bool.eq_false_iff.mpr c43
               subst c43
               have H1 : (ir_one.l1 k3 t276 y278 y278 (y278.length : Int) (wrap64 (x72_3 + 1)) a0_0 a0_1 a0_2 l0_3 a1_0 a1_1 a1_2 a1_3 a1_4 l1_5) = some r := by rw [zD (show ¬ (false = true) by decide)] at H; exact H
               clear H
               have H := H1
               clear H1
               have H' := zA H
               clear H
               have p282 : 0 ≤ (x72_3 : Int) := zB qA
               have q282 : x72_3 < (y278.length : Int) := zB qA
               obtain ⟨ad282, e282, hx282_0⟩ := Kd.at_int (Kd.R_reads' HO_70.out).2.2 x72_3 p282 q282
               cases e282
               replace p282 := eq_true p282
               replace q282 := eq_true q282
               have p40 : 0 ≤ (x72_3 : Int) := zB qA
               have q40 : x72_3 < (t276.size : Int) := zB qA
               have hx40 := bt_at t276 x72_3
               replace p40 := eq_true p40
               replace q40 := eq_true q40
               have hnb47 := NB274_275.out
               have hnc47 := NB275_274.out
               have z48_0 := bk4 BK274.out
               go_wp2_with (first | (go_at_call 153; (refine (ir_one_1.calls (rd y278 x72_3) a0_0 a0_1 a0_2 (A0_3) (c0_3) l0_3 false _ ?side1 ?side2 A42.out (hbk := ?side98) (gb_ := gb274)).mono ?_); (case side1 => repeat (first | exact (Kd.C_below HR0_3.out HB.out) | (refine Kd.C_alloc ?_ _) | (refine Kd.C_drewN ?_ _) | (refine Kd.C_drew ?_))); (case side2 => exact HC0_3.out); (case side98 => exact qK BK274.out); (try clear A42); rintro e w49 ⟨rfl, hb⟩; replace HO_8 := zA (Kd.R_below (qR HO_8.out) hb); replace HO_70 := zA (Kd.R_below (qR HO_70.out) hb); replace BK274 := qW BK274 hb; replace BK275 := qW BK275 hb; replace HB := qH hb; (try clear hb)))
               go_roundg k3
               case measure => have := HJ4.out; have := HK2.out; have := HK3.out; omega
               case rel => exact ⟨(wrap64 (x72_3 + 1)), qT, H', ⟨by have := HJ4.out; have := HK2.out; have := HK3.out; omega⟩, ⟨qR HO_8.out⟩, ⟨qR HO_70.out⟩, ⟨qK BK274.out⟩, ⟨qK BK275.out⟩, ⟨qB⟩⟩
             ·rw [zD c41] at H
              obtain ⟨c41b0, c41b1⟩ := qn c41
              have H' := zA H
              clear H
              have p282 : 0 ≤ (x72_3 : Int) := zB qA
              have q282 : x72_3 < (y278.length : Int) := zB qA
              obtain ⟨ad282, e282, hx282_0⟩ := Kd.at_int (Kd.R_reads' HO_70.out).2.2 x72_3 p282 q282
              cases e282
              replace p282 := eq_true p282
              replace q282 := eq_true q282
              have p40 : 0 ≤ (x72_3 : Int) := zB qA
              have q40 : x72_3 < (t276.size : Int) := zB qA
              have hx40 := bt_at t276 x72_3
              replace p40 := eq_true p40
              replace q40 := eq_true q40
              go_wp2
              go_roundg k3
              case measure => have := HJ4.out; have := HK2.out; have := HK3.out; omega
              case rel => exact ⟨(wrap64 (x72_3 + 1)), qT, H', ⟨by have := HJ4.out; have := HK2.out; have := HK3.out; omega⟩, ⟨qR HO_8.out⟩, ⟨qR HO_70.out⟩, ⟨qK BK274.out⟩, ⟨qK BK275.out⟩, ⟨qB⟩⟩
            ·rw [zD c39] at H
             exact absurd H (by simp)
           ·rw [zD c38] at H
            exact absurd H (by simp)
          ·rw [zD c37] at H
           exact absurd H (by simp)
         ·rw [zD c36] at H
          have c36b0 := zG c36
          clear c36
          replace H := qb H; obtain ⟨t284, A50, H⟩ := H
          by_cases c51 : t284 = true
          ·subst c51
           have H1 : (some 73) = some r := by rw [zC rfl] at H; exact H
           clear H
           have H := H1
           clear H1
           obtain rfl := zI H
           have hnb52 := NB275_274.out
           have hnc52 := NB274_275.out
           have z53_0 := bk6 BK275.out
           have z54_0 := bk4 BK274.out
           go_wp2_with (first | ((with_reducible refine gate_callee (f := 154) rfl ?_); refine goesL_ (some 90) rfl rfl Tryd.func154 (by kernel_rfl) rfl #[.slice A1_5 l1_5.length c1_5, .func (.func 153) #[] #[.pointer (some ⟨gb274, 0, none⟩)]] rfl qL ?_; (refine (slices_ContainsFunc_int_int.calls (A1_5) (c1_5) l1_5 a0_0 a0_1 a0_2 (A0_3) (c0_3) l0_3 true _ ?side1 ?side2 ?side3 ?side4 A50.out (hbk := ?side98) (gb_ := gb274)).mono ?_); (case side1 => repeat (first | exact (Kd.C_below HR1_5.out HB.out) | (refine Kd.C_alloc ?_ _) | (refine Kd.C_drewN ?_ _) | (refine Kd.C_drew ?_))); (case side2 => exact HC1_5.out); (case side3 => repeat (first | exact (Kd.C_below HR0_3.out HB.out) | (refine Kd.C_alloc ?_ _) | (refine Kd.C_drewN ?_ _) | (refine Kd.C_drew ?_))); (case side4 => exact HC0_3.out); (case side98 => exact qK BK274.out); rintro e w55 ⟨rfl, hb⟩; refine ⟨_, rfl, ?_⟩; replace HO_8 := zA (Kd.R_below (qR HO_8.out) hb); replace HO_70 := zA (Kd.R_below (qR HO_70.out) hb); replace BK274 := qW BK274 hb; replace BK275 := qW BK275 hb; replace HB := qH hb; (try clear hb)))
           go_ret
           exact ⟨qE, qB⟩
          ·replace c51 := Bool.eq_false_iff.mpr c51
           subst c51
           have H1 : (ir_one.l2 k3 t276 y278 (y278.length : Int) 0 a0_0 a0_1 a0_2 l0_3 a1_0 a1_1 a1_2 a1_3 a1_4 l1_5) = some r := by rw [zD (show ¬ (false = true) by decide)] at H; exact H
           clear H
           have H := H1
           clear H1
           have H' := zA H
           clear H
           have hnb56 := NB275_274.out
           have hnc56 := NB274_275.out
           have z57_0 := bk6 BK275.out
           have z58_0 := bk4 BK274.out
           go_wp2_with (first | ((with_reducible refine gate_callee (f := 154) rfl ?_); refine goesL_ (some 90) rfl rfl Tryd.func154 (by kernel_rfl) rfl #[.slice A1_5 l1_5.length c1_5, .func (.func 153) #[] #[.pointer (some ⟨gb274, 0, none⟩)]] rfl qL ?_; (refine (slices_ContainsFunc_int_int.calls (A1_5) (c1_5) l1_5 a0_0 a0_1 a0_2 (A0_3) (c0_3) l0_3 false _ ?side1 ?side2 ?side3 ?side4 A50.out (hbk := ?side98) (gb_ := gb274)).mono ?_); (case side1 => repeat (first | exact (Kd.C_below HR1_5.out HB.out) | (refine Kd.C_alloc ?_ _) | (refine Kd.C_drewN ?_ _) | (refine Kd.C_drew ?_))); (case side2 => exact HC1_5.out); (case side3 => repeat (first | exact (Kd.C_below HR0_3.out HB.out) | (refine Kd.C_alloc ?_ _) | (refine Kd.C_drewN ?_ _) | (refine Kd.C_drew ?_))); (case side4 => exact HC0_3.out); (case side98 => exact qK BK274.out); rintro e w59 ⟨rfl, hb⟩; refine ⟨_, rfl, ?_⟩; replace HO_8 := zA (Kd.R_below (qR HO_8.out) hb); replace HO_70 := zA (Kd.R_below (qR HO_70.out) hb); replace BK274 := qW BK274 hb; replace BK275 := qW BK275 hb; replace HB := qH hb; (try clear hb)))
           go_loopg [93] k3 (fun kq v93 w' => ∃ (x93_4 : Int), v93 = .int .i64 x93_4 ∧ Aside0 (ir_one.l2 kq t276 y278 (y278.length : Int) x93_4 a0_0 a0_1 a0_2 l0_3 a1_0 a1_1 a1_2 a1_3 a1_4 l1_5 = some r) ∧ Aside0 (kq ≤ k3) ∧ Aside0 (Kd.R (Kd.int .i64) 3 w' w.heap.size (fun _ => True) (.slice Ao28 y278.length co28) y278) ∧ Aside0 (w'.heap[gb274]? = some (.cells #[.string a0_0, .int .i64 a0_1, .int .i64 a0_2, (.slice A0_3 l0_3.length c0_3)] 24 (0, 0))) ∧ Aside0 (w'.heap[gb275]? = some (.cells #[.int .i64 a1_0, .int .i64 a1_1, .int .i64 a1_2, .int .i64 a1_3, .string a1_4, (.slice A1_5 l1_5.length c1_5)] 38 (0, 0))) ∧ Aside0 (Below w.heap.size w w'))
           case atStart => exact ⟨(0), qT, H', ⟨Nat.le_refl _⟩, ⟨qR HO_8.out⟩, ⟨qK BK274.out⟩, ⟨qK BK275.out⟩, ⟨qB⟩⟩
           case round =>
            clear H'
            obtain ⟨x93_4, rfl, HA, HK4, HO_91, BK274, BK275, HB⟩ := hrel
            cases gk with
            | zero => exact absurd HA.out (by simp [ir_one.l2])
            | succ k4 =>
             have H := HA.out
             clear HA
             simp only [ir_one.l2] at H
             by_cases c60 : x93_4 < (y278.length : Int)
             ·rw [zC c60] at H
              have c60b0 := zF c60
              clear c60
              by_cases c61 : 0 ≤ x93_4
              ·rw [zC c61] at H
               have c61b0 := zF c61
               clear c61
               by_cases c62 : x93_4 < (y278.length : Int)
               ·rw [zC c62] at H
                have c62b0 := zF c62
                clear c62
                by_cases c63 : x93_4 < (t276.size : Int)
                ·rw [zC c63] at H
                 have c63b0 := zF c63
                 clear c63
                 by_cases c65 : (bt t276 x93_4) = 110
                 ·rw [zC c65] at H
                  obtain ⟨c65b0, c65b1⟩ := qe c65; clear c65
                  by_cases c66 : (rd y278 x93_4) < 0
                  ·rw [zC c66] at H
                   have c66b0 := zF c66
                   clear c66
                   obtain rfl := zI H
                   have p285 : 0 ≤ (x93_4 : Int) := zB qA
                   have q285 : x93_4 < (y278.length : Int) := zB qA
                   obtain ⟨ad285, e285, hx285_0⟩ := Kd.at_int (Kd.R_reads' HO_91.out).2.2 x93_4 p285 q285
                   cases e285
                   replace p285 := eq_true p285
                   replace q285 := eq_true q285
                   have p64 : 0 ≤ (x93_4 : Int) := zB qA
                   have q64 : x93_4 < (t276.size : Int) := zB qA
                   have hx64 := bt_at t276 x93_4
                   replace p64 := eq_true p64
                   replace q64 := eq_true q64
                   go_wp2
                   go_ret
                   exact ⟨qE, qB⟩
                  ·rw [zD c66] at H
                   have c66b0 := zG c66
                   clear c66
                   by_cases c67 : (rd y278 x93_4) ≥ 65536
                   ·rw [zC c67] at H
                    have c67b0 : decide (65536 ≤ (rd y278 x93_4)) = true := zF c67
                    clear c67
                    obtain rfl := zI H
                    have p285 : 0 ≤ (x93_4 : Int) := zB qA
                    have q285 : x93_4 < (y278.length : Int) := zB qA
                    obtain ⟨ad285, e285, hx285_0⟩ := Kd.at_int (Kd.R_reads' HO_91.out).2.2 x93_4 p285 q285
                    cases e285
                    replace p285 := eq_true p285
                    replace q285 := eq_true q285
                    have p64 : 0 ≤ (x93_4 : Int) := zB qA
                    have q64 : x93_4 < (t276.size : Int) := zB qA
                    have hx64 := bt_at t276 x93_4
                    replace p64 := eq_true p64
                    replace q64 := eq_true q64
                    go_wp2
                    go_ret
                    exact ⟨qE, qB⟩
                   ·rw [zD c67] at H
                    have c67b0 : decide (65536 ≤ (rd y278 x93_4)) = false := zG c67
                    clear c67
                    have H' := zA H
                    clear H
                    have p285 : 0 ≤ (x93_4 : Int) := zB qA
                    have q285 : x93_4 < (y278.length : Int) := zB qA
                    obtain ⟨ad285, e285, hx285_0⟩ := Kd.at_int (Kd.R_reads' HO_91.out).2.2 x93_4 p285 q285
                    cases e285
                    replace p285 := eq_true p285
                    replace q285 := eq_true q285
                    have p64 : 0 ≤ (x93_4 : Int) := zB qA
                    have q64 : x93_4 < (t276.size : Int) := zB qA
                    have hx64 := bt_at t276 x93_4
                    replace p64 := eq_true p64
                    replace q64 := eq_true q64
                    go_wp2
                    go_roundg k4
                    case measure => have := HJ4.out; have := HK2.out; have := HK3.out; have := HK4.out; omega
                    case rel => exact ⟨(wrap64 (x93_4 + 1)), qT, H', ⟨by have := HJ4.out; have := HK2.out; have := HK3.out; have := HK4.out; omega⟩, ⟨qR HO_91.out⟩, ⟨qK BK274.out⟩, ⟨qK BK275.out⟩, ⟨qB⟩⟩
                 ·rw [zD c65] at H
                  obtain ⟨c65b0, c65b1⟩ := qn c65
                  have H' := zA H
                  clear H
                  have p285 : 0 ≤ (x93_4 : Int) := zB qA
                  have q285 : x93_4 < (y278.length : Int) := zB qA
                  obtain ⟨ad285, e285, hx285_0⟩ := Kd.at_int (Kd.R_reads' HO_91.out).2.2 x93_4 p285 q285
                  cases e285
                  replace p285 := eq_true p285
                  replace q285 := eq_true q285
                  have p64 : 0 ≤ (x93_4 : Int) := zB qA
                  have q64 : x93_4 < (t276.size : Int) := zB qA
                  have hx64 := bt_at t276 x93_4
                  replace p64 := eq_true p64
                  replace q64 := eq_true q64
                  go_wp2
                  go_roundg k4
                  case measure => have := HJ4.out; have := HK2.out; have := HK3.out; have := HK4.out; omega
                  case rel => exact ⟨(wrap64 (x93_4 + 1)), qT, H', ⟨by have := HJ4.out; have := HK2.out; have := HK3.out; have := HK4.out; omega⟩, ⟨qR HO_91.out⟩, ⟨qK BK274.out⟩, ⟨qK BK275.out⟩, ⟨qB⟩⟩
                ·rw [zD c63] at H
                 exact absurd H (by simp)
               ·rw [zD c62] at H
                exact absurd H (by simp)
              ·rw [zD c61] at H
               exact absurd H (by simp)
             ·rw [zD c60] at H
              have c60b0 := zG c60
              clear c60
              replace H := qb H; obtain ⟨t286, A68, H⟩ := H
              have H' := zA H
              clear H
              have hnb69 := NB275_274.out
              have hnc69 := NB274_275.out
              have z70_0 := bk6 BK275.out
              go_wp2_with (first | ((with_reducible refine gate_callee (f := 120) rfl ?_); refine goesL_ (some 112) rfl rfl Tryd.func120 (by kernel_rfl) rfl #[.agg #[.int .i64 a1_0, .int .i64 a1_1, .int .i64 a1_2, .int .i64 a1_3, .string a1_4, .slice A1_5 l1_5.length c1_5]] rfl qL ?_; (with_reducible refine (ir_Targets.calls a1_0 a1_1 a1_2 a1_3 a1_4 _ _ l1_5 t286 _ ?side1 ?side2 A68.out).mono ?_); (case side1 => exact qCB HR1_5.out); (case side2 => exact HC1_5.out); rintro e w71 ⟨v287, rfl, ho0, hb⟩; refine ⟨_, rfl, ?_⟩; have HO288 := zA (Kd.R_lower (Kd.R_new' ho0 (Kd.R_lt (qR HO_91.out))) (below_size qB)); replace HO_91 := zA (Kd.R_elder' (qR HO_91.out) (Kd.R_base ho0) hb); replace BK274 := qW BK274 hb; replace BK275 := qW BK275 hb; replace HB := qH hb; (try clear hb); (try clear ho0); obtain ⟨Ao72, co72, eo72⟩ := Kd.R_slice HO288.out; subst eo72))
              go_loopg [114] k4 (fun kq v114 w' => ∃ (x114_5 : Int), v114 = .int .i64 x114_5 ∧ Aside0 (ir_one.l3 kq t286 (t286.length : Int) x114_5 a0_0 a0_1 a0_2 l0_3 a1_0 a1_1 a1_2 a1_3 a1_4 l1_5 = some r) ∧ Aside0 (kq ≤ k4) ∧ Aside0 (Kd.R (Kd.int .i64) 3 w' w.heap.size (fun _ => True) (.slice Ao72 t286.length co72) t286) ∧ Aside0 (w'.heap[gb274]? = some (.cells #[.string a0_0, .int .i64 a0_1, .int .i64 a0_2, (.slice A0_3 l0_3.length c0_3)] 24 (0, 0))) ∧ Aside0 (w'.heap[gb275]? = some (.cells #[.int .i64 a1_0, .int .i64 a1_1, .int .i64 a1_2, .int .i64 a1_3, .string a1_4, (.slice A1_5 l1_5.length c1_5)] 38 (0, 0))) ∧ Aside0 (Below w.heap.size w w'))
              case atStart => exact ⟨(0), qT, H', ⟨Nat.le_refl _⟩, ⟨by (with_reducible repeat (first | apply Kd.R_alloc | apply Kd.R_drewN | apply Kd.R_drew)); exact Kd.R_mono HO288.out (fun _ hk => trivial)⟩, ⟨qK BK274.out⟩, ⟨qK BK275.out⟩, ⟨qB⟩⟩
              case round =>
               clear H'
               obtain ⟨x114_5, rfl, HA, HK5, HO_112, BK274, BK275, HB⟩ := hrel
               cases gk with
               | zero => exact absurd HA.out (by simp [ir_one.l3])
               | succ k5 =>
                have H := HA.out
                clear HA
                simp only [ir_one.l3] at H
                by_cases c73 : x114_5 < (t286.length : Int)
                ·rw [zC c73] at H
                 have c73b0 := zF c73
                 clear c73
                 by_cases c74 : 0 ≤ x114_5
                 ·rw [zC c74] at H
                  have c74b0 := zF c74
                  clear c74
                  by_cases c75 : x114_5 < (t286.length : Int)
                  ·rw [zC c75] at H
                   have c75b0 := zF c75
                   clear c75
                   by_cases c76 : (rd t286 x114_5) < 0
                   ·rw [zC c76] at H
                    have c76b0 := zF c76
                    clear c76
                    obtain rfl := zI H
                    have p289 : 0 ≤ (x114_5 : Int) := zB qA
                    have q289 : x114_5 < (t286.length : Int) := zB qA
                    obtain ⟨ad289, e289, hx289_0⟩ := Kd.at_int (Kd.R_reads' HO_112.out).2.2 x114_5 p289 q289
                    cases e289
                    replace p289 := eq_true p289
                    replace q289 := eq_true q289
                    go_wp2
                    go_ret
                    exact ⟨qE, qB⟩
                   ·rw [zD c76] at H
                    have c76b0 := zG c76
                    clear c76
                    by_cases c77 : (rd t286 x114_5) ≥ (l0_3.length : Int)
                    ·rw [zC c77] at H
                     have c77b0 : decide ((l0_3.length : Int) ≤ (rd t286 x114_5)) = true := zF c77
                     clear c77
                     obtain rfl := zI H
                     have p289 : 0 ≤ (x114_5 : Int) := zB qA
                     have q289 : x114_5 < (t286.length : Int) := zB qA
                     obtain ⟨ad289, e289, hx289_0⟩ := Kd.at_int (Kd.R_reads' HO_112.out).2.2 x114_5 p289 q289
                     cases e289
                     replace p289 := eq_true p289
                     replace q289 := eq_true q289
                     have hnb78 := NB274_275.out
                     have hnc78 := NB275_274.out
                     have z79_0 := bk4 BK274.out
                     go_wp2
                     go_ret
                     exact ⟨qE, qB⟩
                    ·rw [zD c77] at H
                     have c77b0 : decide ((l0_3.length : Int) ≤ (rd t286 x114_5)) = false := zG c77
                     clear c77
                     have H' := zA H
                     clear H
                     have p289 : 0 ≤ (x114_5 : Int) := zB qA
                     have q289 : x114_5 < (t286.length : Int) := zB qA
                     obtain ⟨ad289, e289, hx289_0⟩ := Kd.at_int (Kd.R_reads' HO_112.out).2.2 x114_5 p289 q289
                     cases e289
                     replace p289 := eq_true p289
                     replace q289 := eq_true q289
                     have hnb80 := NB274_275.out
                     have hnc80 := NB275_274.out
                     have z81_0 := bk4 BK274.out
                     go_wp2
                     go_roundg k5
                     case measure => have := HJ4.out; have := HK2.out; have := HK3.out; have := HK4.out; have := HK5.out; omega
                     case rel => exact ⟨(wrap64 (x114_5 + 1)), qT, H', ⟨by have := HJ4.out; have := HK2.out; have := HK3.out; have := HK4.out; have := HK5.out; omega⟩, ⟨qR HO_112.out⟩, ⟨qK BK274.out⟩, ⟨qK BK275.out⟩, ⟨qB⟩⟩
                  ·rw [zD c75] at H
                   exact absurd H (by simp)
                 ·rw [zD c74] at H
                  exact absurd H (by simp)
                ·rw [zD c73] at H
                 have c73b0 := zG c73
                 clear c73
                 have HC82 := zA H
                 clear H
                 go_upto_region 32 with (fail)
                 go_cut [128] (fun v128 wc => ∃ (kq : Nat) (x128_81 : Bool), v128 = .bool x128_81 ∧ Aside0 (ir_one.j5 kq x128_81 a1_0 a1_1 a1_2 a1_3 a1_4 l1_5 = some r) ∧ Aside0 (kq ≤ k5) ∧ Aside0 (wc.heap[gb274]? = some (.cells #[.string a0_0, .int .i64 a0_1, .int .i64 a0_2, (.slice A0_3 l0_3.length c0_3)] 24 (0, 0))) ∧ Aside0 (wc.heap[gb275]? = some (.cells #[.int .i64 a1_0, .int .i64 a1_1, .int .i64 a1_2, .int .i64 a1_3, .string a1_4, (.slice A1_5 l1_5.length c1_5)] 38 (0, 0))) ∧ Aside0 (Below w.heap.size w wc))
                 case first =>
                  have H := HC82.out
                  clear HC82
                  by_cases c83 : a1_0 = 11
                  ·rw [zC c83] at H
                   obtain ⟨c83b0, c83b1⟩ := qe c83; clear c83
                   (first | rw [c83b0] | (simp only [i64_w, i32_w]; rw [c83b0]) | skip)
                   replace H := qb H; obtain ⟨t290, A84, H⟩ := H
                   have H' := zA H
                   clear H
                   have hnb85 := NB275_274.out
                   have hnc85 := NB274_275.out
                   have z86_0 := bk6 BK275.out
                   go_wp2_with (first | (go_at_call 93; (with_reducible refine (ir_Name.calls a1_4 t290 _ A84.out).mono ?_); (try clear A84); rintro e w87 ⟨rfl, hb⟩; replace HO_112 := zA (Kd.R_below (qR HO_112.out) hb); replace BK274 := qW BK274 hb; replace BK275 := qW BK275 hb; replace HB := qH hb; (try clear hb)))
                   go_meet
                   case rel => exact ⟨_, (!t290), qT, H', ⟨by have := HJ4.out; have := HK2.out; have := HK3.out; have := HK4.out; have := HK5.out; first | omega | exact Nat.le_refl _⟩, ⟨qK BK274.out⟩, ⟨qK BK275.out⟩, ⟨qB⟩⟩
                  ·rw [zD c83] at H
                   obtain ⟨c83b0, c83b1⟩ := qn c83
                   (first | rw [c83b0] | (simp only [i64_w, i32_w]; rw [c83b0]) | skip)
                   have H' := zA H
                   clear H
                   have hnb88 := NB275_274.out
                   have hnc88 := NB274_275.out
                   have z89_0 := bk6 BK275.out
                   go_wp2
                   go_meet
                   case rel => exact ⟨_, (false), qT, H', ⟨by have := HJ4.out; have := HK2.out; have := HK3.out; have := HK4.out; have := HK5.out; first | omega | exact Nat.le_refl _⟩, ⟨qK BK274.out⟩, ⟨qK BK275.out⟩, ⟨qB⟩⟩
                 case rest =>
                  clear HC82
                  obtain ⟨kq, x128_81, rfl, HA, HJ81, BK274, BK275, HB⟩ := hcut
                  cases kq with
                  | zero => exact absurd HA.out (by simp [ir_one.j5])
                  | succ kj81 =>
                   have H := HA.out
                   clear HA
                   simp only [ir_one.j5] at H
                   by_cases c90 : x128_81 = true
                   ·subst c90
                    have H1 : (some 70) = some r := by rw [zC rfl] at H; exact H
                    clear H
                    have H := H1
                    clear H1
                    obtain rfl := zI H
                    go_wp2
                    go_ret
                    exact ⟨qE, qB⟩
                   ·replace c90 := Bool.eq_false_iff.mpr c90
                    subst c90
                    have H1 : (if (l1_5.length : Int) > 4 then (some 192) else (some 0)) = some r := by rw [zD (show ¬ (false = true) by decide)] at H; exact H
                    clear H
                    have H := H1
                    clear H1
                    by_cases c91 : (l1_5.length : Int) > 4
                    ·rw [zC c91] at H
                     have c91b0 : decide (4 < (l1_5.length : Int)) = true := zF c91
                     have c91b1 : decide (4 < l1_5.length) = true := zF (by omega)
                     clear c91
                     obtain rfl := zI H
                     have hnb92 := NB275_274.out
                     have hnc92 := NB274_275.out
                     have z93_0 := bk6 BK275.out
                     go_wp2
                     go_ret
                     exact ⟨qE, qB⟩
                    ·rw [zD c91] at H
                     have c91b0 : decide (4 < (l1_5.length : Int)) = false := zG c91
                     have c91b1 : decide (4 < l1_5.length) = false := zG (by omega)
                     clear c91
                     obtain rfl := zI H
                     have hnb94 := NB275_274.out
                     have hnc94 := NB274_275.out
                     have z95_0 := bk6 BK275.out
                     go_wp2
                     go_ret
                     exact ⟨qE, qB⟩

mutual
def ir_Check.j0 : Nat → Bool → ByteArray → Int → Int → List (List (SIns)) → Option (Int)
 | 0, _, _, _, _, _ => none
 | k + 1, x46, x292000, x292001, x292002, x292003 => if x46 = true then (some 71) else (ir_Check.l0 k 200 x292003 (x292003.length : Int) 0 x292000 x292001 x292002 x292003)
def ir_Check.l0 : Nat → Int → List (List (SIns)) → Int → Int → ByteArray → Int → Int → List (List (SIns)) → Option (Int)
 | 0, _, _, _, _, _, _, _, _ => none
 | k + 1, x3, x48, x49, x50, x292000, x292001, x292002, x292003 => if x50 < x49 then (if 0 ≤ x50 then (if x50 < (x48.length : Int) then (if ((rd_LIns x48 x50).length : Int) = 0 then (some 71) else (if ((rd_LIns x48 x50).length : Int) > x3 then (some 71) else (ir_Check.l0 k (wrap64 (x3 - ((rd_LIns x48 x50).length : Int))) x48 x49 (wrap64 (x50 + 1)) x292000 x292001 x292002 x292003))) else (none)) else (none)) else (ir_Check.l1 k x292003 (x292003.length : Int) 0 x292000 x292001 x292002 x292003)
def ir_Check.l1 : Nat → List (List (SIns)) → Int → Int → ByteArray → Int → Int → List (List (SIns)) → Option (Int)
 | 0, _, _, _, _, _, _, _ => none
 | k + 1, x69, x70, x71, x292000, x292001, x292002, x292003 => if x71 < x70 then (if 0 ≤ x71 then (if x71 < (x69.length : Int) then (ir_Check.l2 k (rd_LIns x69 x71) x69 x70 x71 (rd_LIns x69 x71) ((rd_LIns x69 x71).length : Int) 0 x292000 x292001 x292002 x292003) else (none)) else (none)) else (some 0)
def ir_Check.l2 : Nat → List (SIns) → List (List (SIns)) → Int → Int → List (SIns) → Int → Int → ByteArray → Int → Int → List (List (SIns)) → Option (Int)
 | 0, _, _, _, _, _, _, _, _, _, _, _ => none
 | k + 1, x7, x69, x70, x71, x75, x76, x77, x292000, x292001, x292002, x292003 => if x77 < x76 then (if 0 ≤ x77 then (if x77 < (x75.length : Int) then ((ir_one.f k x292000 x292001 x292002 x292003 ((rd_TIns x75 x77).f0) ((rd_TIns x75 x77).f1) ((rd_TIns x75 x77).f2) ((rd_TIns x75 x77).f3) ((rd_TIns x75 x77).f4) ((rd_TIns x75 x77).f5) (x77 == (wrap64 ((x7.length : Int) - 1)))).bind fun t297 => (if t297 = 0 then (ir_Check.l2 k x7 x69 x70 x71 x75 x76 (wrap64 (x77 + 1)) x292000 x292001 x292002 x292003) else (some t297))) else (none)) else (none)) else (ir_Check.l1 k x69 x70 (wrap64 (x71 + 1)) x292000 x292001 x292002 x292003)
end
def ir_Check.f (k : Nat) (a0_0 : ByteArray) (a0_1 : Int) (a0_2 : Int) (l0_3 : List (List (SIns))) : Option (Int) := (ir_Name.f a0_0).bind fun t292 => (if t292 = true then (if a0_1 < 0 then (ir_Check.j0 k true a0_0 a0_1 a0_2 l0_3) else (if a0_1 > 4 then (ir_Check.j0 k true a0_0 a0_1 a0_2 l0_3) else (if a0_2 < a0_1 then (ir_Check.j0 k true a0_0 a0_1 a0_2 l0_3) else (if a0_2 > 64 then (ir_Check.j0 k true a0_0 a0_1 a0_2 l0_3) else (if (l0_3.length : Int) < 1 then (ir_Check.j0 k true a0_0 a0_1 a0_2 l0_3) else (ir_Check.j0 k (decide ((l0_3.length : Int) > 32)) a0_0 a0_1 a0_2 l0_3)))))) else (some 70))
set_option maxHeartbeats 8000000 in
set_option maxRecDepth 100000 in
theorem ir_Check.calls (k : Nat) (a0_0 : ByteArray) (a0_1 : Int) (a0_2 : Int) (A0_3 : Option Addr) (c0_3 : Nat) (l0_3 : List (List (SIns))) (r : Int) (w : World) (hL : LaidW w) (hr0_3 : Kd.C (Kd.slice 38 kIns) w A0_3 l0_3.length l0_3) (hc0_3 : l0_3.length ≤ c0_3) (h : ir_Check.f k a0_0 a0_1 a0_2 l0_3 = some r) :
 Calls Tryd.prog 78 #[.agg #[.string a0_0, .int .i64 a0_1, .int .i64 a0_2, .slice A0_3 l0_3.length c0_3]] w fun e w' => e = .returned (.int .i64 r) ∧ Below w.heap.size w w' := by
 have hu24 := Tryd.underlying24
 have hu38 := Tryd.underlying38
 have HR0_3 := zA hr0_3
 have HC0_3 := zA hc0_3
 clear hr0_3 hc0_3
 have HB := zA (Below.refl w.heap.size w)
 have HLd := zA hL
 clear hL
 have H := h; clear h; unfold ir_Check.f at H
 replace H := qb H; obtain ⟨t292, A2, H⟩ := H
 by_cases c3 : t292 = true
 ·subst c3
  have H1 : (if a0_1 < 0 then (ir_Check.j0 k true a0_0 a0_1 a0_2 l0_3) else (if a0_1 > 4 then (ir_Check.j0 k true a0_0 a0_1 a0_2 l0_3) else (if a0_2 < a0_1 then (ir_Check.j0 k true a0_0 a0_1 a0_2 l0_3) else (if a0_2 > 64 then (ir_Check.j0 k true a0_0 a0_1 a0_2 l0_3) else (if (l0_3.length : Int) < 1 then (ir_Check.j0 k true a0_0 a0_1 a0_2 l0_3) else (ir_Check.j0 k (decide ((l0_3.length : Int) > 32)) a0_0 a0_1 a0_2 l0_3)))))) = some r := by rw [zC rfl] at H; exact H
  clear H
  have H := H1
  clear H1
  have HC4 := zA H
  clear H
  go_enter Tryd.func78, Tryd.ntmps78
  go_upto_region 3 with (first | ((with_reducible refine gate_dst (N := 1) rfl ?_); (try (refine gate_guard (by rfl) ?_; dsimp only)); refine box_event (by rfl) (N := 1) (by rfl) (cs := #[.string a0_0, .int .i64 a0_1, .int .i64 a0_2, .slice A0_3 l0_3.length c0_3]) (t := 24) ?hr ?_; (case hr => go_simp <;> rfl); intro gb291 hg w5 hbox hb; have BK291 := zA (hbox); have GW291 := qG hg; have GE291 := GW291; replace HB := qH hb; clear hb hbox hg; have z6_0 := bk4 BK291.out) | ((with_reducible refine gate_callee (f := 93) rfl ?_); refine goesL_ (some 13) rfl rfl Tryd.func93 (by kernel_rfl) rfl #[.string a0_0] rfl qL ?_; (with_reducible refine (ir_Name.calls a0_0 true _ A2.out).mono ?_); rintro e w7 ⟨rfl, hb⟩; refine ⟨_, rfl, ?_⟩; replace BK291 := qW BK291 hb; replace HB := qH hb; (try clear hb)))
  (try simp only [Act.put, List.setIfInBounds_toArray, List.set_cons_zero, List.set_cons_succ])
  go_cut [46] (fun v46 wc => ∃ (kq : Nat) (x46_3 : Bool), v46 = .bool x46_3 ∧ Aside0 (ir_Check.j0 kq x46_3 a0_0 a0_1 a0_2 l0_3 = some r) ∧ Aside0 (kq ≤ k) ∧ Aside0 (wc.heap[gb291]? = some (.cells #[.string a0_0, .int .i64 a0_1, .int .i64 a0_2, (.slice A0_3 l0_3.length c0_3)] 24 (0, 0))) ∧ Aside0 (Below w.heap.size w wc))
  case first =>
   have H := HC4.out
   clear HC4
   by_cases c8 : a0_1 < 0
   ·rw [zC c8] at H
    have c8b0 := zF c8
    clear c8
    (first | rw [c8b0] | (simp only [i64_w, i32_w]; rw [c8b0]) | skip)
    have H' := zA H
    clear H
    have z9_0 := bk4 BK291.out
    go_wp2
    go_meet
    case rel => exact ⟨_, (true), qT, H', ⟨qO⟩, ⟨qK BK291.out⟩, ⟨qB⟩⟩
   ·rw [zD c8] at H
    have c8b0 := zG c8
    clear c8
    (first | rw [c8b0] | (simp only [i64_w, i32_w]; rw [c8b0]) | skip)
    by_cases c10 : a0_1 > 4
    ·rw [zC c10] at H
     have c10b0 : decide (4 < a0_1) = true := zF c10
     clear c10
     have H' := zA H
     clear H
     have z11_0 := bk4 BK291.out
     go_wp2
     go_meet
     case rel => exact ⟨_, (true), qT, H', ⟨qO⟩, ⟨qK BK291.out⟩, ⟨qB⟩⟩
    ·rw [zD c10] at H
     have c10b0 : decide (4 < a0_1) = false := zG c10
     clear c10
     by_cases c12 : a0_2 < a0_1
     ·rw [zC c12] at H
      have c12b0 := zF c12
      clear c12
      have H' := zA H
      clear H
      have z13_0 := bk4 BK291.out
      go_wp2
      go_meet
      case rel => exact ⟨_, (true), qT, H', ⟨qO⟩, ⟨qK BK291.out⟩, ⟨qB⟩⟩
     ·rw [zD c12] at H
      have c12b0 := zG c12
      clear c12
      by_cases c14 : a0_2 > 64
      ·rw [zC c14] at H
       have c14b0 : decide (64 < a0_2) = true := zF c14
       clear c14
       have H' := zA H
       clear H
       have z15_0 := bk4 BK291.out
       go_wp2
       go_meet
       case rel => exact ⟨_, (true), qT, H', ⟨qO⟩, ⟨qK BK291.out⟩, ⟨qB⟩⟩
      ·rw [zD c14] at H
       have c14b0 : decide (64 < a0_2) = false := zG c14
       clear c14
       by_cases c16 : (l0_3.length : Int) < 1
       ·rw [zC c16] at H
        have c16b0 := zF c16
        have c16b1 : decide (l0_3.length < 1) = true := zF (by omega)
        clear c16
        have H' := zA H
        clear H
        have z17_0 := bk4 BK291.out
        go_wp2
        go_meet
        case rel => exact ⟨_, (true), qT, H', ⟨qO⟩, ⟨qK BK291.out⟩, ⟨qB⟩⟩
       ·rw [zD c16] at H
        have c16b0 := zG c16
        have c16b1 : decide (l0_3.length < 1) = false := zG (by omega)
        clear c16
        have H' := zA H
        clear H
        have z18_0 := bk4 BK291.out
        go_wp2
        go_meet
        case rel => exact ⟨_, (decide ((l0_3.length : Int) > 32)), qT, H', ⟨qO⟩, ⟨qK BK291.out⟩, ⟨qB⟩⟩
  case rest =>
   clear HC4
   obtain ⟨kq, x46_3, rfl, HA, HJ3, BK291, HB⟩ := hcut
   cases kq with
   | zero => exact absurd HA.out (by simp [ir_Check.j0])
   | succ kj3 =>
    have H := HA.out
    clear HA
    simp only [ir_Check.j0] at H
    by_cases c19 : x46_3 = true
    ·subst c19
     have H1 : (some 71) = some r := by rw [zC rfl] at H; exact H
     clear H
     have H := H1
     clear H1
     obtain rfl := zI H
     go_wp2
     go_ret
     exact ⟨qE, qB⟩
    ·replace c19 := Bool.eq_false_iff.mpr c19
     subst c19
     have H1 : (ir_Check.l0 kj3 200 l0_3 (l0_3.length : Int) 0 a0_0 a0_1 a0_2 l0_3) = some r := by rw [zD (show ¬ (false = true) by decide)] at H; exact H
     clear H
     have H := H1
     clear H1
     have H' := zA H
     clear H
     have z20_0 := bk4 BK291.out
     go_wp2
     go_loopg [3, 50] kj3 (fun kq v3 v50 w' => ∃ (x3_2 : Int) (x50_2 : Int), v3 = .int .i64 x3_2 ∧ v50 = .int .i64 x50_2 ∧ Aside0 (ir_Check.l0 kq x3_2 l0_3 (l0_3.length : Int) x50_2 a0_0 a0_1 a0_2 l0_3 = some r) ∧ Aside0 (kq ≤ kj3) ∧ Aside0 (w'.heap[gb291]? = some (.cells #[.string a0_0, .int .i64 a0_1, .int .i64 a0_2, (.slice A0_3 l0_3.length c0_3)] 24 (0, 0))) ∧ Aside0 (Below w.heap.size w w'))
     case atStart => exact ⟨(200), (0), qT, qT, H', ⟨Nat.le_refl _⟩, ⟨qK BK291.out⟩, ⟨qB⟩⟩
     case round =>
      clear H'
      obtain ⟨x3_2, x50_2, rfl, rfl, HA, HK2, BK291, HB⟩ := hrel
      cases gk with
      | zero => exact absurd HA.out (by simp [ir_Check.l0])
      | succ k2 =>
       have H := HA.out
       clear HA
       simp only [ir_Check.l0] at H
       by_cases c21 : x50_2 < (l0_3.length : Int)
       ·rw [zC c21] at H
        have c21b0 := zF c21
        clear c21
        by_cases c22 : 0 ≤ x50_2
        ·rw [zC c22] at H
         have c22b0 := zF c22
         clear c22
         by_cases c23 : x50_2 < (l0_3.length : Int)
         ·rw [zC c23] at H
          have c23b0 := zF c23
          clear c23
          by_cases c24 : ((rd_LIns l0_3 x50_2).length : Int) = 0
          ·rw [zC c24] at H
           obtain ⟨c24b0, c24b1⟩ := qe c24; clear c24
           obtain rfl := zI H
           have p293 : 0 ≤ (x50_2 : Int) := zB qA
           have q293 : x50_2 < (l0_3.length : Int) := zB qA
           obtain ⟨ad293, A293_0, c293_0, e293, hx293_0, hl293_0, hi293_0⟩ := at_LIns HR0_3.out x50_2 p293 q293
           cases e293
           replace hx293_0 := (HB.out.cell (zE w _ hx293_0)).trans hx293_0
           have HR293_0 := zA hi293_0
           have HC293_0 := zA hl293_0
           clear hi293_0 hl293_0
           replace p293 := eq_true p293
           replace q293 := eq_true q293
           go_wp2
           go_ret
           exact ⟨qE, qB⟩
          ·rw [zD c24] at H
           obtain ⟨c24b0, c24b1⟩ := qn c24
           have c24b2 : ¬ ((rd_LIns l0_3 x50_2) = []) := fun h_ => c24 (by rw [h_]; rfl)
           by_cases c25 : ((rd_LIns l0_3 x50_2).length : Int) > x3_2
           ·rw [zC c25] at H
            have c25b0 : decide (x3_2 < ((rd_LIns l0_3 x50_2).length : Int)) = true := zF c25
            clear c25
            obtain rfl := zI H
            have p293 : 0 ≤ (x50_2 : Int) := zB qA
            have q293 : x50_2 < (l0_3.length : Int) := zB qA
            obtain ⟨ad293, A293_0, c293_0, e293, hx293_0, hl293_0, hi293_0⟩ := at_LIns HR0_3.out x50_2 p293 q293
            cases e293
            replace hx293_0 := (HB.out.cell (zE w _ hx293_0)).trans hx293_0
            have HR293_0 := zA hi293_0
            have HC293_0 := zA hl293_0
            clear hi293_0 hl293_0
            replace p293 := eq_true p293
            replace q293 := eq_true q293
            go_wp2
            go_ret
            exact ⟨qE, qB⟩
           ·rw [zD c25] at H
            have c25b0 : decide (x3_2 < ((rd_LIns l0_3 x50_2).length : Int)) = false := zG c25
            clear c25
            have H' := zA H
            clear H
            have p293 : 0 ≤ (x50_2 : Int) := zB qA
            have q293 : x50_2 < (l0_3.length : Int) := zB qA
            obtain ⟨ad293, A293_0, c293_0, e293, hx293_0, hl293_0, hi293_0⟩ := at_LIns HR0_3.out x50_2 p293 q293
            cases e293
            replace hx293_0 := (HB.out.cell (zE w _ hx293_0)).trans hx293_0
            have HR293_0 := zA hi293_0
            have HC293_0 := zA hl293_0
            clear hi293_0 hl293_0
            replace p293 := eq_true p293
            replace q293 := eq_true q293
            go_wp2
            go_roundg k2
            case measure => have := HJ3.out; have := HK2.out; omega
            case rel => exact ⟨(wrap64 (x3_2 - ((rd_LIns l0_3 x50_2).length : Int))), (wrap64 (x50_2 + 1)), qT, qT, H', ⟨by have := HJ3.out; have := HK2.out; omega⟩, ⟨qK BK291.out⟩, ⟨qB⟩⟩
         ·rw [zD c23] at H
          exact absurd H (by simp)
        ·rw [zD c22] at H
         exact absurd H (by simp)
       ·rw [zD c21] at H
        have c21b0 := zG c21
        clear c21
        have H' := zA H
        clear H
        have z26_0 := bk4 BK291.out
        go_wp2
        go_loopg [71] k2 (fun kq v71 w' => ∃ (x71_3 : Int), v71 = .int .i64 x71_3 ∧ Aside0 (ir_Check.l1 kq l0_3 (l0_3.length : Int) x71_3 a0_0 a0_1 a0_2 l0_3 = some r) ∧ Aside0 (kq ≤ k2) ∧ Aside0 (w'.heap[gb291]? = some (.cells #[.string a0_0, .int .i64 a0_1, .int .i64 a0_2, (.slice A0_3 l0_3.length c0_3)] 24 (0, 0))) ∧ Aside0 (Below w.heap.size w w'))
        case atStart => exact ⟨(0), qT, H', ⟨Nat.le_refl _⟩, ⟨qK BK291.out⟩, ⟨qB⟩⟩
        case round =>
         clear H'
         obtain ⟨x71_3, rfl, HA, HK3, BK291, HB⟩ := hrel
         cases gk with
         | zero => exact absurd HA.out (by simp [ir_Check.l1])
         | succ k3 =>
          have H := HA.out
          clear HA
          simp only [ir_Check.l1] at H
          by_cases c27 : x71_3 < (l0_3.length : Int)
          ·rw [zC c27] at H
           have c27b0 := zF c27
           clear c27
           by_cases c28 : 0 ≤ x71_3
           ·rw [zC c28] at H
            have c28b0 := zF c28
            clear c28
            by_cases c29 : x71_3 < (l0_3.length : Int)
            ·rw [zC c29] at H
             have c29b0 := zF c29
             clear c29
             have H' := zA H
             clear H
             have p294 : 0 ≤ (x71_3 : Int) := zB qA
             have q294 : x71_3 < (l0_3.length : Int) := zB qA
             obtain ⟨ad294, A294_0, c294_0, e294, hx294_0, hl294_0, hi294_0⟩ := at_LIns HR0_3.out x71_3 p294 q294
             cases e294
             replace hx294_0 := (HB.out.cell (zE w _ hx294_0)).trans hx294_0
             have HR294_0 := zA hi294_0
             have HC294_0 := zA hl294_0
             clear hi294_0 hl294_0
             replace p294 := eq_true p294
             replace q294 := eq_true q294
             go_wp2
             go_loopg [77] k3 (fun kq v77 w' => ∃ (x77_4 : Int), v77 = .int .i64 x77_4 ∧ Aside0 (ir_Check.l2 kq (rd_LIns l0_3 x71_3) l0_3 (l0_3.length : Int) x71_3 (rd_LIns l0_3 x71_3) ((rd_LIns l0_3 x71_3).length : Int) x77_4 a0_0 a0_1 a0_2 l0_3 = some r) ∧ Aside0 (kq ≤ k3) ∧ Aside0 (w'.heap[gb291]? = some (.cells #[.string a0_0, .int .i64 a0_1, .int .i64 a0_2, (.slice (some ad294) l0_3.length c0_3)] 24 (0, 0))) ∧ Aside0 (Below w.heap.size w w'))
             case atStart => exact ⟨(0), qT, H', ⟨Nat.le_refl _⟩, ⟨qK BK291.out⟩, ⟨qB⟩⟩
             case round =>
              clear H'
              obtain ⟨x77_4, rfl, HA, HK4, BK291, HB⟩ := hrel
              cases gk with
              | zero => exact absurd HA.out (by simp [ir_Check.l2])
              | succ k4 =>
               have H := HA.out
               clear HA
               simp only [ir_Check.l2] at H
               by_cases c30 : x77_4 < ((rd_LIns l0_3 x71_3).length : Int)
               ·rw [zC c30] at H
                have c30b0 := zF c30
                clear c30
                by_cases c31 : 0 ≤ x77_4
                ·rw [zC c31] at H
                 have c31b0 := zF c31
                 clear c31
                 by_cases c32 : x77_4 < ((rd_LIns l0_3 x71_3).length : Int)
                 ·rw [zC c32] at H
                  have c32b0 := zF c32
                  clear c32
                  replace H := qb H; obtain ⟨t297, A33, H⟩ := H
                  by_cases c34 : t297 = 0
                  ·rw [zC c34] at H
                   obtain ⟨c34b0, c34b1⟩ := qe c34; clear c34
                   have H' := zA H
                   clear H
                   have p295 : 0 ≤ (x77_4 : Int) := zB qA
                   have q295 : x77_4 < ((rd_LIns l0_3 x71_3).length : Int) := zB qA
                   obtain ⟨ad295, A295_5, c295_5, e295, hx295_0, hx295_1, hx295_2, hx295_3, hx295_4, hx295_5, hl295_5, hi295_5⟩ := at_TIns HR294_0.out x77_4 p295 q295
                   cases e295
                   replace hx295_0 := (HB.out.cell (zE w _ hx295_0)).trans hx295_0
                   replace hx295_1 := (HB.out.cell (zE w _ hx295_1)).trans hx295_1
                   replace hx295_2 := (HB.out.cell (zE w _ hx295_2)).trans hx295_2
                   replace hx295_3 := (HB.out.cell (zE w _ hx295_3)).trans hx295_3
                   replace hx295_4 := (HB.out.cell (zE w _ hx295_4)).trans hx295_4
                   replace hx295_5 := (HB.out.cell (zE w _ hx295_5)).trans hx295_5
                   have HR295_5 := zA hi295_5
                   have HC295_5 := zA hl295_5
                   clear hi295_5 hl295_5
                   replace p295 := eq_true p295
                   replace q295 := eq_true q295
                   go_wp2_with (first | ((with_reducible refine gate_dst (N := 9) rfl ?_); (try (refine gate_guard (by rfl) ?_; dsimp only)); refine box_event (by rfl) (N := 9) (by rfl) (cs := #[.int .i64 0, .int .i64 0, .int .i64 0, .int .i64 0, .string (⟨#[]⟩ : ByteArray), .slice none 0 0]) (t := 38) ?hr ?_; (case hr => go_simp <;> rfl); intro gb296 hg w35 hbox hb; have BK296 := zA (hbox); have GW296 := qG hg; have GE296 := GW296; replace HB := qH hb; have NB291_296 := zA ((by rw [hg]; exact Nat.ne_of_lt (blk_lt (g := gb291) (o := .cells #[.string a0_0, .int .i64 a0_1, .int .i64 a0_2, .slice (some ad294) l0_3.length c0_3] 24 (0, 0)) (qK BK291.out)) : gb291 ≠ gb296)); have NB296_291 := zA ((by rw [hg]; exact Nat.ne_of_gt (blk_lt (g := gb291) (o := .cells #[.string a0_0, .int .i64 a0_1, .int .i64 a0_2, .slice (some ad294) l0_3.length c0_3] 24 (0, 0)) (qK BK291.out)) : gb296 ≠ gb291)); replace BK291 := qW BK291 hb; clear hb hbox hg; have hnb36 := NB296_291.out; have hnc36 := NB291_296.out; have z37_0 := bk6 BK296.out; have z38_0 := bk4 BK291.out) | ((with_reducible refine gate_callee (f := 118) rfl ?_); refine goesL_ (some 89) rfl rfl Tryd.func118 (by kernel_rfl) rfl #[.agg #[.string a0_0, .int .i64 a0_1, .int .i64 a0_2, .slice (some ad294) l0_3.length c0_3], .agg #[.int .i64 ((rd_TIns (rd_LIns l0_3 x71_3) x77_4).f0), .int .i64 ((rd_TIns (rd_LIns l0_3 x71_3) x77_4).f1), .int .i64 ((rd_TIns (rd_LIns l0_3 x71_3) x77_4).f2), .int .i64 ((rd_TIns (rd_LIns l0_3 x71_3) x77_4).f3), .string ((rd_TIns (rd_LIns l0_3 x71_3) x77_4).f4), .slice A295_5 ((rd_TIns (rd_LIns l0_3 x71_3) x77_4).f5).length c295_5], .bool (x77_4 == (wrap64 (((rd_LIns l0_3 x71_3).length : Int) - 1)))] rfl qL ?_; (with_reducible refine (ir_one.calls k4 a0_0 a0_1 a0_2 _ _ l0_3 ((rd_TIns (rd_LIns l0_3 x71_3) x77_4).f0) ((rd_TIns (rd_LIns l0_3 x71_3) x77_4).f1) ((rd_TIns (rd_LIns l0_3 x71_3) x77_4).f2) ((rd_TIns (rd_LIns l0_3 x71_3) x77_4).f3) ((rd_TIns (rd_LIns l0_3 x71_3) x77_4).f4) _ _ ((rd_TIns (rd_LIns l0_3 x71_3) x77_4).f5) (x77_4 == (wrap64 (((rd_LIns l0_3 x71_3).length : Int) - 1))) t297 _ ?side1 ?side2 ?side3 ?side4 A33.out (hL := ?side99)).mono ?_); (case side1 => exact Kd.C_below HR0_3.out qB); (case side2 => exact HC0_3.out); (case side3 => exact Kd.C_below HR295_5.out qB); (case side4 => exact HC295_5.out); (case side99 => exact LaidW.below HLd.out qB); rintro e w39 ⟨rfl, hb⟩; refine ⟨_, rfl, ?_⟩; replace BK291 := zA (blk_below (g := gb291) (o := .cells #[.string a0_0, .int .i64 a0_1, .int .i64 a0_2, .slice (some ad294) l0_3.length c0_3] 24 (0, 0)) (by (with_reducible repeat (first | refine blk_drewN ?_ _ | refine blk_drew ?_ | refine blk_alloc ?_ _)); refine blk_far ?_ NB291_296.out _; (with_reducible repeat (first | refine blk_drewN ?_ _ | refine blk_drew ?_ | refine blk_alloc ?_ _)); refine blk_far ?_ NB291_296.out _; (with_reducible repeat (first | refine blk_drewN ?_ _ | refine blk_drew ?_ | refine blk_alloc ?_ _)); refine blk_far ?_ NB291_296.out _; (with_reducible repeat (first | refine blk_drewN ?_ _ | refine blk_drew ?_ | refine blk_alloc ?_ _)); refine blk_far ?_ NB291_296.out _; (with_reducible repeat (first | refine blk_drewN ?_ _ | refine blk_drew ?_ | refine blk_alloc ?_ _)); refine blk_far ?_ NB291_296.out _; (with_reducible repeat (first | refine blk_drewN ?_ _ | refine blk_drew ?_ | refine blk_alloc ?_ _)); refine blk_far ?_ NB291_296.out _; (with_reducible repeat (first | refine blk_drewN ?_ _ | refine blk_drew ?_ | refine blk_alloc ?_ _)); exact BK291.out) hb); replace BK296 := zA (blk_below (g := gb296) (o := .cells #[.int .i64 ((rd_TIns (rd_LIns l0_3 x71_3) x77_4).f0), .int .i64 ((rd_TIns (rd_LIns l0_3 x71_3) x77_4).f1), .int .i64 ((rd_TIns (rd_LIns l0_3 x71_3) x77_4).f2), .int .i64 ((rd_TIns (rd_LIns l0_3 x71_3) x77_4).f3), .string ((rd_TIns (rd_LIns l0_3 x71_3) x77_4).f4), .slice A295_5 ((rd_TIns (rd_LIns l0_3 x71_3) x77_4).f5).length c295_5] 38 (0, 0)) (by (with_reducible repeat (first | refine blk_drewN ?_ _ | refine blk_drew ?_ | refine blk_alloc ?_ _)); refine blk_put (cs := #[.int .i64 ((rd_TIns (rd_LIns l0_3 x71_3) x77_4).f0), .int .i64 ((rd_TIns (rd_LIns l0_3 x71_3) x77_4).f1), .int .i64 ((rd_TIns (rd_LIns l0_3 x71_3) x77_4).f2), .int .i64 ((rd_TIns (rd_LIns l0_3 x71_3) x77_4).f3), .string ((rd_TIns (rd_LIns l0_3 x71_3) x77_4).f4), .slice none 0 0]) ?_ 5 _ rfl; (with_reducible repeat (first | refine blk_drewN ?_ _ | refine blk_drew ?_ | refine blk_alloc ?_ _)); refine blk_put (cs := #[.int .i64 ((rd_TIns (rd_LIns l0_3 x71_3) x77_4).f0), .int .i64 ((rd_TIns (rd_LIns l0_3 x71_3) x77_4).f1), .int .i64 ((rd_TIns (rd_LIns l0_3 x71_3) x77_4).f2), .int .i64 ((rd_TIns (rd_LIns l0_3 x71_3) x77_4).f3), .string (⟨#[]⟩ : ByteArray), .slice none 0 0]) ?_ 4 _ rfl; (with_reducible repeat (first | refine blk_drewN ?_ _ | refine blk_drew ?_ | refine blk_alloc ?_ _)); refine blk_put (cs := #[.int .i64 ((rd_TIns (rd_LIns l0_3 x71_3) x77_4).f0), .int .i64 ((rd_TIns (rd_LIns l0_3 x71_3) x77_4).f1), .int .i64 ((rd_TIns (rd_LIns l0_3 x71_3) x77_4).f2), .int .i64 0, .string (⟨#[]⟩ : ByteArray), .slice none 0 0]) ?_ 3 _ rfl; (with_reducible repeat (first | refine blk_drewN ?_ _ | refine blk_drew ?_ | refine blk_alloc ?_ _)); refine blk_put (cs := #[.int .i64 ((rd_TIns (rd_LIns l0_3 x71_3) x77_4).f0), .int .i64 ((rd_TIns (rd_LIns l0_3 x71_3) x77_4).f1), .int .i64 0, .int .i64 0, .string (⟨#[]⟩ : ByteArray), .slice none 0 0]) ?_ 2 _ rfl; (with_reducible repeat (first | refine blk_drewN ?_ _ | refine blk_drew ?_ | refine blk_alloc ?_ _)); refine blk_put (cs := #[.int .i64 ((rd_TIns (rd_LIns l0_3 x71_3) x77_4).f0), .int .i64 0, .int .i64 0, .int .i64 0, .string (⟨#[]⟩ : ByteArray), .slice none 0 0]) ?_ 1 _ rfl; (with_reducible repeat (first | refine blk_drewN ?_ _ | refine blk_drew ?_ | refine blk_alloc ?_ _)); refine blk_put (cs := #[.int .i64 0, .int .i64 0, .int .i64 0, .int .i64 0, .string (⟨#[]⟩ : ByteArray), .slice none 0 0]) ?_ 0 _ rfl; (with_reducible repeat (first | refine blk_drewN ?_ _ | refine blk_drew ?_ | refine blk_alloc ?_ _)); exact BK296.out) hb); replace HB := qH hb))
                   go_roundg k4
                   case measure => have := HJ3.out; have := HK2.out; have := HK3.out; have := HK4.out; omega
                   case rel => exact ⟨(wrap64 (x77_4 + 1)), qT, H', ⟨by have := HJ3.out; have := HK2.out; have := HK3.out; have := HK4.out; omega⟩, ⟨qK BK291.out⟩, ⟨qB⟩⟩
                  ·rw [zD c34] at H
                   obtain ⟨c34b0, c34b1⟩ := qn c34
                   obtain rfl := zI H
                   have p295 : 0 ≤ (x77_4 : Int) := zB qA
                   have q295 : x77_4 < ((rd_LIns l0_3 x71_3).length : Int) := zB qA
                   obtain ⟨ad295, A295_5, c295_5, e295, hx295_0, hx295_1, hx295_2, hx295_3, hx295_4, hx295_5, hl295_5, hi295_5⟩ := at_TIns HR294_0.out x77_4 p295 q295
                   cases e295
                   replace hx295_0 := (HB.out.cell (zE w _ hx295_0)).trans hx295_0
                   replace hx295_1 := (HB.out.cell (zE w _ hx295_1)).trans hx295_1
                   replace hx295_2 := (HB.out.cell (zE w _ hx295_2)).trans hx295_2
                   replace hx295_3 := (HB.out.cell (zE w _ hx295_3)).trans hx295_3
                   replace hx295_4 := (HB.out.cell (zE w _ hx295_4)).trans hx295_4
                   replace hx295_5 := (HB.out.cell (zE w _ hx295_5)).trans hx295_5
                   have HR295_5 := zA hi295_5
                   have HC295_5 := zA hl295_5
                   clear hi295_5 hl295_5
                   replace p295 := eq_true p295
                   replace q295 := eq_true q295
                   go_wp2_with (first | ((with_reducible refine gate_dst (N := 9) rfl ?_); (try (refine gate_guard (by rfl) ?_; dsimp only)); refine box_event (by rfl) (N := 9) (by rfl) (cs := #[.int .i64 0, .int .i64 0, .int .i64 0, .int .i64 0, .string (⟨#[]⟩ : ByteArray), .slice none 0 0]) (t := 38) ?hr ?_; (case hr => go_simp <;> rfl); intro gb296 hg w40 hbox hb; have BK296 := zA (hbox); have GW296 := qG hg; have GE296 := GW296; replace HB := qH hb; have NB291_296 := zA ((by rw [hg]; exact Nat.ne_of_lt (blk_lt (g := gb291) (o := .cells #[.string a0_0, .int .i64 a0_1, .int .i64 a0_2, .slice (some ad294) l0_3.length c0_3] 24 (0, 0)) (qK BK291.out)) : gb291 ≠ gb296)); have NB296_291 := zA ((by rw [hg]; exact Nat.ne_of_gt (blk_lt (g := gb291) (o := .cells #[.string a0_0, .int .i64 a0_1, .int .i64 a0_2, .slice (some ad294) l0_3.length c0_3] 24 (0, 0)) (qK BK291.out)) : gb296 ≠ gb291)); replace BK291 := qW BK291 hb; clear hb hbox hg; have hnb41 := NB296_291.out; have hnc41 := NB291_296.out; have z42_0 := bk6 BK296.out; have z43_0 := bk4 BK291.out) | ((with_reducible refine gate_callee (f := 118) rfl ?_); refine goesL_ (some 89) rfl rfl Tryd.func118 (by kernel_rfl) rfl #[.agg #[.string a0_0, .int .i64 a0_1, .int .i64 a0_2, .slice (some ad294) l0_3.length c0_3], .agg #[.int .i64 ((rd_TIns (rd_LIns l0_3 x71_3) x77_4).f0), .int .i64 ((rd_TIns (rd_LIns l0_3 x71_3) x77_4).f1), .int .i64 ((rd_TIns (rd_LIns l0_3 x71_3) x77_4).f2), .int .i64 ((rd_TIns (rd_LIns l0_3 x71_3) x77_4).f3), .string ((rd_TIns (rd_LIns l0_3 x71_3) x77_4).f4), .slice A295_5 ((rd_TIns (rd_LIns l0_3 x71_3) x77_4).f5).length c295_5], .bool (x77_4 == (wrap64 (((rd_LIns l0_3 x71_3).length : Int) - 1)))] rfl qL ?_; (with_reducible refine (ir_one.calls k4 a0_0 a0_1 a0_2 _ _ l0_3 ((rd_TIns (rd_LIns l0_3 x71_3) x77_4).f0) ((rd_TIns (rd_LIns l0_3 x71_3) x77_4).f1) ((rd_TIns (rd_LIns l0_3 x71_3) x77_4).f2) ((rd_TIns (rd_LIns l0_3 x71_3) x77_4).f3) ((rd_TIns (rd_LIns l0_3 x71_3) x77_4).f4) _ _ ((rd_TIns (rd_LIns l0_3 x71_3) x77_4).f5) (x77_4 == (wrap64 (((rd_LIns l0_3 x71_3).length : Int) - 1))) t297 _ ?side1 ?side2 ?side3 ?side4 A33.out (hL := ?side99)).mono ?_); (case side1 => exact Kd.C_below HR0_3.out qB); (case side2 => exact HC0_3.out); (case side3 => exact Kd.C_below HR295_5.out qB); (case side4 => exact HC295_5.out); (case side99 => exact LaidW.below HLd.out qB); rintro e w44 ⟨rfl, hb⟩; refine ⟨_, rfl, ?_⟩; replace BK291 := zA (blk_below (g := gb291) (o := .cells #[.string a0_0, .int .i64 a0_1, .int .i64 a0_2, .slice (some ad294) l0_3.length c0_3] 24 (0, 0)) (by (with_reducible repeat (first | refine blk_drewN ?_ _ | refine blk_drew ?_ | refine blk_alloc ?_ _)); refine blk_far ?_ NB291_296.out _; (with_reducible repeat (first | refine blk_drewN ?_ _ | refine blk_drew ?_ | refine blk_alloc ?_ _)); refine blk_far ?_ NB291_296.out _; (with_reducible repeat (first | refine blk_drewN ?_ _ | refine blk_drew ?_ | refine blk_alloc ?_ _)); refine blk_far ?_ NB291_296.out _; (with_reducible repeat (first | refine blk_drewN ?_ _ | refine blk_drew ?_ | refine blk_alloc ?_ _)); refine blk_far ?_ NB291_296.out _; (with_reducible repeat (first | refine blk_drewN ?_ _ | refine blk_drew ?_ | refine blk_alloc ?_ _)); refine blk_far ?_ NB291_296.out _; (with_reducible repeat (first | refine blk_drewN ?_ _ | refine blk_drew ?_ | refine blk_alloc ?_ _)); refine blk_far ?_ NB291_296.out _; (with_reducible repeat (first | refine blk_drewN ?_ _ | refine blk_drew ?_ | refine blk_alloc ?_ _)); exact BK291.out) hb); replace BK296 := zA (blk_below (g := gb296) (o := .cells #[.int .i64 ((rd_TIns (rd_LIns l0_3 x71_3) x77_4).f0), .int .i64 ((rd_TIns (rd_LIns l0_3 x71_3) x77_4).f1), .int .i64 ((rd_TIns (rd_LIns l0_3 x71_3) x77_4).f2), .int .i64 ((rd_TIns (rd_LIns l0_3 x71_3) x77_4).f3), .string ((rd_TIns (rd_LIns l0_3 x71_3) x77_4).f4), .slice A295_5 ((rd_TIns (rd_LIns l0_3 x71_3) x77_4).f5).length c295_5] 38 (0, 0)) (by (with_reducible repeat (first | refine blk_drewN ?_ _ | refine blk_drew ?_ | refine blk_alloc ?_ _)); refine blk_put (cs := #[.int .i64 ((rd_TIns (rd_LIns l0_3 x71_3) x77_4).f0), .int .i64 ((rd_TIns (rd_LIns l0_3 x71_3) x77_4).f1), .int .i64 ((rd_TIns (rd_LIns l0_3 x71_3) x77_4).f2), .int .i64 ((rd_TIns (rd_LIns l0_3 x71_3) x77_4).f3), .string ((rd_TIns (rd_LIns l0_3 x71_3) x77_4).f4), .slice none 0 0]) ?_ 5 _ rfl; (with_reducible repeat (first | refine blk_drewN ?_ _ | refine blk_drew ?_ | refine blk_alloc ?_ _)); refine blk_put (cs := #[.int .i64 ((rd_TIns (rd_LIns l0_3 x71_3) x77_4).f0), .int .i64 ((rd_TIns (rd_LIns l0_3 x71_3) x77_4).f1), .int .i64 ((rd_TIns (rd_LIns l0_3 x71_3) x77_4).f2), .int .i64 ((rd_TIns (rd_LIns l0_3 x71_3) x77_4).f3), .string (⟨#[]⟩ : ByteArray), .slice none 0 0]) ?_ 4 _ rfl; (with_reducible repeat (first | refine blk_drewN ?_ _ | refine blk_drew ?_ | refine blk_alloc ?_ _)); refine blk_put (cs := #[.int .i64 ((rd_TIns (rd_LIns l0_3 x71_3) x77_4).f0), .int .i64 ((rd_TIns (rd_LIns l0_3 x71_3) x77_4).f1), .int .i64 ((rd_TIns (rd_LIns l0_3 x71_3) x77_4).f2), .int .i64 0, .string (⟨#[]⟩ : ByteArray), .slice none 0 0]) ?_ 3 _ rfl; (with_reducible repeat (first | refine blk_drewN ?_ _ | refine blk_drew ?_ | refine blk_alloc ?_ _)); refine blk_put (cs := #[.int .i64 ((rd_TIns (rd_LIns l0_3 x71_3) x77_4).f0), .int .i64 ((rd_TIns (rd_LIns l0_3 x71_3) x77_4).f1), .int .i64 0, .int .i64 0, .string (⟨#[]⟩ : ByteArray), .slice none 0 0]) ?_ 2 _ rfl; (with_reducible repeat (first | refine blk_drewN ?_ _ | refine blk_drew ?_ | refine blk_alloc ?_ _)); refine blk_put (cs := #[.int .i64 ((rd_TIns (rd_LIns l0_3 x71_3) x77_4).f0), .int .i64 0, .int .i64 0, .int .i64 0, .string (⟨#[]⟩ : ByteArray), .slice none 0 0]) ?_ 1 _ rfl; (with_reducible repeat (first | refine blk_drewN ?_ _ | refine blk_drew ?_ | refine blk_alloc ?_ _)); refine blk_put (cs := #[.int .i64 0, .int .i64 0, .int .i64 0, .int .i64 0, .string (⟨#[]⟩ : ByteArray), .slice none 0 0]) ?_ 0 _ rfl; (with_reducible repeat (first | refine blk_drewN ?_ _ | refine blk_drew ?_ | refine blk_alloc ?_ _)); exact BK296.out) hb); replace HB := qH hb))
                   go_ret
                   exact ⟨qE, qB⟩
                 ·rw [zD c32] at H
                  exact absurd H (by simp)
                ·rw [zD c31] at H
                 exact absurd H (by simp)
               ·rw [zD c30] at H
                have c30b0 := zG c30
                clear c30
                have H' := zA H
                clear H
                go_wp2
                go_roundg k4
                case measure => have := HJ3.out; have := HK2.out; have := HK3.out; have := HK4.out; omega
                case rel => exact ⟨(wrap64 (x71_3 + 1)), qT, H', ⟨by have := HJ3.out; have := HK2.out; have := HK3.out; have := HK4.out; omega⟩, ⟨qK BK291.out⟩, ⟨qB⟩⟩
            ·rw [zD c29] at H
             exact absurd H (by simp)
           ·rw [zD c28] at H
            exact absurd H (by simp)
          ·rw [zD c27] at H
           have c27b0 := zG c27
           clear c27
           obtain rfl := zI H
           go_wp2
           go_ret
           exact ⟨qE, qB⟩
 ·replace c3 := Bool.eq_false_iff.mpr c3
  subst c3
  have H1 : (some 70) = some r := by rw [zD (show ¬ (false = true) by decide)] at H; exact H
  clear H
  have H := H1
  clear H1
  obtain rfl := zI H
  go_enter Tryd.func78, Tryd.ntmps78
  go_wp2_with (first | ((with_reducible refine gate_dst (N := 1) rfl ?_); (try (refine gate_guard (by rfl) ?_; dsimp only)); refine box_event (by rfl) (N := 1) (by rfl) (cs := #[.string a0_0, .int .i64 a0_1, .int .i64 a0_2, .slice A0_3 l0_3.length c0_3]) (t := 24) ?hr ?_; (case hr => go_simp <;> rfl); intro gb291 hg w45 hbox hb; have BK291 := zA (hbox); have GW291 := qG hg; have GE291 := GW291; replace HB := qH hb; clear hb hbox hg; have z46_0 := bk4 BK291.out) | ((with_reducible refine gate_callee (f := 93) rfl ?_); refine goesL_ (some 13) rfl rfl Tryd.func93 (by kernel_rfl) rfl #[.string a0_0] rfl qL ?_; (with_reducible refine (ir_Name.calls a0_0 false _ A2.out).mono ?_); rintro e w47 ⟨rfl, hb⟩; refine ⟨_, rfl, ?_⟩; replace BK291 := qW BK291 hb; replace HB := qH hb; (try clear hb)))
  go_ret
  exact ⟨qE, qB⟩

def ir_Def.f (a0_0 : Int) (a0_1 : Int) (a0_2 : Int) (a0_3 : Int) (a0_4 : ByteArray) (l0_5 : List Int) : Option (Int) := (ir_shape.f a0_0).bind fun t326 => (if t326.toList = ([] : List UInt8) then (some (-1)) else (if 0 < (t326.size : Int) then (if (bt t326 0) = 114 then (some a0_1) else (some (-1))) else (none)))
set_option maxHeartbeats 8000000 in
set_option maxRecDepth 100000 in
theorem ir_Def.calls (a0_0 : Int) (a0_1 : Int) (a0_2 : Int) (a0_3 : Int) (a0_4 : ByteArray) (A0_5 : Option Addr) (c0_5 : Nat) (l0_5 : List Int) (r : Int) (w : World) (hL : LaidW w) (hr0_5 : Kd.C (Kd.int .i64) w A0_5 l0_5.length l0_5) (hc0_5 : l0_5.length ≤ c0_5) (h : ir_Def.f a0_0 a0_1 a0_2 a0_3 a0_4 l0_5 = some r) :
 Calls Tryd.prog 46 #[.agg #[.int .i64 a0_0, .int .i64 a0_1, .int .i64 a0_2, .int .i64 a0_3, .string a0_4, .slice A0_5 l0_5.length c0_5]] w fun e w' => e = .returned (.int .i64 r) ∧ Below w.heap.size w w' := by
 have hu38 := Tryd.underlying38
 have HR0_5 := zA hr0_5
 have HC0_5 := zA hc0_5
 clear hr0_5 hc0_5
 have HB := zA (Below.refl w.heap.size w)
 have HLd := zA hL
 clear hL
 have H := h; clear h; unfold ir_Def.f at H
 replace H := qb H; obtain ⟨t326, A2, H⟩ := H
 by_cases c3 : t326.toList = ([] : List UInt8)
 ·rw [zC c3] at H
  obtain ⟨c3b0, c3b1⟩ := qe c3; clear c3
  obtain rfl := zI H
  go_enter Tryd.func46, Tryd.ntmps46
  go_wp2_with (first | ((with_reducible refine gate_dst (N := 1) rfl ?_); refine box_event (by rfl) (N := 1) (by rfl) (cs := #[.int .i64 a0_0, .int .i64 a0_1, .int .i64 a0_2, .int .i64 a0_3, .string a0_4, .slice A0_5 l0_5.length c0_5]) (t := 38) ?hr ?_; (case hr => go_simp <;> rfl); intro gb325 hg w4 hbox hb; have BK325 := zA (hbox); have GW325 := qG hg; have GE325 := GW325; replace HB := qH hb; clear hb hbox hg; have z5_0 := bk6 BK325.out) | ((with_reducible refine gate_callee (f := 85) rfl ?_); refine goesL_ (some 6) rfl rfl Tryd.func85 (by kernel_rfl) rfl #[.int .i64 a0_0] rfl qL ?_; (with_reducible refine (ir_shape.calls a0_0 t326 _ A2.out (hL := ?side99)).mono ?_); (case side99 => exact LaidW.below HLd.out qB); rintro e w' ⟨rfl, ⟨nd, rfl⟩⟩; refine ⟨_, rfl, ?_⟩))
  go_ret
  exact ⟨qE, qB⟩
 ·rw [zD c3] at H
  obtain ⟨c3b0, c3b1⟩ := qn c3
  by_cases c6 : 0 < (t326.size : Int)
  ·rw [zC c6] at H
   have c6b0 := zF c6
   have c6b1 : decide (0 < t326.size) = true := zF (by omega)
   clear c6
   by_cases c8 : (bt t326 0) = 114
   ·rw [zC c8] at H
    obtain ⟨c8b0, c8b1⟩ := qe c8; clear c8
    obtain rfl := zI H
    go_enter Tryd.func46, Tryd.ntmps46
    go_wp2_with (first | ((with_reducible refine gate_dst (N := 1) rfl ?_); refine box_event (by rfl) (N := 1) (by rfl) (cs := #[.int .i64 a0_0, .int .i64 a0_1, .int .i64 a0_2, .int .i64 a0_3, .string a0_4, .slice A0_5 l0_5.length c0_5]) (t := 38) ?hr ?_; (case hr => go_simp <;> rfl); intro gb325 hg w9 hbox hb; have BK325 := zA (hbox); have GW325 := qG hg; have GE325 := GW325; replace HB := qH hb; clear hb hbox hg; have z10_0 := bk6 BK325.out) | ((with_reducible refine gate_callee (f := 85) rfl ?_); refine goesL_ (some 6) rfl rfl Tryd.func85 (by kernel_rfl) rfl #[.int .i64 a0_0] rfl qL ?_; (with_reducible refine (ir_shape.calls a0_0 t326 _ A2.out (hL := ?side99)).mono ?_); (case side99 => exact LaidW.below HLd.out qB); rintro e w' ⟨rfl, ⟨nd, rfl⟩⟩; refine ⟨_, rfl, ?_⟩; have p7 : 0 ≤ (0 : Int) := (by omega); have q7 : 0 < t326.size := (by have : (0 : Int) < (t326.size : Int) := zB qA; omega); have hx7 : ∀ h : 0 < t326.size, ((t326[0]'h).toNat : Int) = bt t326 0 := bt_at t326 0; clear p7; have qi7 : (0 < (t326.size : Int)) = True := eq_true (zB qA); replace q7 := eq_true q7))
    go_ret
    exact ⟨qE, qB⟩
   ·rw [zD c8] at H
    obtain ⟨c8b0, c8b1⟩ := qn c8
    obtain rfl := zI H
    go_enter Tryd.func46, Tryd.ntmps46
    go_wp2_with (first | ((with_reducible refine gate_dst (N := 1) rfl ?_); refine box_event (by rfl) (N := 1) (by rfl) (cs := #[.int .i64 a0_0, .int .i64 a0_1, .int .i64 a0_2, .int .i64 a0_3, .string a0_4, .slice A0_5 l0_5.length c0_5]) (t := 38) ?hr ?_; (case hr => go_simp <;> rfl); intro gb325 hg w11 hbox hb; have BK325 := zA (hbox); have GW325 := qG hg; have GE325 := GW325; replace HB := qH hb; clear hb hbox hg; have z12_0 := bk6 BK325.out) | ((with_reducible refine gate_callee (f := 85) rfl ?_); refine goesL_ (some 6) rfl rfl Tryd.func85 (by kernel_rfl) rfl #[.int .i64 a0_0] rfl qL ?_; (with_reducible refine (ir_shape.calls a0_0 t326 _ A2.out (hL := ?side99)).mono ?_); (case side99 => exact LaidW.below HLd.out qB); rintro e w' ⟨rfl, ⟨nd, rfl⟩⟩; refine ⟨_, rfl, ?_⟩; have p7 : 0 ≤ (0 : Int) := (by omega); have q7 : 0 < t326.size := (by have : (0 : Int) < (t326.size : Int) := zB qA; omega); have hx7 : ∀ h : 0 < t326.size, ((t326[0]'h).toNat : Int) = bt t326 0 := bt_at t326 0; clear p7; have qi7 : (0 < (t326.size : Int)) = True := eq_true (zB qA); replace q7 := eq_true q7))
    go_ret
    exact ⟨qE, qB⟩
  ·rw [zD c6] at H
   exact absurd H (by simp)

def ir_Uses.j0 : Nat → List Int → ByteArray → Int → Int → Int → Int → ByteArray → List Int → Option (List Int)
 | 0, _, _, _, _, _, _, _, _ => none
 | k + 1, x3, x4, x312000, x312001, x312002, x312003, x312004, x312005 => if 2 < (x4.size : Int) then (if (bt x4 2) = 114 then (if x3.length < 17592186044416 then ((some (x3 ++ [x312003] : List Int)).bind fun y316 => (if x312000 = 11 then (if y316.length + x312005.length < 17592186044416 then (some (y316 ++ x312005)) else (none)) else (some y316))) else (none)) else (if x312000 = 11 then (if x3.length + x312005.length < 17592186044416 then (some (x3 ++ x312005)) else (none)) else (some x3))) else (none)
def ir_Uses.f (k : Nat) (a0_0 : Int) (a0_1 : Int) (a0_2 : Int) (a0_3 : Int) (a0_4 : ByteArray) (l0_5 : List Int) : Option (List Int) := (ir_shape.f a0_0).bind fun t312 => (if t312.toList = ([] : List UInt8) then (some ([] : List Int)) else (if 1 < (t312.size : Int) then (if (bt t312 1) = 114 then (if ([] : List Int).length < 17592186044416 then (ir_Uses.j0 k (([] : List Int) ++ [a0_2]) t312 a0_0 a0_1 a0_2 a0_3 a0_4 l0_5) else (none)) else (ir_Uses.j0 k ([] : List Int) t312 a0_0 a0_1 a0_2 a0_3 a0_4 l0_5)) else (none)))
set_option maxHeartbeats 8000000 in
set_option maxRecDepth 100000 in
theorem ir_Uses.calls (k : Nat) (a0_0 : Int) (a0_1 : Int) (a0_2 : Int) (a0_3 : Int) (a0_4 : ByteArray) (A0_5 : Option Addr) (c0_5 : Nat) (l0_5 : List Int) (r : List Int) (w : World) (hL : LaidW w) (hr0_5 : Kd.C (Kd.int .i64) w A0_5 l0_5.length l0_5) (hc0_5 : l0_5.length ≤ c0_5) (h : ir_Uses.f k a0_0 a0_1 a0_2 a0_3 a0_4 l0_5 = some r) :
 Calls Tryd.prog 45 #[.agg #[.int .i64 a0_0, .int .i64 a0_1, .int .i64 a0_2, .int .i64 a0_3, .string a0_4, .slice A0_5 l0_5.length c0_5]] w fun e w' => ∃ v0_ : Value, e = .returned (v0_) ∧ Kd.R (Kd.int .i64) 3 w' w.heap.size (fun _ => True) v0_ r ∧ Below w.heap.size w w' := by
 have hu38 := Tryd.underlying38
 have HR0_5 := zA hr0_5
 have HC0_5 := zA hc0_5
 clear hr0_5 hc0_5
 have HB := zA (Below.refl w.heap.size w)
 have HLd := zA hL
 clear hL
 have H := h; clear h; unfold ir_Uses.f at H
 replace H := qb H; obtain ⟨t312, A2, H⟩ := H
 by_cases c3 : t312.toList = ([] : List UInt8)
 ·rw [zC c3] at H
  obtain ⟨c3b0, c3b1⟩ := qe c3; clear c3
  obtain rfl := zI H
  go_enter Tryd.func45, Tryd.ntmps45
  go_wp2_with (first | ((with_reducible refine gate_dst (N := 1) rfl ?_); refine box_event (by rfl) (N := 1) (by rfl) (cs := #[.int .i64 a0_0, .int .i64 a0_1, .int .i64 a0_2, .int .i64 a0_3, .string a0_4, .slice A0_5 l0_5.length c0_5]) (t := 38) ?hr ?_; (case hr => go_simp <;> rfl); intro gb311 hg w4 hbox hb; have BK311 := zA (hbox); have GW311 := qG hg; have GE311 := GW311; replace HB := qH hb; clear hb hbox hg; have z5_0 := bk6 BK311.out) | ((with_reducible refine gate_callee (f := 85) rfl ?_); refine goesL_ (some 7) rfl rfl Tryd.func85 (by kernel_rfl) rfl #[.int .i64 a0_0] rfl qL ?_; (with_reducible refine (ir_shape.calls a0_0 t312 _ A2.out (hL := ?side99)).mono ?_); (case side99 => exact LaidW.below HLd.out qB); rintro e w' ⟨rfl, ⟨nd, rfl⟩⟩; refine ⟨_, rfl, ?_⟩))
  go_ret
  exact ⟨_, qE, by first | exact Kd.R_nil _ _ _ _ _ | exact Kd.N_nil _ _ _ _ _ | exact Kd.V_nil _ _ _ _ _ | exact Kd.Q_nil _ _ _ _ _ | exact Kd.S_nil _ _ _ _ _, qB⟩
 ·rw [zD c3] at H
  obtain ⟨c3b0, c3b1⟩ := qn c3
  by_cases c6 : 1 < (t312.size : Int)
  ·rw [zC c6] at H
   have c6b0 := zF c6
   have c6b1 : decide (1 < t312.size) = true := zF (by omega)
   clear c6
   have HC8 := zA H
   clear H
   go_enter Tryd.func45, Tryd.ntmps45
   go_upto_if 12 with (first | ((with_reducible refine gate_dst (N := 1) rfl ?_); refine box_event (by rfl) (N := 1) (by rfl) (cs := #[.int .i64 a0_0, .int .i64 a0_1, .int .i64 a0_2, .int .i64 a0_3, .string a0_4, .slice A0_5 l0_5.length c0_5]) (t := 38) ?hr ?_; (case hr => go_simp <;> rfl); intro gb311 hg w9 hbox hb; have BK311 := zA (hbox); have GW311 := qG hg; have GE311 := GW311; replace HB := qH hb; clear hb hbox hg; have z10_0 := bk6 BK311.out) | ((with_reducible refine gate_callee (f := 85) rfl ?_); refine goesL_ (some 7) rfl rfl Tryd.func85 (by kernel_rfl) rfl #[.int .i64 a0_0] rfl qL ?_; (with_reducible refine (ir_shape.calls a0_0 t312 _ A2.out (hL := ?side99)).mono ?_); (case side99 => exact LaidW.below HLd.out qB); rintro e w' ⟨rfl, ⟨nd, rfl⟩⟩; refine ⟨_, rfl, ?_⟩; have p7 : 0 ≤ (1 : Int) := (by omega); have q7 : 1 < t312.size := (by have : (1 : Int) < (t312.size : Int) := zB qA; omega); have hx7 : ∀ h : 1 < t312.size, ((t312[1]'h).toNat : Int) = bt t312 1 := bt_at t312 1; clear p7; have qi7 : (1 < (t312.size : Int)) = True := eq_true (zB qA); replace q7 := eq_true q7))
   (try simp only [Act.put, List.setIfInBounds_toArray, List.set_cons_zero, List.set_cons_succ])
   go_cut [3] (fun v3 wc => ∃ (kq : Nat) (x3_7 : List Int), Aside0 (ir_Uses.j0 kq x3_7 t312 a0_0 a0_1 a0_2 a0_3 a0_4 l0_5 = some r) ∧ Aside0 (kq ≤ k) ∧ Aside0 (Kd.R (Kd.int .i64) 3 wc w.heap.size (fun _ => True) v3 x3_7) ∧ Aside0 (wc.heap[gb311]? = some (.cells #[.int .i64 a0_0, .int .i64 a0_1, .int .i64 a0_2, .int .i64 a0_3, .string a0_4, (.slice A0_5 l0_5.length c0_5)] 38 (0, 0))) ∧ Aside0 (Below w.heap.size w wc))
   case first =>
    have H := HC8.out
    clear HC8
    by_cases c11 : (bt t312 1) = 114
    ·rw [zC c11] at H
     obtain ⟨c11b0, c11b1⟩ := qe c11; clear c11
     (first | rw [c11b0] | (simp only [i64_w, i32_w]; rw [c11b0]) | skip)
     by_cases c12 : ([] : List Int).length < 17592186044416
     ·rw [zC c12] at H
      have LMc12 := zA c12
      clear c12
      obtain ⟨y313, hy313⟩ : ∃ y_ : List Int, y_ = (([] : List Int) ++ [a0_2]) := ⟨_, rfl⟩
      replace H : (ir_Uses.j0 k y313 t312 a0_0 a0_1 a0_2 a0_3 a0_4 l0_5) = some r := by (try rw [hy313]); first | with_reducible exact H | exact (zJ _ _).symm.trans H | exact H
      have Ny313 := zA hy313
      clear hy313
      have H' := zA H
      clear H
      have z13_0 := bk6 BK311.out
      go_wp2_with (first | ((with_reducible refine gate_builtin (b := .append) (xs := #[.tmp 13, .tmp 16]) rfl ?_); at_builtin; refine Kd.R_append (Kd.int .i64) (w0 := w) w.heap.size rfl (.tmp 13) (.tmp 16) 35 3 (.int .i64 0) 8 rfl Tryd.underlying35 info3 rfl (by decide) (by omega) (.slice none 0 0) ([] : List Int) a0_2 [.int .i64 a0_2] (fun _ => True) (fun _ => False) rfl rfl ?aP (fun _ hk => hk.elim) ?aF ?aO ?aB ?aS ?aL ?_; (case aP => exact rfl); (case aB => exact qB); (case aF => exact (fun _ _ => trivial)); (case aO => exact ((Kd.R_nil _ _ _ _ (fun _ => True)))); (case aS => exact (below_size qB)); (case aL => have := LMc12.out; omega); intro v314 w14 ho hb hg hat; rw [← Ny313.out] at ho; replace BK311 := zA (blk_grown (qK BK311.out) hg (by simp [Value.ownBlock])); replace HB := zA (hb); have HO315 := zA (ho); clear ho hb hg hat))
      go_meet
      case rel => exact ⟨_, (y313), H', ⟨qO⟩, ⟨qR HO315.out⟩, ⟨qK BK311.out⟩, ⟨qB⟩⟩
     ·rw [zD c12] at H
      exact absurd H (by simp)
    ·rw [zD c11] at H
     obtain ⟨c11b0, c11b1⟩ := qn c11
     (first | rw [c11b0] | (simp only [i64_w, i32_w]; rw [c11b0]) | skip)
     have H' := zA H
     clear H
     go_wp2
     go_meet
     case rel => exact ⟨_, (([] : List Int)), H', ⟨qO⟩, ⟨by first | exact Kd.R_nil _ _ _ _ _ | exact Kd.N_nil _ _ _ _ _ | exact Kd.V_nil _ _ _ _ _ | exact Kd.Q_nil _ _ _ _ _ | exact Kd.S_nil _ _ _ _ _⟩, ⟨qK BK311.out⟩, ⟨qB⟩⟩
   case rest =>
    clear HC8
    obtain ⟨kq, x3_7, HA, HJ7, HO_3, BK311, HB⟩ := hcut
    cases kq with
    | zero => exact absurd HA.out (by simp [ir_Uses.j0])
    | succ kj7 =>
     have H := HA.out
     clear HA
     simp only [ir_Uses.j0] at H
     by_cases c15 : 2 < (t312.size : Int)
     ·rw [zC c15] at H
      have c15b0 := zF c15
      have c15b1 : decide (2 < t312.size) = true := zF (by omega)
      clear c15
      by_cases c17 : (bt t312 2) = 114
      ·rw [zC c17] at H
       obtain ⟨c17b0, c17b1⟩ := qe c17; clear c17
       by_cases c18 : x3_7.length < 17592186044416
       ·rw [zC c18] at H
        have LMc18 := zA c18
        clear c18
        obtain ⟨y316, hy316⟩ : ∃ y_ : List Int, y_ = (x3_7 ++ [a0_3]) := ⟨_, rfl⟩
        replace H : (if a0_0 = 11 then (if y316.length + l0_5.length < 17592186044416 then (some (y316 ++ l0_5)) else (none)) else (some y316)) = some r := by (try rw [hy316]); first | with_reducible exact H | exact (zJ _ _).symm.trans H | exact H
        have Ny316 := zA hy316
        clear hy316
        by_cases c19 : a0_0 = 11
        ·rw [zC c19] at H
         obtain ⟨c19b0, c19b1⟩ := qe c19; clear c19
         by_cases c20 : y316.length + l0_5.length < 17592186044416
         ·rw [zC c20] at H
          have LMc20 := zA c20
          clear c20
          obtain ⟨y319, hy319⟩ : ∃ y_ : List Int, y_ = (y316 ++ l0_5) := ⟨_, rfl⟩
          replace H : (some y319) = some r := by (try rw [hy319]); first | with_reducible exact H | exact (zJ _ _).symm.trans H | exact H
          have Ny319 := zA hy319
          clear hy319
          obtain rfl := zI H
          have p16 : 0 ≤ (2 : Int) := (by omega)
          have q16 : 2 < t312.size := (by have : (2 : Int) < (t312.size : Int) := zB qA; omega)
          have hx16 : ∀ h : 2 < t312.size, ((t312[2]'h).toNat : Int) = bt t312 2 := bt_at t312 2
          clear p16
          have qi16 : (2 < (t312.size : Int)) = True := eq_true (zB qA)
          replace q16 := eq_true q16
          have z21_0 := bk6 BK311.out
          go_wp2_with (first | ((with_reducible refine gate_builtin (b := .append) (xs := #[.tmp 21, .tmp 24]) rfl ?_); at_builtin; refine Kd.R_append (Kd.int .i64) (w0 := w) w.heap.size rfl (.tmp 21) (.tmp 24) 35 3 (.int .i64 0) 8 rfl Tryd.underlying35 info3 rfl (by decide) (by omega) u3 x3_7 a0_3 [.int .i64 a0_3] (fun _ => True) (fun _ => False) rfl rfl ?aP (fun _ hk => hk.elim) ?aF ?aO ?aB ?aS ?aL ?_; (case aP => exact rfl); (case aB => exact qB); (case aF => exact (fun _ _ => trivial)); (case aO => exact (qR HO_3.out)); (case aS => exact (below_size qB)); (case aL => have := LMc18.out; omega); intro v317 w22 ho hb hg hat; rw [← Ny316.out] at ho; replace BK311 := zA (blk_grown (qK BK311.out) hg (Kd.R_ne HO_3.out BK311.out (by decide))); replace HB := zA (hb); have HO318 := zA (ho); clear HO_3; clear ho hb hg hat; have z23_0 := bk6 BK311.out) | ((with_reducible refine gate_builtin (b := .append) (xs := #[.tmp 29, .tmp 31]) rfl ?_); at_builtin; refine Kd.R_append_rows (Kd.int .i64) (w0 := w) w.heap.size rfl (.tmp 29) (.tmp 31) 35 3 (.int .i64 0) 8 rfl Tryd.underlying35 info3 rfl (by decide) (by omega) v317 y316 l0_5 _ _ _ (fun _ => True) (fun _ => False) rfl rfl ?aO ?aR (fun _ _ h => h) (fun _ h => h.elim) ?aF ?aB ?aS ?aL ?_; (case aR => exact qCB HR0_5.out); (case aB => exact qB); (case aF => exact (fun _ _ => trivial)); (case aO => exact (qR HO318.out)); (case aS => exact (below_size qB)); (case aL => have := LMc20.out; omega); intro v320 w24 ho hb hg hat; rw [← Ny319.out] at ho; replace BK311 := zA (blk_grown (qK BK311.out) hg (Kd.R_ne HO318.out BK311.out (by decide))); replace HB := zA (hb); have HO321 := zA (ho); clear HO318; clear ho hb hg hat))
          go_ret
          exact ⟨_, qE, qR HO321.out, qB⟩
         ·rw [zD c20] at H
          exact absurd H (by simp)
        ·rw [zD c19] at H
         obtain ⟨c19b0, c19b1⟩ := qn c19
         obtain rfl := zI H
         have p16 : 0 ≤ (2 : Int) := (by omega)
         have q16 : 2 < t312.size := (by have : (2 : Int) < (t312.size : Int) := zB qA; omega)
         have hx16 : ∀ h : 2 < t312.size, ((t312[2]'h).toNat : Int) = bt t312 2 := bt_at t312 2
         clear p16
         have qi16 : (2 < (t312.size : Int)) = True := eq_true (zB qA)
         replace q16 := eq_true q16
         have z25_0 := bk6 BK311.out
         go_wp2_with (first | ((with_reducible refine gate_builtin (b := .append) (xs := #[.tmp 21, .tmp 24]) rfl ?_); at_builtin; refine Kd.R_append (Kd.int .i64) (w0 := w) w.heap.size rfl (.tmp 21) (.tmp 24) 35 3 (.int .i64 0) 8 rfl Tryd.underlying35 info3 rfl (by decide) (by omega) u3 x3_7 a0_3 [.int .i64 a0_3] (fun _ => True) (fun _ => False) rfl rfl ?aP (fun _ hk => hk.elim) ?aF ?aO ?aB ?aS ?aL ?_; (case aP => exact rfl); (case aB => exact qB); (case aF => exact (fun _ _ => trivial)); (case aO => exact (qR HO_3.out)); (case aS => exact (below_size qB)); (case aL => have := LMc18.out; omega); intro v317 w26 ho hb hg hat; rw [← Ny316.out] at ho; replace BK311 := zA (blk_grown (qK BK311.out) hg (Kd.R_ne HO_3.out BK311.out (by decide))); replace HB := zA (hb); have HO318 := zA (ho); clear HO_3; clear ho hb hg hat; have z27_0 := bk6 BK311.out))
         go_ret
         exact ⟨_, qE, qR HO318.out, qB⟩
       ·rw [zD c18] at H
        exact absurd H (by simp)
      ·rw [zD c17] at H
       obtain ⟨c17b0, c17b1⟩ := qn c17
       by_cases c28 : a0_0 = 11
       ·rw [zC c28] at H
        obtain ⟨c28b0, c28b1⟩ := qe c28; clear c28
        by_cases c29 : x3_7.length + l0_5.length < 17592186044416
        ·rw [zC c29] at H
         have LMc29 := zA c29
         clear c29
         obtain ⟨y322, hy322⟩ : ∃ y_ : List Int, y_ = (x3_7 ++ l0_5) := ⟨_, rfl⟩
         replace H : (some y322) = some r := by (try rw [hy322]); first | with_reducible exact H | exact (zJ _ _).symm.trans H | exact H
         have Ny322 := zA hy322
         clear hy322
         obtain rfl := zI H
         have p16 : 0 ≤ (2 : Int) := (by omega)
         have q16 : 2 < t312.size := (by have : (2 : Int) < (t312.size : Int) := zB qA; omega)
         have hx16 : ∀ h : 2 < t312.size, ((t312[2]'h).toNat : Int) = bt t312 2 := bt_at t312 2
         clear p16
         have qi16 : (2 < (t312.size : Int)) = True := eq_true (zB qA)
         replace q16 := eq_true q16
         have z30_0 := bk6 BK311.out
         go_wp2_with (first | ((with_reducible refine gate_builtin (b := .append) (xs := #[.tmp 29, .tmp 31]) rfl ?_); at_builtin; refine Kd.R_append_rows (Kd.int .i64) (w0 := w) w.heap.size rfl (.tmp 29) (.tmp 31) 35 3 (.int .i64 0) 8 rfl Tryd.underlying35 info3 rfl (by decide) (by omega) u3 x3_7 l0_5 _ _ _ (fun _ => True) (fun _ => False) rfl rfl ?aO ?aR (fun _ _ h => h) (fun _ h => h.elim) ?aF ?aB ?aS ?aL ?_; (case aR => exact qCB HR0_5.out); (case aB => exact qB); (case aF => exact (fun _ _ => trivial)); (case aO => exact (qR HO_3.out)); (case aS => exact (below_size qB)); (case aL => have := LMc29.out; omega); intro v323 w31 ho hb hg hat; rw [← Ny322.out] at ho; replace BK311 := zA (blk_grown (qK BK311.out) hg (Kd.R_ne HO_3.out BK311.out (by decide))); replace HB := zA (hb); have HO324 := zA (ho); clear HO_3; clear ho hb hg hat))
         go_ret
         exact ⟨_, qE, qR HO324.out, qB⟩
        ·rw [zD c29] at H
         exact absurd H (by simp)
       ·rw [zD c28] at H
        obtain ⟨c28b0, c28b1⟩ := qn c28
        obtain rfl := zI H
        have p16 : 0 ≤ (2 : Int) := (by omega)
        have q16 : 2 < t312.size := (by have : (2 : Int) < (t312.size : Int) := zB qA; omega)
        have hx16 : ∀ h : 2 < t312.size, ((t312[2]'h).toNat : Int) = bt t312 2 := bt_at t312 2
        clear p16
        have qi16 : (2 < (t312.size : Int)) = True := eq_true (zB qA)
        replace q16 := eq_true q16
        have z32_0 := bk6 BK311.out
        go_wp2
        go_ret
        exact ⟨_, qE, qR HO_3.out, qB⟩
     ·rw [zD c15] at H
      exact absurd H (by simp)
  ·rw [zD c6] at H
   exact absurd H (by simp)

def live_set_with.f (a0 : Int) (a1 : Int) : Option (Int) := if 0 ≤ (IntKind.u64.wrap (a1)) then (some (Go.bits .or .u64 a0 (shl .u64 1 (IntKind.u64.wrap (a1))))) else (none)
set_option maxHeartbeats 8000000 in
set_option maxRecDepth 100000 in
theorem live_set_with.calls (a0 : Int) (a1 : Int) (r : Int) (w : World) (h : live_set_with.f a0 a1 = some r) :
 Calls Tryd.prog 187 #[.int .u64 a0, .int .i64 a1] w fun e w' => e = .returned (.int .u64 r) ∧ Drawn0 w w' := by
 have H := h; clear h; unfold live_set_with.f at H
 obtain ⟨ji3, hji3⟩ : ∃ j_ : Int, (IntKind.u64.wrap (a1)) = j_ := ⟨_, rfl⟩
 replace H : (if 0 ≤ (ji3) then (some (Go.bits .or .u64 a0 (shl .u64 1 (ji3)))) else (none)) = some r := by first | (rw [hji3] at H; exact H) | (simp only [hji3] at H ⊢; exact H)
 by_cases c4 : 0 ≤ (ji3)
 ·rw [zC c4] at H
  have c4b0 := eq_true c4
  have c4b1 := zF c4
  clear c4
  obtain ⟨ji5, hji5⟩ : ∃ j_ : Int, (shl .u64 1 (ji3)) = j_ := ⟨_, rfl⟩
  replace H : (some (Go.bits .or .u64 a0 (ji5))) = some r := by first | (rw [hji5] at H; exact H) | (simp only [hji5] at H ⊢; exact H)
  have hji5_ : (IntKind.u64.wrap (1 * 2 ^ min (ji3).toNat 64)) = ji5 := hji5
  have hji5z : (ji3) ≤ 64 → (IntKind.u64.wrap (1 * 2 ^ (ji3).toNat)) = ji5 := shl_small hji5
  have hji5u : (IntKind.u64.wrap (2 ^ min (ji3).toNat 64)) = ji5 := by have h_ := hji5_; rw [Int.one_mul] at h_; exact h_
  have hji5v : (ji3) ≤ 64 → (IntKind.u64.wrap (2 ^ (ji3).toNat)) = ji5 := fun hle_ => by have h_ := hji5z hle_; rw [Int.one_mul] at h_; exact h_
  obtain rfl := zI H
  go_enter Tryd.func187, Tryd.ntmps187
  go_wp2
  go_ret
  exact ⟨by first | rfl | (simp; done) | (simp only [← hji3, ← hji5] <;> (first | rfl | simp)) | (simp [*]; done), qD⟩
 ·rw [zD c4] at H
  exact absurd H (by simp)

def live_set_each.l0 : Nat → Int → List Int → Int → Int → Option (Int)
 | 0, _, _, _, _ => none
 | k + 1, x0, x9, x10, x11 => if x11 < x10 then (if 0 ≤ x11 then (if x11 < (x9.length : Int) then ((live_set_with.f x0 (rd x9 x11)).bind fun t328 => (live_set_each.l0 k t328 x9 x10 (wrap64 (x11 + 1)))) else (none)) else (none)) else (some x0)
def live_set_each.f (k : Nat) (a0 : Int) (l1 : List Int) (a2 : Bool) : Option (Int) := live_set_each.l0 k a0 l1 (l1.length : Int) 0
set_option maxHeartbeats 8000000 in
set_option maxRecDepth 100000 in
theorem live_set_each.calls (k : Nat) (a0 : Int) (A1 : Option Addr) (c1 : Nat) (l1 : List Int) (a2 : Bool) (r : Int) (w : World) (hr1 : Kd.C (Kd.int .i64) w A1 l1.length l1) (hc1 : l1.length ≤ c1) (h : live_set_each.f k a0 l1 a2 = some r) :
 Calls Tryd.prog 186 #[.int .u64 a0, .slice A1 l1.length c1, .func (.func 187) #[] #[]] w fun e w' => e = .returned (.int .u64 r) ∧ Drawn0 w w' := by
 have HR1 := zA hr1
 have HC1 := zA hc1
 clear hr1 hc1
 have H := h; clear h; unfold live_set_each.f at H
 have H' := zA H
 clear H
 go_enter Tryd.func186, Tryd.ntmps186
 go_wp2
 go_loopg [0, 11] k (fun kq v0 v11 w' => ∃ (x0_1 : Int) (x11_1 : Int), v0 = .int .u64 x0_1 ∧ v11 = .int .i64 x11_1 ∧ Aside0 (live_set_each.l0 kq x0_1 l1 (l1.length : Int) x11_1 = some r) ∧ Aside0 (kq ≤ k) ∧ Drawn0 w w')
 case atStart => exact ⟨(a0), (0), qT, qT, H', ⟨Nat.le_refl _⟩, qD⟩
 case round =>
  clear H'
  obtain ⟨x0_1, x11_1, rfl, rfl, HA, HK1, ⟨m1, rfl⟩⟩ := hrel
  cases gk with
  | zero => exact absurd HA.out (by simp [live_set_each.l0])
  | succ k1 =>
   have H := HA.out
   clear HA
   simp only [live_set_each.l0] at H
   by_cases c4 : x11_1 < (l1.length : Int)
   ·rw [zC c4] at H
    have c4b0 := zF c4
    clear c4
    by_cases c5 : 0 ≤ x11_1
    ·rw [zC c5] at H
     have c5b0 := zF c5
     clear c5
     by_cases c6 : x11_1 < (l1.length : Int)
     ·rw [zC c6] at H
      have c6b0 := zF c6
      clear c6
      replace H := qb H; obtain ⟨t328, A7, H⟩ := H
      have H' := zA H
      clear H
      have p327 : 0 ≤ (x11_1 : Int) := zB qA
      have q327 : x11_1 < (l1.length : Int) := zB qA
      obtain ⟨ad327, e327, hx327_0⟩ := Kd.at_int HR1.out x11_1 p327 q327
      cases e327
      replace p327 := eq_true p327
      replace q327 := eq_true q327
      go_wp2_with (first | (go_at_call 187; (with_reducible refine (live_set_with.calls x0_1 (rd l1 x11_1) t328 _ A7.out).mono ?_); rintro e w' ⟨rfl, ⟨nd, rfl⟩⟩))
      go_roundg k1
      case measure => have := HK1.out; omega
      case rel => exact ⟨(t328), (wrap64 (x11_1 + 1)), qT, qT, H', ⟨by have := HK1.out; omega⟩, qD⟩
     ·rw [zD c6] at H
      exact absurd H (by simp)
    ·rw [zD c5] at H
     exact absurd H (by simp)
   ·rw [zD c4] at H
    have c4b0 := zG c4
    clear c4
    obtain rfl := zI H
    go_wp2
    go_ret
    exact ⟨by first | rfl | (simp; done) | (simp [*]; done), qD⟩

def live_set_without.f (a0 : Int) (a1 : Int) : Option (Int) := if 0 ≤ (IntKind.u64.wrap (a1)) then (some (Go.bits .andNot .u64 a0 (shl .u64 1 (IntKind.u64.wrap (a1))))) else (none)
set_option maxHeartbeats 8000000 in
set_option maxRecDepth 100000 in
theorem live_set_without.calls (a0 : Int) (a1 : Int) (r : Int) (w : World) (h : live_set_without.f a0 a1 = some r) :
 Calls Tryd.prog 185 #[.int .u64 a0, .int .i64 a1] w fun e w' => e = .returned (.int .u64 r) ∧ Drawn0 w w' := by
 have H := h; clear h; unfold live_set_without.f at H
 obtain ⟨ji3, hji3⟩ : ∃ j_ : Int, (IntKind.u64.wrap (a1)) = j_ := ⟨_, rfl⟩
 replace H : (if 0 ≤ (ji3) then (some (Go.bits .andNot .u64 a0 (shl .u64 1 (ji3)))) else (none)) = some r := by first | (rw [hji3] at H; exact H) | (simp only [hji3] at H ⊢; exact H)
 by_cases c4 : 0 ≤ (ji3)
 ·rw [zC c4] at H
  have c4b0 := eq_true c4
  have c4b1 := zF c4
  clear c4
  obtain ⟨ji5, hji5⟩ : ∃ j_ : Int, (shl .u64 1 (ji3)) = j_ := ⟨_, rfl⟩
  replace H : (some (Go.bits .andNot .u64 a0 (ji5))) = some r := by first | (rw [hji5] at H; exact H) | (simp only [hji5] at H ⊢; exact H)
  have hji5_ : (IntKind.u64.wrap (1 * 2 ^ min (ji3).toNat 64)) = ji5 := hji5
  have hji5z : (ji3) ≤ 64 → (IntKind.u64.wrap (1 * 2 ^ (ji3).toNat)) = ji5 := shl_small hji5
  have hji5u : (IntKind.u64.wrap (2 ^ min (ji3).toNat 64)) = ji5 := by have h_ := hji5_; rw [Int.one_mul] at h_; exact h_
  have hji5v : (ji3) ≤ 64 → (IntKind.u64.wrap (2 ^ (ji3).toNat)) = ji5 := fun hle_ => by have h_ := hji5z hle_; rw [Int.one_mul] at h_; exact h_
  obtain rfl := zI H
  go_enter Tryd.func185, Tryd.ntmps185
  go_wp2
  go_ret
  exact ⟨by first | rfl | (simp; done) | (simp only [← hji3, ← hji5] <;> (first | rfl | simp)) | (simp [*]; done), qD⟩
 ·rw [zD c4] at H
  exact absurd H (by simp)

def live_through.f (k : Nat) (a0_0 : Int) (a0_1 : Int) (a0_2 : Int) (a0_3 : Int) (a0_4 : ByteArray) (l0_5 : List Int) (a1 : Int) : Option (Int) := (ir_Def.f a0_0 a0_1 a0_2 a0_3 a0_4 l0_5).bind fun t330 => (if t330 ≥ 0 then ((live_set_without.f a1 t330).bind fun t331 => ((ir_Uses.f k a0_0 a0_1 a0_2 a0_3 a0_4 l0_5).bind fun t332 => ((live_set_each.f k t331 t332 false).bind fun t335 => (some t335)))) else ((ir_Uses.f k a0_0 a0_1 a0_2 a0_3 a0_4 l0_5).bind fun t336 => ((live_set_each.f k a1 t336 false).bind fun t339 => (some t339))))
set_option maxHeartbeats 8000000 in
set_option maxRecDepth 100000 in
theorem live_through.calls (k : Nat) (a0_0 : Int) (a0_1 : Int) (a0_2 : Int) (a0_3 : Int) (a0_4 : ByteArray) (A0_5 : Option Addr) (c0_5 : Nat) (l0_5 : List Int) (a1 : Int) (r : Int) (w : World) (hL : LaidW w) (hr0_5 : Kd.C (Kd.int .i64) w A0_5 l0_5.length l0_5) (hc0_5 : l0_5.length ≤ c0_5) (h : live_through.f k a0_0 a0_1 a0_2 a0_3 a0_4 l0_5 a1 = some r) :
 Calls Tryd.prog 155 #[.agg #[.int .i64 a0_0, .int .i64 a0_1, .int .i64 a0_2, .int .i64 a0_3, .string a0_4, .slice A0_5 l0_5.length c0_5], .int .u64 a1] w fun e w' => e = .returned (.int .u64 r) ∧ Below w.heap.size w w' := by
 have hu38 := Tryd.underlying38
 have HR0_5 := zA hr0_5
 have HC0_5 := zA hc0_5
 clear hr0_5 hc0_5
 have HB := zA (Below.refl w.heap.size w)
 have HLd := zA hL
 clear hL
 have H := h; clear h; unfold live_through.f at H
 replace H := qb H; obtain ⟨t330, A3, H⟩ := H
 by_cases c4 : t330 ≥ 0
 ·rw [zC c4] at H
  have c4b0 : decide (0 ≤ t330) = true := zF c4
  clear c4
  replace H := qb H; obtain ⟨t331, A5, H⟩ := H
  replace H := qb H; obtain ⟨t332, A6, H⟩ := H
  replace H := qb H; obtain ⟨t335, A7, H⟩ := H
  obtain rfl := zI H
  go_enter Tryd.func155, Tryd.ntmps155
  go_wp2_with (first | ((with_reducible refine gate_dst (N := 2) rfl ?_); refine box_event (by rfl) (N := 2) (by rfl) (cs := #[.int .i64 a0_0, .int .i64 a0_1, .int .i64 a0_2, .int .i64 a0_3, .string a0_4, .slice A0_5 l0_5.length c0_5]) (t := 38) ?hr ?_; (case hr => go_simp <;> rfl); intro gb329 hg w8 hbox hb; have BK329 := zA (hbox); have GW329 := qG hg; have GE329 := GW329; replace HB := qH hb; clear hb hbox hg; have z9_0 := bk6 BK329.out) | ((with_reducible refine gate_callee (f := 46) rfl ?_); refine goesL_ (some 7) rfl rfl Tryd.func46 (by kernel_rfl) rfl #[.agg #[.int .i64 a0_0, .int .i64 a0_1, .int .i64 a0_2, .int .i64 a0_3, .string a0_4, .slice A0_5 l0_5.length c0_5]] rfl qL ?_; (with_reducible refine (ir_Def.calls a0_0 a0_1 a0_2 a0_3 a0_4 _ _ l0_5 t330 _ ?side1 ?side2 A3.out (hL := ?side99)).mono ?_); (case side1 => exact qCB HR0_5.out); (case side2 => exact HC0_5.out); (case side99 => exact LaidW.below HLd.out qB); rintro e w10 ⟨rfl, hb⟩; refine ⟨_, rfl, ?_⟩; replace BK329 := qW BK329 hb; replace HB := qH hb; (try clear hb)) | ((with_reducible refine gate_callee (f := 185) rfl ?_); refine goesL_ (some 12) rfl rfl Tryd.func185 (by kernel_rfl) rfl #[.int .u64 a1, .int .i64 t330] rfl qL ?_; (with_reducible refine (live_set_without.calls a1 t330 t331 _ A5.out).mono ?_); rintro e w' ⟨rfl, ⟨nd, rfl⟩⟩; refine ⟨_, rfl, ?_⟩; have z11_0 := bk6 BK329.out) | ((with_reducible refine gate_callee (f := 45) rfl ?_); refine goesL_ (some 15) rfl rfl Tryd.func45 (by kernel_rfl) rfl #[.agg #[.int .i64 a0_0, .int .i64 a0_1, .int .i64 a0_2, .int .i64 a0_3, .string a0_4, .slice A0_5 l0_5.length c0_5]] rfl qL ?_; (with_reducible refine (ir_Uses.calls k a0_0 a0_1 a0_2 a0_3 a0_4 _ _ l0_5 t332 _ ?side1 ?side2 A6.out (hL := ?side99)).mono ?_); (case side1 => repeat (first | exact (Kd.C_below HR0_5.out qB) | (with_reducible refine Kd.C_alloc ?_ _) | (with_reducible refine Kd.C_drewN ?_ _) | (with_reducible refine Kd.C_drew ?_))); (case side2 => exact HC0_5.out); (case side99 => exact LaidW.below HLd.out qB); rintro e w12 ⟨v333, rfl, ho0, hb⟩; refine ⟨_, rfl, ?_⟩; have HO334 := zA (Kd.R_lower ho0 (below_size qB)); replace BK329 := qW BK329 hb; replace HB := qH hb; (try clear hb); (try clear ho0); obtain ⟨Ao13, co13, eo13⟩ := Kd.R_slice HO334.out; subst eo13) | ((with_reducible refine gate_callee (f := 186) rfl ?_); refine goesL_ (some 16) rfl rfl Tryd.func186 (by kernel_rfl) rfl #[.int .u64 t331, .slice Ao13 t332.length co13, .func (.func 187) #[] #[]] rfl qL ?_; (with_reducible refine (live_set_each.calls k t331 _ _ t332 false t335 _ ?side1 ?side2 A7.out).mono ?_); (case side1 => repeat (first | exact (Kd.R_reads' HO334.out).2.2 | (with_reducible refine Kd.C_alloc ?_ _) | (with_reducible refine Kd.C_drewN ?_ _) | (with_reducible refine Kd.C_drew ?_))); (case side2 => exact (Kd.R_reads' HO334.out).2.1); rintro e w' ⟨rfl, ⟨nd, rfl⟩⟩; refine ⟨_, rfl, ?_⟩))
  go_ret
  exact ⟨qE, qB⟩
 ·rw [zD c4] at H
  have c4b0 : decide (0 ≤ t330) = false := zG c4
  clear c4
  replace H := qb H; obtain ⟨t336, A14, H⟩ := H
  replace H := qb H; obtain ⟨t339, A15, H⟩ := H
  obtain rfl := zI H
  go_enter Tryd.func155, Tryd.ntmps155
  go_wp2_with (first | ((with_reducible refine gate_dst (N := 2) rfl ?_); refine box_event (by rfl) (N := 2) (by rfl) (cs := #[.int .i64 a0_0, .int .i64 a0_1, .int .i64 a0_2, .int .i64 a0_3, .string a0_4, .slice A0_5 l0_5.length c0_5]) (t := 38) ?hr ?_; (case hr => go_simp <;> rfl); intro gb329 hg w16 hbox hb; have BK329 := zA (hbox); have GW329 := qG hg; have GE329 := GW329; replace HB := qH hb; clear hb hbox hg; have z17_0 := bk6 BK329.out) | ((with_reducible refine gate_callee (f := 46) rfl ?_); refine goesL_ (some 7) rfl rfl Tryd.func46 (by kernel_rfl) rfl #[.agg #[.int .i64 a0_0, .int .i64 a0_1, .int .i64 a0_2, .int .i64 a0_3, .string a0_4, .slice A0_5 l0_5.length c0_5]] rfl qL ?_; (with_reducible refine (ir_Def.calls a0_0 a0_1 a0_2 a0_3 a0_4 _ _ l0_5 t330 _ ?side1 ?side2 A3.out (hL := ?side99)).mono ?_); (case side1 => exact qCB HR0_5.out); (case side2 => exact HC0_5.out); (case side99 => exact LaidW.below HLd.out qB); rintro e w18 ⟨rfl, hb⟩; refine ⟨_, rfl, ?_⟩; replace BK329 := qW BK329 hb; replace HB := qH hb; (try clear hb); have z19_0 := bk6 BK329.out) | ((with_reducible refine gate_callee (f := 45) rfl ?_); refine goesL_ (some 15) rfl rfl Tryd.func45 (by kernel_rfl) rfl #[.agg #[.int .i64 a0_0, .int .i64 a0_1, .int .i64 a0_2, .int .i64 a0_3, .string a0_4, .slice A0_5 l0_5.length c0_5]] rfl qL ?_; (with_reducible refine (ir_Uses.calls k a0_0 a0_1 a0_2 a0_3 a0_4 _ _ l0_5 t336 _ ?side1 ?side2 A14.out (hL := ?side99)).mono ?_); (case side1 => exact qCB HR0_5.out); (case side2 => exact HC0_5.out); (case side99 => exact LaidW.below HLd.out qB); rintro e w20 ⟨v337, rfl, ho0, hb⟩; refine ⟨_, rfl, ?_⟩; have HO338 := zA (Kd.R_lower ho0 (below_size qB)); replace BK329 := qW BK329 hb; replace HB := qH hb; (try clear hb); (try clear ho0); obtain ⟨Ao21, co21, eo21⟩ := Kd.R_slice HO338.out; subst eo21) | ((with_reducible refine gate_callee (f := 186) rfl ?_); refine goesL_ (some 16) rfl rfl Tryd.func186 (by kernel_rfl) rfl #[.int .u64 a1, .slice Ao21 t336.length co21, .func (.func 187) #[] #[]] rfl qL ?_; (with_reducible refine (live_set_each.calls k a1 _ _ t336 false t339 _ ?side1 ?side2 A15.out).mono ?_); (case side1 => repeat (first | exact (Kd.R_reads' HO338.out).2.2 | (with_reducible refine Kd.C_alloc ?_ _) | (with_reducible refine Kd.C_drewN ?_ _) | (with_reducible refine Kd.C_drew ?_))); (case side2 => exact (Kd.R_reads' HO338.out).2.1); rintro e w' ⟨rfl, ⟨nd, rfl⟩⟩; refine ⟨_, rfl, ?_⟩))
  go_ret
  exact ⟨qE, qB⟩

mutual
def live_ahead.l0 : Nat → List Int → Int → Int → Int → List Int → Int → Int → ByteArray → Int → Int → List (List (SIns)) → Option (Int)
 | 0, _, _, _, _, _, _, _, _, _, _, _ => none
 | k + 1, x1, x2, x3, x9, x16, x17, x18, x341000, x341001, x341002, x341003 => if x18 < x17 then (if 0 ≤ x18 then (if x18 < (x16.length : Int) then (if 0 ≤ (rd x16 x18) then (if (rd x16 x18) < (x1.length : Int) then (live_ahead.l0 k x1 x2 x3 (Go.bits .or .u64 x9 (rd x1 (rd x16 x18))) x16 x17 (wrap64 (x18 + 1)) x341000 x341001 x341002 x341003) else (none)) else (none)) else (none)) else (none)) else (if 0 ≤ x2 then (if x2 < (x341003.length : Int) then (live_ahead.l1 k x2 x3 x9 (wrap64 (((rd_LIns x341003 x2).length : Int) - 1)) x341000 x341001 x341002 x341003) else (none)) else (none))
def live_ahead.l1 : Nat → Int → Int → Int → Int → ByteArray → Int → Int → List (List (SIns)) → Option (Int)
 | 0, _, _, _, _, _, _, _, _ => none
 | k + 1, x2, x3, x9, x12, x341000, x341001, x341002, x341003 => if x12 ≥ x3 then (if 0 ≤ x2 then (if x2 < (x341003.length : Int) then (if 0 ≤ x12 then (if x12 < ((rd_LIns x341003 x2).length : Int) then ((live_through.f k ((rd_TIns (rd_LIns x341003 x2) x12).f0) ((rd_TIns (rd_LIns x341003 x2) x12).f1) ((rd_TIns (rd_LIns x341003 x2) x12).f2) ((rd_TIns (rd_LIns x341003 x2) x12).f3) ((rd_TIns (rd_LIns x341003 x2) x12).f4) ((rd_TIns (rd_LIns x341003 x2) x12).f5) x9).bind fun t349 => (live_ahead.l1 k x2 x3 t349 (wrap64 (x12 - 1)) x341000 x341001 x341002 x341003)) else (none)) else (none)) else (none)) else (none)) else (some x9)
end
def live_ahead.f (k : Nat) (a0_0 : ByteArray) (a0_1 : Int) (a0_2 : Int) (l0_3 : List (List (SIns))) (l1 : List Int) (a2 : Int) (a3 : Int) : Option (Int) := (flow_Succs.f k l0_3 a2).bind fun t341 => (live_ahead.l0 k l1 a2 a3 0 t341 (t341.length : Int) 0 a0_0 a0_1 a0_2 l0_3)
set_option maxHeartbeats 8000000 in
set_option maxRecDepth 100000 in
theorem live_ahead.calls (k : Nat) (a0_0 : ByteArray) (a0_1 : Int) (a0_2 : Int) (A0_3 : Option Addr) (c0_3 : Nat) (l0_3 : List (List (SIns))) (A1 : Option Addr) (c1 : Nat) (l1 : List Int) (a2 : Int) (a3 : Int) (r : Int) (w : World) (hL : LaidW w) (hr0_3 : Kd.C (Kd.slice 38 kIns) w A0_3 l0_3.length l0_3) (hc0_3 : l0_3.length ≤ c0_3) (hr1 : Kd.C (Kd.int .u64) w A1 l1.length l1) (hc1 : l1.length ≤ c1) (h : live_ahead.f k a0_0 a0_1 a0_2 l0_3 l1 a2 a3 = some r) :
 Calls Tryd.prog 119 #[.agg #[.string a0_0, .int .i64 a0_1, .int .i64 a0_2, .slice A0_3 l0_3.length c0_3], .slice A1 l1.length c1, .int .i64 a2, .int .i64 a3] w fun e w' => e = .returned (.int .u64 r) ∧ Below w.heap.size w w' := by
 have hu24 := Tryd.underlying24
 have hu38 := Tryd.underlying38
 have HR0_3 := zA hr0_3
 have HC0_3 := zA hc0_3
 clear hr0_3 hc0_3
 have HR1 := zA hr1
 have HC1 := zA hc1
 clear hr1 hc1
 have HB := zA (Below.refl w.heap.size w)
 have HLd := zA hL
 clear hL
 have H := h; clear h; unfold live_ahead.f at H
 replace H := qb H; obtain ⟨t341, A5, H⟩ := H
 have H' := zA H
 clear H
 go_enter Tryd.func119, Tryd.ntmps119
 go_wp2_with (first | ((with_reducible refine gate_dst (N := 4) rfl ?_); refine box_event (by rfl) (N := 4) (by rfl) (cs := #[.string a0_0, .int .i64 a0_1, .int .i64 a0_2, .slice A0_3 l0_3.length c0_3]) (t := 24) ?hr ?_; (case hr => go_simp <;> rfl); intro gb340 hg w6 hbox hb; have BK340 := zA (hbox); have GW340 := qG hg; have GE340 := GW340; replace HB := qH hb; clear hb hbox hg; have z7_0 := bk4 BK340.out) | ((with_reducible refine gate_callee (f := 81) rfl ?_); refine goesL_ (some 16) rfl rfl Tryd.func81 (by kernel_rfl) rfl #[.slice A0_3 l0_3.length c0_3, .int .i64 a2] rfl qL ?_; (with_reducible refine (flow_Succs.calls k _ _ l0_3 a2 t341 _ ?side1 ?side2 A5.out).mono ?_); (case side1 => exact qCB HR0_3.out); (case side2 => exact HC0_3.out); rintro e w8 ⟨v342, rfl, ho0, hb⟩; refine ⟨_, rfl, ?_⟩; have HO343 := zA (Kd.R_lower ho0 (below_size qB)); replace BK340 := qW BK340 hb; replace HB := qH hb; (try clear hb); (try clear ho0); obtain ⟨Ao9, co9, eo9⟩ := Kd.R_slice HO343.out; subst eo9))
 go_loopg [9, 18] k (fun kq v9 v18 w' => ∃ (x9_1 : Int) (x18_1 : Int), v9 = .int .u64 x9_1 ∧ v18 = .int .i64 x18_1 ∧ Aside0 (live_ahead.l0 kq l1 a2 a3 x9_1 t341 (t341.length : Int) x18_1 a0_0 a0_1 a0_2 l0_3 = some r) ∧ Aside0 (kq ≤ k) ∧ Aside0 (Kd.R (Kd.int .i64) 3 w' w.heap.size (fun _ => True) (.slice Ao9 t341.length co9) t341) ∧ Aside0 (w'.heap[gb340]? = some (.cells #[.string a0_0, .int .i64 a0_1, .int .i64 a0_2, (.slice A0_3 l0_3.length c0_3)] 24 (0, 0))) ∧ Aside0 (Below w.heap.size w w'))
 case atStart => exact ⟨(0), (0), qT, qT, H', ⟨Nat.le_refl _⟩, ⟨qR HO343.out⟩, ⟨qK BK340.out⟩, ⟨qB⟩⟩
 case round =>
  clear H'
  obtain ⟨x9_1, x18_1, rfl, rfl, HA, HK1, HO_16, BK340, HB⟩ := hrel
  cases gk with
  | zero => exact absurd HA.out (by simp [live_ahead.l0])
  | succ k1 =>
   have H := HA.out
   clear HA
   simp only [live_ahead.l0] at H
   by_cases c10 : x18_1 < (t341.length : Int)
   ·rw [zC c10] at H
    have c10b0 := zF c10
    clear c10
    by_cases c11 : 0 ≤ x18_1
    ·rw [zC c11] at H
     have c11b0 := zF c11
     clear c11
     by_cases c12 : x18_1 < (t341.length : Int)
     ·rw [zC c12] at H
      have c12b0 := zF c12
      clear c12
      by_cases c13 : 0 ≤ (rd t341 x18_1)
      ·rw [zC c13] at H
       have c13b0 := zF c13
       clear c13
       by_cases c14 : (rd t341 x18_1) < (l1.length : Int)
       ·rw [zC c14] at H
        have c14b0 := zF c14
        clear c14
        have H' := zA H
        clear H
        have p344 : 0 ≤ (x18_1 : Int) := zB qA
        have q344 : x18_1 < (t341.length : Int) := zB qA
        obtain ⟨ad344, e344, hx344_0⟩ := Kd.at_int (Kd.R_reads' HO_16.out).2.2 x18_1 p344 q344
        cases e344
        replace p344 := eq_true p344
        replace q344 := eq_true q344
        have p345 : 0 ≤ ((rd t341 x18_1) : Int) := zB qA
        have q345 : (rd t341 x18_1) < (l1.length : Int) := zB qA
        obtain ⟨ad345, e345, hx345_0⟩ := Kd.at_int HR1.out (rd t341 x18_1) p345 q345
        cases e345
        replace hx345_0 := (HB.out.cell (zE w _ hx345_0)).trans hx345_0
        replace p345 := eq_true p345
        replace q345 := eq_true q345
        go_wp2
        go_roundg k1
        case measure => have := HK1.out; omega
        case rel => exact ⟨(Go.bits .or .u64 x9_1 (rd l1 (rd t341 x18_1))), (wrap64 (x18_1 + 1)), qT, qT, H', ⟨by have := HK1.out; omega⟩, ⟨qR HO_16.out⟩, ⟨qK BK340.out⟩, ⟨qB⟩⟩
       ·rw [zD c14] at H
        exact absurd H (by simp)
      ·rw [zD c13] at H
       exact absurd H (by simp)
     ·rw [zD c12] at H
      exact absurd H (by simp)
    ·rw [zD c11] at H
     exact absurd H (by simp)
   ·rw [zD c10] at H
    have c10b0 := zG c10
    clear c10
    by_cases c15 : 0 ≤ a2
    ·rw [zC c15] at H
     have c15b0 := zF c15
     clear c15
     by_cases c16 : a2 < (l0_3.length : Int)
     ·rw [zC c16] at H
      have c16b0 := zF c16
      clear c16
      have H' := zA H
      clear H
      have z17_0 := bk4 BK340.out
      have p346 : 0 ≤ (a2 : Int) := zB qA
      have q346 : a2 < (l0_3.length : Int) := zB qA
      obtain ⟨ad346, A346_0, c346_0, e346, hx346_0, hl346_0, hi346_0⟩ := at_LIns HR0_3.out a2 p346 q346
      cases e346
      replace hx346_0 := (HB.out.cell (zE w _ hx346_0)).trans hx346_0
      have HR346_0 := zA hi346_0
      have HC346_0 := zA hl346_0
      clear hi346_0 hl346_0
      replace p346 := eq_true p346
      replace q346 := eq_true q346
      go_wp2
      go_loopg [9, 12] k1 (fun kq v9 v12 w' => ∃ (x9_2 : Int) (x12_2 : Int), v9 = .int .u64 x9_2 ∧ v12 = .int .i64 x12_2 ∧ Aside0 (live_ahead.l1 kq a2 a3 x9_2 x12_2 a0_0 a0_1 a0_2 l0_3 = some r) ∧ Aside0 (kq ≤ k1) ∧ Aside0 (w'.heap[gb340]? = some (.cells #[.string a0_0, .int .i64 a0_1, .int .i64 a0_2, (.slice (some ad346) l0_3.length c0_3)] 24 (0, 0))) ∧ Aside0 (Below w.heap.size w w'))
      case atStart => exact ⟨(x9_1), (wrap64 (((rd_LIns l0_3 a2).length : Int) - 1)), qT, qT, H', ⟨Nat.le_refl _⟩, ⟨qK BK340.out⟩, ⟨qB⟩⟩
      case round =>
       clear H'
       obtain ⟨x9_2, x12_2, rfl, rfl, HA, HK2, BK340, HB⟩ := hrel
       cases gk with
       | zero => exact absurd HA.out (by simp [live_ahead.l1])
       | succ k2 =>
        have H := HA.out
        clear HA
        simp only [live_ahead.l1] at H
        by_cases c18 : x12_2 ≥ a3
        ·rw [zC c18] at H
         have c18b0 : decide (a3 ≤ x12_2) = true := zF c18
         clear c18
         by_cases c19 : 0 ≤ a2
         ·rw [zC c19] at H
          have c19b0 := zF c19
          clear c19
          by_cases c20 : a2 < (l0_3.length : Int)
          ·rw [zC c20] at H
           have c20b0 := zF c20
           clear c20
           by_cases c21 : 0 ≤ x12_2
           ·rw [zC c21] at H
            have c21b0 := zF c21
            clear c21
            by_cases c22 : x12_2 < ((rd_LIns l0_3 a2).length : Int)
            ·rw [zC c22] at H
             have c22b0 := zF c22
             clear c22
             replace H := qb H; obtain ⟨t349, A23, H⟩ := H
             have H' := zA H
             clear H
             have z24_0 := bk4 BK340.out
             have p347 : 0 ≤ (a2 : Int) := zB qA
             have q347 : a2 < (l0_3.length : Int) := zB qA
             obtain ⟨ad347, A347_0, c347_0, e347, hx347_0, hl347_0, hi347_0⟩ := at_LIns HR0_3.out a2 p347 q347
             obtain rfl : ad346 = ad347 := (by injection e347)
             replace hx347_0 := (HB.out.cell (zE w _ hx347_0)).trans hx347_0
             have HR347_0 := zA hi347_0
             have HC347_0 := zA hl347_0
             clear hi347_0 hl347_0
             replace p347 := eq_true p347
             replace q347 := eq_true q347
             have p348 : 0 ≤ (x12_2 : Int) := zB qA
             have q348 : x12_2 < ((rd_LIns l0_3 a2).length : Int) := zB qA
             obtain ⟨ad348, A348_5, c348_5, e348, hx348_0, hx348_1, hx348_2, hx348_3, hx348_4, hx348_5, hl348_5, hi348_5⟩ := at_TIns HR347_0.out x12_2 p348 q348
             cases e348
             replace hx348_0 := (HB.out.cell (zE w _ hx348_0)).trans hx348_0
             replace hx348_1 := (HB.out.cell (zE w _ hx348_1)).trans hx348_1
             replace hx348_2 := (HB.out.cell (zE w _ hx348_2)).trans hx348_2
             replace hx348_3 := (HB.out.cell (zE w _ hx348_3)).trans hx348_3
             replace hx348_4 := (HB.out.cell (zE w _ hx348_4)).trans hx348_4
             replace hx348_5 := (HB.out.cell (zE w _ hx348_5)).trans hx348_5
             have HR348_5 := zA hi348_5
             have HC348_5 := zA hl348_5
             clear hi348_5 hl348_5
             replace p348 := eq_true p348
             replace q348 := eq_true q348
             go_wp2_with (first | ((with_reducible refine gate_callee (f := 155) rfl ?_); refine goesL_ (some 50) rfl rfl Tryd.func155 (by kernel_rfl) rfl #[.agg #[.int .i64 ((rd_TIns (rd_LIns l0_3 a2) x12_2).f0), .int .i64 ((rd_TIns (rd_LIns l0_3 a2) x12_2).f1), .int .i64 ((rd_TIns (rd_LIns l0_3 a2) x12_2).f2), .int .i64 ((rd_TIns (rd_LIns l0_3 a2) x12_2).f3), .string ((rd_TIns (rd_LIns l0_3 a2) x12_2).f4), .slice A348_5 ((rd_TIns (rd_LIns l0_3 a2) x12_2).f5).length c348_5], .int .u64 x9_2] rfl qL ?_; (with_reducible refine (live_through.calls k2 ((rd_TIns (rd_LIns l0_3 a2) x12_2).f0) ((rd_TIns (rd_LIns l0_3 a2) x12_2).f1) ((rd_TIns (rd_LIns l0_3 a2) x12_2).f2) ((rd_TIns (rd_LIns l0_3 a2) x12_2).f3) ((rd_TIns (rd_LIns l0_3 a2) x12_2).f4) _ _ ((rd_TIns (rd_LIns l0_3 a2) x12_2).f5) x9_2 t349 _ ?side1 ?side2 A23.out (hL := ?side99)).mono ?_); (case side1 => exact qCB HR348_5.out); (case side2 => exact HC348_5.out); (case side99 => exact LaidW.below HLd.out qB); rintro e w25 ⟨rfl, hb⟩; refine ⟨_, rfl, ?_⟩; replace BK340 := qW BK340 hb; replace HB := qH hb; (try clear hb)))
             go_roundg k2
             case measure => have := HK1.out; have := HK2.out; omega
             case rel => exact ⟨(t349), (wrap64 (x12_2 - 1)), qT, qT, H', ⟨by have := HK1.out; have := HK2.out; omega⟩, ⟨qK BK340.out⟩, ⟨qB⟩⟩
            ·rw [zD c22] at H
             exact absurd H (by simp)
           ·rw [zD c21] at H
            exact absurd H (by simp)
          ·rw [zD c20] at H
           exact absurd H (by simp)
         ·rw [zD c19] at H
          exact absurd H (by simp)
        ·rw [zD c18] at H
         have c18b0 : decide (a3 ≤ x12_2) = false := zG c18
         clear c18
         obtain rfl := zI H
         go_wp2
         go_ret
         exact ⟨qE, qB⟩
     ·rw [zD c16] at H
      exact absurd H (by simp)
    ·rw [zD c15] at H
     exact absurd H (by simp)

mutual
def live_sets.l0 : Nat → List Int → Bool → ByteArray → Int → Int → List (List (SIns)) → Option (List Int)
 | 0, _, _, _, _, _, _ => none
 | k + 1, x3, x4, x351000, x351001, x351002, x351003 => if x4 = true then (live_sets.l1 k x3 false (wrap64 ((x351003.length : Int) - 1)) x351000 x351001 x351002 x351003) else (some x3)
def live_sets.l1 : Nat → List Int → Bool → Int → ByteArray → Int → Int → List (List (SIns)) → Option (List Int)
 | 0, _, _, _, _, _, _, _ => none
 | k + 1, x3, x4, x5, x351000, x351001, x351002, x351003 => if x5 ≥ 0 then ((live_ahead.f k x351000 x351001 x351002 x351003 x3 x5 0).bind fun t354 => (if x4 = true then (if 0 ≤ x5 then (if x5 < (x3.length : Int) then (live_sets.l1 k (x3.set (x5 : Int).toNat t354) true (wrap64 (x5 - 1)) x351000 x351001 x351002 x351003) else (none)) else (none)) else (if 0 ≤ x5 then (if x5 < (x3.length : Int) then (live_sets.l1 k (x3.set (x5 : Int).toNat t354) (t354 != (rd x3 x5)) (wrap64 (x5 - 1)) x351000 x351001 x351002 x351003) else (none)) else (none)))) else (live_sets.l0 k x3 x4 x351000 x351001 x351002 x351003)
end
def live_sets.f (k : Nat) (a0_0 : ByteArray) (a0_1 : Int) (a0_2 : Int) (l0_3 : List (List (SIns))) : Option (List Int) := if 0 ≤ (l0_3.length : Int) then (if ((l0_3.length : Int) : Int).toNat ≤ 35184372088832 then (live_sets.l0 k (List.replicate ((l0_3.length : Int) : Int).toNat 0) true a0_0 a0_1 a0_2 l0_3) else (none)) else (none)
set_option maxHeartbeats 8000000 in
set_option maxRecDepth 100000 in
theorem live_sets.calls (k : Nat) (a0_0 : ByteArray) (a0_1 : Int) (a0_2 : Int) (A0_3 : Option Addr) (c0_3 : Nat) (l0_3 : List (List (SIns))) (r : List Int) (w : World) (hL : LaidW w) (hr0_3 : Kd.C (Kd.slice 38 kIns) w A0_3 l0_3.length l0_3) (hc0_3 : l0_3.length ≤ c0_3) (h : live_sets.f k a0_0 a0_1 a0_2 l0_3 = some r) :
 Calls Tryd.prog 79 #[.agg #[.string a0_0, .int .i64 a0_1, .int .i64 a0_2, .slice A0_3 l0_3.length c0_3]] w fun e w' => ∃ v0_ : Value, e = .returned (v0_) ∧ Kd.R (Kd.int .u64) 121 w' w.heap.size (fun _ => True) v0_ r ∧ Below w.heap.size w w' := by
 have hu24 := Tryd.underlying24
 have HR0_3 := zA hr0_3
 have HC0_3 := zA hc0_3
 clear hr0_3 hc0_3
 have HB := zA (Below.refl w.heap.size w)
 have HLd := zA hL
 clear hL
 have H := h; clear h; unfold live_sets.f at H
 by_cases c2 : 0 ≤ (l0_3.length : Int)
 ·rw [zC c2] at H
  have c2b0 := eq_true c2
  have c2b1 := zF c2
  clear c2
  by_cases c3 : ((l0_3.length : Int) : Int).toNat ≤ 35184372088832
  ·rw [zC c3] at H
   have c3b0 := eq_true c3
   have c3b1 := zF c3
   clear c3
   obtain ⟨y351, hy351⟩ : ∃ y_ : List Int, y_ = (List.replicate ((l0_3.length : Int) : Int).toNat 0) := ⟨_, rfl⟩
   replace H : (live_sets.l0 k y351 true a0_0 a0_1 a0_2 l0_3) = some r := by (try rw [hy351]); first | with_reducible exact H | exact (zJ _ _).symm.trans H | exact H
   have Ny351 := zA hy351
   clear hy351
   have H' := zA H
   clear H
   go_enter Tryd.func79, Tryd.ntmps79
   go_wp2_with (first | ((with_reducible refine gate_dst (N := 1) rfl ?_); refine box_event (by rfl) (N := 1) (by rfl) (cs := #[.string a0_0, .int .i64 a0_1, .int .i64 a0_2, .slice A0_3 l0_3.length c0_3]) (t := 24) ?hr ?_; (case hr => go_simp <;> rfl); intro gb350 hg w4 hbox hb; have BK350 := zA (hbox); have GW350 := qG hg; have GE350 := GW350; replace HB := qH hb; clear hb hbox hg; have z5_0 := bk4 BK350.out) | ((with_reducible refine gate_dst (N := 10) rfl ?_); refine Kd.R_make (Kd.int .u64) _ 121 rfl (N := 10) rfl 122 _ _ rfl (l0_3.length : Int) rfl rfl Tryd.underlying122 (.int .u64 0) 8 info121 rfl (by decide) (by omega) 0 (ok := fun _ => True) (okp := fun _ => True) rfl (fun _ hk => hk) trivial (zB qA) (Nat.le_trans (Nat.mul_le_mul_right _ (zB qA : (l0_3.length : Int).toNat ≤ 35184372088832)) (by omega)) (Below.refl _ _) (Nat.le_refl _) ?_; intro v352 w6 ho7 hb hg_ hnew_; clear hg_ hnew_; (first | rw [← Ny351.out] at ho7 | (simp only [Int.reduceToNat] at ho7; rw [← Ny351.out] at ho7)); have HO353 := zA (Kd.R_lower ho7 (below_size qB)); replace BK350 := qW BK350 hb; replace HB := qH hb; clear hb ho7))
   go_loopg [4] k (fun kq v4 w' => ∃ (x3_1 : List Int) (x4_1 : Bool), v4 = .bool x4_1 ∧ Aside0 (live_sets.l0 kq x3_1 x4_1 a0_0 a0_1 a0_2 l0_3 = some r) ∧ Aside0 (kq ≤ k) ∧ Aside0 (Kd.R (Kd.int .u64) 121 w' w.heap.size (fun _ => True) v352 x3_1) ∧ Aside0 (w'.heap[gb350]? = some (.cells #[.string a0_0, .int .i64 a0_1, .int .i64 a0_2, (.slice A0_3 l0_3.length c0_3)] 24 (0, 0))) ∧ Aside0 (Below w.heap.size w w'))
   case atStart => exact ⟨(y351), (true), qT, H', ⟨Nat.le_refl _⟩, ⟨qR HO353.out⟩, ⟨qK BK350.out⟩, ⟨qB⟩⟩
   case round =>
    clear H'
    obtain ⟨x3_1, x4_1, rfl, HA, HK1, HO_3, BK350, HB⟩ := hrel
    cases gk with
    | zero => exact absurd HA.out (by simp [live_sets.l0])
    | succ k1 =>
     have H := HA.out
     clear HA
     simp only [live_sets.l0] at H
     by_cases c8 : x4_1 = true
     ·subst c8
      have H1 : (live_sets.l1 k1 x3_1 false (wrap64 ((l0_3.length : Int) - 1)) a0_0 a0_1 a0_2 l0_3) = some r := by rw [zC rfl] at H; exact H
      clear H
      have H := H1
      clear H1
      have H' := zA H
      clear H
      have z9_0 := bk4 BK350.out
      go_wp2
      go_loopg [4, 5] k1 (fun kq v4 v5 w' => ∃ (x3_2 : List Int) (x4_2 : Bool) (x5_2 : Int), v4 = .bool x4_2 ∧ v5 = .int .i64 x5_2 ∧ Aside0 (live_sets.l1 kq x3_2 x4_2 x5_2 a0_0 a0_1 a0_2 l0_3 = some r) ∧ Aside0 (kq ≤ k1) ∧ Aside0 (Kd.R (Kd.int .u64) 121 w' w.heap.size (fun _ => True) v352 x3_2) ∧ Aside0 (w'.heap[gb350]? = some (.cells #[.string a0_0, .int .i64 a0_1, .int .i64 a0_2, (.slice A0_3 l0_3.length c0_3)] 24 (0, 0))) ∧ Aside0 (Below w.heap.size w w'))
      case atStart => exact ⟨(x3_1), (false), (wrap64 ((l0_3.length : Int) - 1)), qT, qT, H', ⟨Nat.le_refl _⟩, ⟨qR HO_3.out⟩, ⟨qK BK350.out⟩, ⟨qB⟩⟩
      case round =>
       clear H'
       obtain ⟨x3_2, x4_2, x5_2, rfl, rfl, HA, HK2, HO_3, BK350, HB⟩ := hrel
       cases gk with
       | zero => exact absurd HA.out (by simp [live_sets.l1])
       | succ k2 =>
        have H := HA.out
        clear HA
        simp only [live_sets.l1] at H
        by_cases c10 : x5_2 ≥ 0
        ·rw [zC c10] at H
         have c10b0 : decide (0 ≤ x5_2) = true := zF c10
         clear c10
         replace H := qb H; obtain ⟨t354, A11, H⟩ := H
         by_cases c12 : x4_2 = true
         ·subst c12
          have H1 : (if 0 ≤ x5_2 then (if x5_2 < (x3_2.length : Int) then (live_sets.l1 k2 (x3_2.set (x5_2 : Int).toNat t354) true (wrap64 (x5_2 - 1)) a0_0 a0_1 a0_2 l0_3) else (none)) else (none)) = some r := by rw [zC rfl] at H; exact H
          clear H
          have H := H1
          clear H1
          by_cases c13 : 0 ≤ x5_2
          ·rw [zC c13] at H
           have c13b0 := zF c13
           clear c13
           by_cases c14 : x5_2 < (x3_2.length : Int)
           ·rw [zC c14] at H
            have c14b0 := zF c14
            clear c14
            obtain ⟨y355, hy355⟩ : ∃ y_ : List Int, y_ = (x3_2.set (x5_2 : Int).toNat t354) := ⟨_, rfl⟩
            replace H : (live_sets.l1 k2 y355 true (wrap64 (x5_2 - 1)) a0_0 a0_1 a0_2 l0_3) = some r := by (try rw [hy355]); first | with_reducible exact H | exact (zJ _ _).symm.trans H | exact H
            have Ny355 := zA hy355
            clear hy355
            have H' := zA H
            clear H
            have z16_0 := bk4 BK350.out
            obtain ⟨Ao17, co17, eo17⟩ := Kd.R_slice HO_3.out
            subst eo17
            go_wp2_with (first | ((with_reducible refine gate_callee (f := 119) rfl ?_); refine goesL_ (some 23) rfl rfl Tryd.func119 (by kernel_rfl) rfl #[.agg #[.string a0_0, .int .i64 a0_1, .int .i64 a0_2, .slice A0_3 l0_3.length c0_3], .slice Ao17 x3_2.length co17, .int .i64 x5_2, .int .i64 0] rfl qL ?_; (with_reducible refine (live_ahead.calls k2 a0_0 a0_1 a0_2 _ _ l0_3 _ _ x3_2 x5_2 0 t354 _ ?side1 ?side2 ?side3 ?side4 A11.out (hL := ?side99)).mono ?_); (case side1 => exact qCB HR0_3.out); (case side2 => exact HC0_3.out); (case side3 => repeat (first | exact (Kd.R_reads' HO_3.out).2.2 | (with_reducible refine Kd.C_alloc ?_ _) | (with_reducible refine Kd.C_drewN ?_ _) | (with_reducible refine Kd.C_drew ?_))); (case side4 => exact (Kd.R_reads' HO_3.out).2.1); (case side99 => exact LaidW.below HLd.out qB); rintro e w18 ⟨rfl, hb⟩; refine ⟨_, rfl, ?_⟩; replace HO_3 := zA (Kd.R_below (qR HO_3.out) hb); replace BK350 := qW BK350 hb; replace HB := qH hb; (try clear hb); have p15 : 0 ≤ (x5_2 : Int) := zB qA; have q15 : (x5_2 : Int) < ((x3_2.length : Int) : Int) := zB qA; obtain ⟨go15, co15, eo15, gb15, gl15, cl15, HG15⟩ := Kd.R_form HO_3.out (by omega); (first | cases eo15 | (injection eo15 with ea_ en_ ec_; (first | subst ea_ | (injection ea_ with ea_; subst ea_)); subst ec_; clear en_)); have GB15 := zA gb15; have GG15 := zA HG15; clear gb15 gl15 HG15; obtain ⟨hx15_0, hf15_0⟩ := Kd.R_celln 0 HO_3.out (x5_2 : Int) p15 q15; replace p15 := eq_true p15; replace q15 := eq_true q15; obtain ⟨hy19_, hz19_⟩ := Kd.R_celln 0 HO_3.out (x5_2 : Int) (zB qA) (zB qA); have HP19 := Kd.R_putg HO_3.out (x5_2 : Int) t354) | ((with_reducible refine gate_store (t := 121) (p := 36) rfl ?_); refine store_event (t := 121) (p := 36) (v := ?vo_w20) (w1 := (w18.setCell ⟨go15, (x5_2 : Int).toNat, none⟩ (.int .u64 t354))) (by rfl) (by rfl) (by rfl) ?hr ?_; (case hr => go_simp <;> rfl); intro w20 hw; have hg : w18.grownBy w20 (some go15) := (by rw [hw]; exact HP19.2); have hp_ : Kd.R (Kd.int .u64) 121 w20 w.heap.size (fun _ => True) (.slice (some ⟨go15, 0, none⟩) x3_2.length co17) y355 := (by rw [hw, Ny355.out]; exact HP19.1); clear HP19; replace BK350 := zA (blk_grown (qK BK350.out) hg (Kd.R_ne HO_3.out BK350.out (by decide))); replace HO_3 := zA (hp_); replace HB := zA ((by rw [hw]; exact below_set (HB.out) GB15.out : Below w.heap.size w w20)); clear hg hw hp_))
            go_roundg k2
            case measure => have := HK1.out; have := HK2.out; omega
            case rel => exact ⟨(y355), (true), (wrap64 (x5_2 - 1)), qT, qT, H', ⟨by have := HK1.out; have := HK2.out; omega⟩, ⟨qR HO_3.out⟩, ⟨qK BK350.out⟩, ⟨qB⟩⟩
           ·rw [zD c14] at H
            exact absurd H (by simp)
          ·rw [zD c13] at H
           exact absurd H (by simp)
         ·replace c12 := Bool.eq_false_iff.mpr c12
          subst c12
          have H1 : (if 0 ≤ x5_2 then (if x5_2 < (x3_2.length : Int) then (live_sets.l1 k2 (x3_2.set (x5_2 : Int).toNat t354) (t354 != (rd x3_2 x5_2)) (wrap64 (x5_2 - 1)) a0_0 a0_1 a0_2 l0_3) else (none)) else (none)) = some r := by rw [zD (show ¬ (false = true) by decide)] at H; exact H
          clear H
          have H := H1
          clear H1
          by_cases c21 : 0 ≤ x5_2
          ·rw [zC c21] at H
           have c21b0 := zF c21
           clear c21
           by_cases c22 : x5_2 < (x3_2.length : Int)
           ·rw [zC c22] at H
            have c22b0 := zF c22
            clear c22
            obtain ⟨y357, hy357⟩ : ∃ y_ : List Int, y_ = (x3_2.set (x5_2 : Int).toNat t354) := ⟨_, rfl⟩
            replace H : (live_sets.l1 k2 y357 (t354 != (rd x3_2 x5_2)) (wrap64 (x5_2 - 1)) a0_0 a0_1 a0_2 l0_3) = some r := by (try rw [hy357]); first | with_reducible exact H | exact (zJ _ _).symm.trans H | exact H
            have Ny357 := zA hy357
            clear hy357
            have H' := zA H
            clear H
            have z24_0 := bk4 BK350.out
            obtain ⟨Ao25, co25, eo25⟩ := Kd.R_slice HO_3.out
            subst eo25
            go_wp2_with (first | ((with_reducible refine gate_callee (f := 119) rfl ?_); refine goesL_ (some 23) rfl rfl Tryd.func119 (by kernel_rfl) rfl #[.agg #[.string a0_0, .int .i64 a0_1, .int .i64 a0_2, .slice A0_3 l0_3.length c0_3], .slice Ao25 x3_2.length co25, .int .i64 x5_2, .int .i64 0] rfl qL ?_; (with_reducible refine (live_ahead.calls k2 a0_0 a0_1 a0_2 _ _ l0_3 _ _ x3_2 x5_2 0 t354 _ ?side1 ?side2 ?side3 ?side4 A11.out (hL := ?side99)).mono ?_); (case side1 => exact qCB HR0_3.out); (case side2 => exact HC0_3.out); (case side3 => repeat (first | exact (Kd.R_reads' HO_3.out).2.2 | (with_reducible refine Kd.C_alloc ?_ _) | (with_reducible refine Kd.C_drewN ?_ _) | (with_reducible refine Kd.C_drew ?_))); (case side4 => exact (Kd.R_reads' HO_3.out).2.1); (case side99 => exact LaidW.below HLd.out qB); rintro e w26 ⟨rfl, hb⟩; refine ⟨_, rfl, ?_⟩; replace HO_3 := zA (Kd.R_below (qR HO_3.out) hb); replace BK350 := qW BK350 hb; replace HB := qH hb; (try clear hb); have p356 : 0 ≤ (x5_2 : Int) := zB qA; have q356 : x5_2 < (x3_2.length : Int) := zB qA; obtain ⟨ad356, e356, hx356_0⟩ := Kd.at_int (Kd.R_reads' HO_3.out).2.2 x5_2 p356 q356; cases e356; replace p356 := eq_true p356; replace q356 := eq_true q356; have p23 : 0 ≤ (x5_2 : Int) := zB qA; have q23 : (x5_2 : Int) < ((x3_2.length : Int) : Int) := zB qA; obtain ⟨go23, co23, eo23, gb23, gl23, cl23, HG23⟩ := Kd.R_form HO_3.out (by omega); (first | cases eo23 | (injection eo23 with ea_ en_ ec_; (first | subst ea_ | (injection ea_ with ea_; subst ea_)); subst ec_; clear en_)); have GB23 := zA gb23; have GG23 := zA HG23; clear gb23 gl23 HG23; (first | simp only [add_plain] at hx356_0 | skip); obtain ⟨hx23_0, hf23_0⟩ := Kd.R_celln 0 HO_3.out (x5_2 : Int) p23 q23; replace p23 := eq_true p23; replace q23 := eq_true q23; obtain ⟨hy27_, hz27_⟩ := Kd.R_celln 0 HO_3.out (x5_2 : Int) (zB qA) (zB qA); have HP27 := Kd.R_putg HO_3.out (x5_2 : Int) t354) | ((with_reducible refine gate_store (t := 121) (p := 36) rfl ?_); refine store_event (t := 121) (p := 36) (v := ?vo_w28) (w1 := (w26.setCell ⟨go23, (x5_2 : Int).toNat, none⟩ (.int .u64 t354))) (by rfl) (by rfl) (by rfl) ?hr ?_; (case hr => go_simp <;> rfl); intro w28 hw; have hg : w26.grownBy w28 (some go23) := (by rw [hw]; exact HP27.2); have hp_ : Kd.R (Kd.int .u64) 121 w28 w.heap.size (fun _ => True) (.slice (some ⟨go23, 0, none⟩) x3_2.length co25) y357 := (by rw [hw, Ny357.out]; exact HP27.1); clear HP27; replace BK350 := zA (blk_grown (qK BK350.out) hg (Kd.R_ne HO_3.out BK350.out (by decide))); replace HO_3 := zA (hp_); replace HB := zA ((by rw [hw]; exact below_set (HB.out) GB23.out : Below w.heap.size w w28)); clear hg hw hp_))
            go_roundg k2
            case measure => have := HK1.out; have := HK2.out; omega
            case rel => exact ⟨(y357), ((t354 != (rd x3_2 x5_2))), (wrap64 (x5_2 - 1)), qT, qT, H', ⟨by have := HK1.out; have := HK2.out; omega⟩, ⟨qR HO_3.out⟩, ⟨qK BK350.out⟩, ⟨qB⟩⟩
           ·rw [zD c22] at H
            exact absurd H (by simp)
          ·rw [zD c21] at H
           exact absurd H (by simp)
        ·rw [zD c10] at H
         have c10b0 : decide (0 ≤ x5_2) = false := zG c10
         clear c10
         have H' := zA H
         clear H
         go_wp2
         go_roundg k2
         case measure => have := HK1.out; have := HK2.out; omega
         case rel => exact ⟨(x3_2), (x4_2), qT, H', ⟨by have := HK1.out; have := HK2.out; omega⟩, ⟨qR HO_3.out⟩, ⟨qK BK350.out⟩, ⟨qB⟩⟩
     ·replace c8 := Bool.eq_false_iff.mpr c8
      subst c8
      have H1 : (some x3_1) = some r := by rw [zD (show ¬ (false = true) by decide)] at H; exact H
      clear H
      have H := H1
      clear H1
      obtain rfl := zI H
      go_wp2
      go_ret
      exact ⟨_, qE, qR HO_3.out, qB⟩
  ·rw [zD c3] at H
   exact absurd H (by simp)
 ·rw [zD c2] at H
  exact absurd H (by simp)

def live_Check.f (k : Nat) (a0_0 : ByteArray) (a0_1 : Int) (a0_2 : Int) (l0_3 : List (List (SIns))) : Option (Int) := (ir_Check.f k a0_0 a0_1 a0_2 l0_3).bind fun t359 => (if t359 = 0 then ((live_sets.f k a0_0 a0_1 a0_2 l0_3).bind fun t360 => (if 0 < (t360.length : Int) then (if 0 ≤ (IntKind.u64.wrap (a0_1)) then (if (shr .u64 (rd t360 0) (IntKind.u64.wrap (a0_1))) = 0 then (some 0) else (some 110)) else (none)) else (none))) else (some t359))
def live_Check.T4 : Bool × List (List Nat × List Nat) := (true, [([], []), ([0], [0]), ([1], [1]), ([2], [2]), ([], []), ([4], [4]), ([5], [5]), ([3, 6], [3, 6]), ([7], [7])])
def live_Check.B4 : List Nat := [0, 1, 3, 7, 0, 16, 48, 127, 255]
theorem live_Check.tab4 : rtab .any (opsOf Tryd.f39 4) = live_Check.T4 := by kernel_rfl
theorem live_Check.bits4 : waitsOk live_Check.T4.2 live_Check.B4 = true := by kernel_rfl
theorem live_Check.one_value {P : Program} {ops : Array Oper} {Q : Exit → Act → World → Prop} {oi : Oper} {N : Option Tmp} {a : Act} {w : World} {K : Act → World → Prop} (v : Value) (hw : Region.wanted oi (yielded ops a.tmps) = true) (hN : oi.dst = N) (hrun : (execOp a.eval oi).run P w = .ok (.value v) w) (h : K (a.put N v) w) :
 if Region.wanted oi (yielded ops a.tmps) = true then Oper.wp P oi a w K Q else K (a.put N undef) w := by
 rw [zC hw]
 unfold Oper.wp
 rw [hrun, Oper.upon_value, hN]
 exact h
set_option maxHeartbeats 8000000 in
set_option maxRecDepth 100000 in
theorem live_Check.calls (k : Nat) (a0_0 : ByteArray) (a0_1 : Int) (a0_2 : Int) (A0_3 : Option Addr) (c0_3 : Nat) (l0_3 : List (List (SIns))) (r : Int) (w : World) (hL : LaidW w) (hr0_3 : Kd.C (Kd.slice 38 kIns) w A0_3 l0_3.length l0_3) (hc0_3 : l0_3.length ≤ c0_3) (h : live_Check.f k a0_0 a0_1 a0_2 l0_3 = some r) :
 Calls Tryd.prog 39 #[.agg #[.string a0_0, .int .i64 a0_1, .int .i64 a0_2, .slice A0_3 l0_3.length c0_3]] w fun e w' => e = .returned (.int .i64 r) ∧ Below w.heap.size w w' := by
 have hu24 := Tryd.underlying24
 have HR0_3 := zA hr0_3
 have HC0_3 := zA hc0_3
 clear hr0_3 hc0_3
 have HB := zA (Below.refl w.heap.size w)
 have HLd := zA hL
 clear hL
 have H := h; clear h; unfold live_Check.f at H
 replace H := qb H; obtain ⟨t359, A2, H⟩ := H
 by_cases c3 : t359 = 0
 ·rw [zC c3] at H
  obtain ⟨c3b0, c3b1⟩ := qe c3; clear c3
  replace H := qb H; obtain ⟨t360, A4, H⟩ := H
  by_cases c5 : 0 < (t360.length : Int)
  ·rw [zC c5] at H
   have c5b0 := zF c5
   have c5b1 : decide (0 < t360.length) = true := zF (by omega)
   clear c5
   obtain ⟨ji6, hji6⟩ : ∃ j_ : Int, (IntKind.u64.wrap (a0_1)) = j_ := ⟨_, rfl⟩
   replace H : (if 0 ≤ (ji6) then (if (shr .u64 (rd t360 0) (ji6)) = 0 then (some 0) else (some 110)) else (none)) = some r := by first | (rw [hji6] at H; exact H) | (simp only [hji6] at H ⊢; exact H)
   (try rw [hji6] at A2)
   (try rw [hji6] at A4)
   by_cases c7 : 0 ≤ (ji6)
   ·rw [zC c7] at H
    have c7b0 := eq_true c7
    have c7b1 := zF c7
    clear c7
    obtain ⟨ji8, hji8⟩ : ∃ j_ : Int, (shr .u64 (rd t360 0) (ji6)) = j_ := ⟨_, rfl⟩
    replace H : (if (ji8) = 0 then (some 0) else (some 110)) = some r := by first | (rw [hji8] at H; exact H) | (simp only [hji8] at H ⊢; exact H)
    (try rw [hji8] at A2)
    (try rw [hji8] at A4)
    have hji8_ : ((rd t360 0) / 2 ^ min (ji6).toNat 64) = ji8 := hji8
    have hji8z : (ji6) ≤ 64 → ((rd t360 0) / 2 ^ (ji6).toNat) = ji8 := shr_small hji8
    by_cases c9 : (ji8) = 0
    ·rw [zC c9] at H
     obtain ⟨c9b0, c9b1⟩ := qe c9; clear c9
     obtain rfl := zI H
     go_enter Tryd.func39, Tryd.ntmps39
     try go_wp2_with (first | ((with_reducible refine gate_dst (N := 1) rfl ?_); refine box_event (by rfl) (N := 1) (by rfl) (cs := #[.string a0_0, .int .i64 a0_1, .int .i64 a0_2, .slice A0_3 l0_3.length c0_3]) (t := 24) ?hr ?_; (case hr => go_simp <;> rfl); intro gb358 hg w10 hbox hb; have BK358 := zA (hbox); have GW358 := qG hg; have GE358 := GW358; replace HB := qH hb; clear hb hbox hg; have z11_0 := bk4 BK358.out) | ((with_reducible refine gate_callee (f := 78) rfl ?_); refine goesL_ (some 5) rfl rfl Tryd.func78 (by kernel_rfl) rfl #[.agg #[.string a0_0, .int .i64 a0_1, .int .i64 a0_2, .slice A0_3 l0_3.length c0_3]] rfl qL ?_; (with_reducible refine (ir_Check.calls k a0_0 a0_1 a0_2 _ _ l0_3 t359 _ ?side1 ?side2 A2.out (hL := ?side99)).mono ?_); (case side1 => exact qCB HR0_3.out); (case side2 => exact HC0_3.out); (case side99 => exact LaidW.below HLd.out qB); rintro e w12 ⟨rfl, hb⟩; refine ⟨_, rfl, ?_⟩; replace BK358 := qW BK358 hb; replace HB := qH hb; (try clear hb)))
     have n0_ := zA (blk_drew BK358.out)
     have n1_ := zA (below_drew1 HB.out)
     clear BK358
     clear HB
     have BK358 := n0_
     have HB := n1_
     clear n0_ n1_
     refine start_ (n := 9) (S := fun w' => w'.cell? ⟨gb358, 0, none⟩ = some (.string a0_0) ∧ w'.cell? ⟨gb358, 1, none⟩ = some (.int .i64 a0_1) ∧ w'.cell? ⟨gb358, 2, none⟩ = some (.int .i64 a0_2) ∧ w'.cell? ⟨gb358, 3, none⟩ = some (.slice A0_3 l0_3.length c0_3)) (ds := []) (bA 9 0) (by kernel_rfl) rfl rfl ⟨(blk_cell BK358.out 0).trans rfl, (blk_cell BK358.out 1).trans rfl, (blk_cell BK358.out 2).trans rfl, (blk_cell BK358.out 3).trans rfl⟩ (fun hHeld => ?_); refine with_tabW live_Check.tab4 live_Check.bits4 (fun HT_ HW_ => ?_)
     generalize w12.drew = w13 at BK358 HB hHeld ⊢
     refine pu_ (i := 4) (N := some 13) (bA 9 16) ?_
     refine tk_ (i := 0) (N := some 9) (bA 9 17) ?_
     refine tk_ (i := 5) (N := some 14) (bA 9 49) ?_
     refine pu_ (i := 6) (N := some 15) (bA 9 113) ?_
     refine one_ (i := 1) (N := some 10) (bA 9 115) rfl rfl (one_of HT_.out (by kernel_rfl)) (by decide) (fun K hK => ?_)
     refine goes_ Tryd.func79 (by kernel_rfl) rfl #[.agg #[.string a0_0, .int .i64 a0_1, .int .i64 a0_2, .slice A0_3 l0_3.length c0_3]] (by rfl) rfl rfl qL ?_
     with_reducible refine (live_sets.calls k a0_0 a0_1 a0_2 _ _ l0_3 t360 _ ?side1 ?side2 A4.out (hL := ?side99)).mono ?_
     (case side1 => exact qCB HR0_3.out)
     (case side2 => exact HC0_3.out)
     (case side99 => exact LaidW.below HLd.out qB)
     rintro e w14 ⟨v361, rfl, ho0, hb⟩
     refine ⟨_, rfl, ?_⟩
     have n0_ := zA (Kd.R_lower ho0 (below_size qB))
     have n1_ := qW BK358 hb
     have n2_ := qH hb
     clear BK358
     clear HB
     have HO362 := n0_
     have BK358 := n1_
     have HB := n2_
     clear n0_ n1_ n2_
     (try clear hb)
     (try clear hb2)
     (try clear hk)
     (try clear hi)
     (try clear ho0)
     obtain ⟨Ao15, co15, eo15⟩ := Kd.R_slice HO362.out
     (first | subst eo15 | (injection eo15 with f1_ f2_ f3_; have f4_ := f1_.symm; have f5_ := f3_.symm; clear f1_ f2_ f3_; subst f4_; subst f5_))
     have p363 : 0 ≤ (0 : Int) := (by omega)
     have q363 : 0 < (t360.length : Int) := zB qA
     obtain ⟨ad363, e363, hx363_0⟩ := Kd.at_int (Kd.R_reads' HO362.out).2.2 0 p363 q363
     cases e363
     have qi363 : (0 < t360.length) = True := eq_true (by omega)
     (try rw [show ((0 : Int)).toNat = 0 from rfl] at hx363_0)
     (try rw [Addr.add_zero'] at hx363_0)
     replace p363 := eq_true p363
     replace q363 := eq_true q363
     refine hK.out _ _ ⟨(blk_cell BK358.out 0).trans rfl, (blk_cell BK358.out 1).trans rfl, (blk_cell BK358.out 2).trans rfl, (blk_cell BK358.out 3).trans rfl⟩ (fun hHeld => ?_)
     clear hK K
     refine norm_ (a' := ?_) ?_ ?_
     rotate_left
     ·show Act.put _ (some 10) _ = _
      simp only [Act.put, List.setIfInBounds_toArray, List.set_cons_zero, List.set_cons_succ, i64_w, i32_w]
      rfl
     refine pu_ (i := 2) (N := some 11) (bA 9 119) ?_
     refine one_ (i := 3) (N := some 12) (bA 9 127) rfl rfl (one_of HT_.out (by kernel_rfl)) (by decide) (fun K hK => ?_)
     refine live_Check.one_value (.int .u64 (rd t360 0)) rfl rfl (by first | (go_simp; done) | (go_simp; with_reducible rfl)) ?_
     refine hK.out _ _ ⟨(blk_cell BK358.out 0).trans rfl, (blk_cell BK358.out 1).trans rfl, (blk_cell BK358.out 2).trans rfl, (blk_cell BK358.out 3).trans rfl⟩ (fun hHeld => ?_)
     clear hK K
     refine norm_ (a' := ?_) ?_ ?_
     rotate_left
     ·show Act.put _ (some 12) _ = _
      simp only [Act.put, List.setIfInBounds_toArray, List.set_cons_zero, List.set_cons_succ, i64_w, i32_w]
      rfl
     refine pu_ (i := 7) (N := some 16) (bA 9 255) ?_
     refine pu_ (i := 8) (N := some 17) (bA 9 511) ?_
     refine done_ (done_of HT_.out (by kernel_rfl)) ?_
     try go_wp2
     go_ret
     exact ⟨by first | rfl | (simp [errW_none, errW_some] <;> rfl) | (simp only [← hji6, ← hji8]; first | rfl | (simp [errW_none, errW_some] <;> rfl)) | (simp [*, errW_none, errW_some] <;> rfl), qB⟩
    ·rw [zD c9] at H
     obtain ⟨c9b0, c9b1⟩ := qn c9
     obtain rfl := zI H
     go_enter Tryd.func39, Tryd.ntmps39
     try go_wp2_with (first | ((with_reducible refine gate_dst (N := 1) rfl ?_); refine box_event (by rfl) (N := 1) (by rfl) (cs := #[.string a0_0, .int .i64 a0_1, .int .i64 a0_2, .slice A0_3 l0_3.length c0_3]) (t := 24) ?hr ?_; (case hr => go_simp <;> rfl); intro gb358 hg w16 hbox hb; have BK358 := zA (hbox); have GW358 := qG hg; have GE358 := GW358; replace HB := qH hb; clear hb hbox hg; have z17_0 := bk4 BK358.out) | ((with_reducible refine gate_callee (f := 78) rfl ?_); refine goesL_ (some 5) rfl rfl Tryd.func78 (by kernel_rfl) rfl #[.agg #[.string a0_0, .int .i64 a0_1, .int .i64 a0_2, .slice A0_3 l0_3.length c0_3]] rfl qL ?_; (with_reducible refine (ir_Check.calls k a0_0 a0_1 a0_2 _ _ l0_3 t359 _ ?side1 ?side2 A2.out (hL := ?side99)).mono ?_); (case side1 => exact qCB HR0_3.out); (case side2 => exact HC0_3.out); (case side99 => exact LaidW.below HLd.out qB); rintro e w18 ⟨rfl, hb⟩; refine ⟨_, rfl, ?_⟩; replace BK358 := qW BK358 hb; replace HB := qH hb; (try clear hb)))
     have n0_ := zA (blk_drew BK358.out)
     have n1_ := zA (below_drew1 HB.out)
     clear BK358
     clear HB
     have BK358 := n0_
     have HB := n1_
     clear n0_ n1_
     refine start_ (n := 9) (S := fun w' => w'.cell? ⟨gb358, 0, none⟩ = some (.string a0_0) ∧ w'.cell? ⟨gb358, 1, none⟩ = some (.int .i64 a0_1) ∧ w'.cell? ⟨gb358, 2, none⟩ = some (.int .i64 a0_2) ∧ w'.cell? ⟨gb358, 3, none⟩ = some (.slice A0_3 l0_3.length c0_3)) (ds := []) (bA 9 0) (by kernel_rfl) rfl rfl ⟨(blk_cell BK358.out 0).trans rfl, (blk_cell BK358.out 1).trans rfl, (blk_cell BK358.out 2).trans rfl, (blk_cell BK358.out 3).trans rfl⟩ (fun hHeld => ?_); refine with_tabW live_Check.tab4 live_Check.bits4 (fun HT_ HW_ => ?_)
     generalize w18.drew = w19 at BK358 HB hHeld ⊢
     refine pu_ (i := 4) (N := some 13) (bA 9 16) ?_
     refine tk_ (i := 0) (N := some 9) (bA 9 17) ?_
     refine tk_ (i := 5) (N := some 14) (bA 9 49) ?_
     refine pu_ (i := 6) (N := some 15) (bA 9 113) ?_
     refine one_ (i := 1) (N := some 10) (bA 9 115) rfl rfl (one_of HT_.out (by kernel_rfl)) (by decide) (fun K hK => ?_)
     refine goes_ Tryd.func79 (by kernel_rfl) rfl #[.agg #[.string a0_0, .int .i64 a0_1, .int .i64 a0_2, .slice A0_3 l0_3.length c0_3]] (by rfl) rfl rfl qL ?_
     with_reducible refine (live_sets.calls k a0_0 a0_1 a0_2 _ _ l0_3 t360 _ ?side1 ?side2 A4.out (hL := ?side99)).mono ?_
     (case side1 => exact qCB HR0_3.out)
     (case side2 => exact HC0_3.out)
     (case side99 => exact LaidW.below HLd.out qB)
     rintro e w20 ⟨v361, rfl, ho0, hb⟩
     refine ⟨_, rfl, ?_⟩
     have n0_ := zA (Kd.R_lower ho0 (below_size qB))
     have n1_ := qW BK358 hb
     have n2_ := qH hb
     clear BK358
     clear HB
     have HO362 := n0_
     have BK358 := n1_
     have HB := n2_
     clear n0_ n1_ n2_
     (try clear hb)
     (try clear hb2)
     (try clear hk)
     (try clear hi)
     (try clear ho0)
     obtain ⟨Ao21, co21, eo21⟩ := Kd.R_slice HO362.out
     (first | subst eo21 | (injection eo21 with f1_ f2_ f3_; have f4_ := f1_.symm; have f5_ := f3_.symm; clear f1_ f2_ f3_; subst f4_; subst f5_))
     have p363 : 0 ≤ (0 : Int) := (by omega)
     have q363 : 0 < (t360.length : Int) := zB qA
     obtain ⟨ad363, e363, hx363_0⟩ := Kd.at_int (Kd.R_reads' HO362.out).2.2 0 p363 q363
     cases e363
     have qi363 : (0 < t360.length) = True := eq_true (by omega)
     (try rw [show ((0 : Int)).toNat = 0 from rfl] at hx363_0)
     (try rw [Addr.add_zero'] at hx363_0)
     replace p363 := eq_true p363
     replace q363 := eq_true q363
     refine hK.out _ _ ⟨(blk_cell BK358.out 0).trans rfl, (blk_cell BK358.out 1).trans rfl, (blk_cell BK358.out 2).trans rfl, (blk_cell BK358.out 3).trans rfl⟩ (fun hHeld => ?_)
     clear hK K
     refine norm_ (a' := ?_) ?_ ?_
     rotate_left
     ·show Act.put _ (some 10) _ = _
      simp only [Act.put, List.setIfInBounds_toArray, List.set_cons_zero, List.set_cons_succ, i64_w, i32_w]
      rfl
     refine pu_ (i := 2) (N := some 11) (bA 9 119) ?_
     refine one_ (i := 3) (N := some 12) (bA 9 127) rfl rfl (one_of HT_.out (by kernel_rfl)) (by decide) (fun K hK => ?_)
     refine live_Check.one_value (.int .u64 (rd t360 0)) rfl rfl (by first | (go_simp; done) | (go_simp; with_reducible rfl)) ?_
     refine hK.out _ _ ⟨(blk_cell BK358.out 0).trans rfl, (blk_cell BK358.out 1).trans rfl, (blk_cell BK358.out 2).trans rfl, (blk_cell BK358.out 3).trans rfl⟩ (fun hHeld => ?_)
     clear hK K
     refine norm_ (a' := ?_) ?_ ?_
     rotate_left
     ·show Act.put _ (some 12) _ = _
      simp only [Act.put, List.setIfInBounds_toArray, List.set_cons_zero, List.set_cons_succ, i64_w, i32_w]
      rfl
     refine pu_ (i := 7) (N := some 16) (bA 9 255) ?_
     refine pu_ (i := 8) (N := some 17) (bA 9 511) ?_
     refine done_ (done_of HT_.out (by kernel_rfl)) ?_
     try go_wp2
     go_ret
     exact ⟨by first | rfl | (simp [errW_none, errW_some] <;> rfl) | (simp only [← hji6, ← hji8]; first | rfl | (simp [errW_none, errW_some] <;> rfl)) | (simp [*, errW_none, errW_some] <;> rfl), qB⟩
   ·rw [zD c7] at H
    exact absurd H (by simp)
  ·rw [zD c5] at H
   exact absurd H (by simp)
 ·rw [zD c3] at H
  obtain ⟨c3b0, c3b1⟩ := qn c3
  obtain rfl := zI H
  go_enter Tryd.func39, Tryd.ntmps39
  go_wp2_with (first | ((with_reducible refine gate_dst (N := 1) rfl ?_); refine box_event (by rfl) (N := 1) (by rfl) (cs := #[.string a0_0, .int .i64 a0_1, .int .i64 a0_2, .slice A0_3 l0_3.length c0_3]) (t := 24) ?hr ?_; (case hr => go_simp <;> rfl); intro gb358 hg w22 hbox hb; have BK358 := zA (hbox); have GW358 := qG hg; have GE358 := GW358; replace HB := qH hb; clear hb hbox hg; have z23_0 := bk4 BK358.out) | ((with_reducible refine gate_callee (f := 78) rfl ?_); refine goesL_ (some 5) rfl rfl Tryd.func78 (by kernel_rfl) rfl #[.agg #[.string a0_0, .int .i64 a0_1, .int .i64 a0_2, .slice A0_3 l0_3.length c0_3]] rfl qL ?_; (with_reducible refine (ir_Check.calls k a0_0 a0_1 a0_2 _ _ l0_3 t359 _ ?side1 ?side2 A2.out (hL := ?side99)).mono ?_); (case side1 => exact qCB HR0_3.out); (case side2 => exact HC0_3.out); (case side99 => exact LaidW.below HLd.out qB); rintro e w24 ⟨rfl, hb⟩; refine ⟨_, rfl, ?_⟩; replace BK358 := qW BK358 hb; replace HB := qH hb; (try clear hb)))
  go_ret
  exact ⟨qE, qB⟩

mutual
def span_Places.l0 : Nat → List (List Int) → Int → List Int → Int → Int → ByteArray → Int → Int → List (List (SIns)) → Option ((List (List Int)))
 | 0, _, _, _, _, _, _, _, _, _ => none
 | k + 1, x3, x4, x16, x17, x18, x369000, x369001, x369002, x369003 => if x18 < x17 then (if 0 ≤ x18 then (if x18 < (x16.length : Int) then (if 0 ≤ (rd x16 x18) then (if (rd x16 x18) < (x369003.length : Int) then (span_Places.l1 k x3 x4 (rd x16 x18) x16 x17 x18 ((rd_LIns x369003 (rd x16 x18)).length : Int) 0 x369000 x369001 x369002 x369003) else (none)) else (none)) else (none)) else (none)) else (some x3)
def span_Places.l1 : Nat → List (List Int) → Int → Int → List Int → Int → Int → Int → Int → ByteArray → Int → Int → List (List (SIns)) → Option ((List (List Int)))
 | 0, _, _, _, _, _, _, _, _, _, _, _, _ => none
 | k + 1, x3, x4, x6, x16, x17, x18, x27, x28, x369000, x369001, x369002, x369003 => if x28 < x27 then (if 0 ≤ x6 then (if x6 < (x3.length : Int) then (if (rd_LInt x3 x6).length < 17592186044416 then (span_Places.l1 k (x3.set (x6 : Int).toNat ((rd_LInt x3 x6) ++ [wrap64 (x4 + 1)])) (wrap64 (x4 + 1)) x6 x16 x17 x18 x27 (wrap64 (x28 + 1)) x369000 x369001 x369002 x369003) else (none)) else (none)) else (none)) else (span_Places.l0 k x3 x4 x16 x17 (wrap64 (x18 + 1)) x369000 x369001 x369002 x369003)
end
def span_Places.f (k : Nat) (a0_0 : ByteArray) (a0_1 : Int) (a0_2 : Int) (l0_3 : List (List (SIns))) : Option ((List (List Int))) := (live_Check.f k a0_0 a0_1 a0_2 l0_3).bind fun t369 => (if t369 = 0 then (if 0 ≤ (l0_3.length : Int) then (if ((l0_3.length : Int) : Int).toNat ≤ 11728124029610 then ((flow_Order.f k l0_3).bind fun t373 => (span_Places.l0 k (List.replicate ((l0_3.length : Int) : Int).toNat []) 0 t373 (t373.length : Int) 0 a0_0 a0_1 a0_2 l0_3)) else (none)) else (none)) else (some ([] : List (List Int))))
set_option maxHeartbeats 8000000 in
set_option maxRecDepth 100000 in
theorem span_Places.calls (k : Nat) (a0_0 : ByteArray) (a0_1 : Int) (a0_2 : Int) (A0_3 : Option Addr) (c0_3 : Nat) (l0_3 : List (List (SIns))) (r : List (List Int)) (w : World) (hL : LaidW w) (hr0_3 : Kd.C (Kd.slice 38 kIns) w A0_3 l0_3.length l0_3) (hc0_3 : l0_3.length ≤ c0_3) (h : span_Places.f k a0_0 a0_1 a0_2 l0_3 = some r) :
 Calls Tryd.prog 13 #[.agg #[.string a0_0, .int .i64 a0_1, .int .i64 a0_2, .slice A0_3 l0_3.length c0_3]] w fun e w' => ∃ v0_ : Value, e = .returned (v0_) ∧ Kd.S (Kd.slice 3 (Kd.int .i64)) 35 w' w.heap.size (fun _ => True) v0_ r ∧ Below w.heap.size w w' := by
 have hu24 := Tryd.underlying24
 have HR0_3 := zA hr0_3
 have HC0_3 := zA hc0_3
 clear hr0_3 hc0_3
 have HB := zA (Below.refl w.heap.size w)
 have HLd := zA hL
 clear hL
 have H := h; clear h; unfold span_Places.f at H
 replace H := qb H; obtain ⟨t369, A2, H⟩ := H
 by_cases c3 : t369 = 0
 ·rw [zC c3] at H
  obtain ⟨c3b0, c3b1⟩ := qe c3; clear c3
  by_cases c4 : 0 ≤ (l0_3.length : Int)
  ·rw [zC c4] at H
   have c4b0 := eq_true c4
   have c4b1 := zF c4
   clear c4
   by_cases c5 : ((l0_3.length : Int) : Int).toNat ≤ 11728124029610
   ·rw [zC c5] at H
    have c5b0 := eq_true c5
    have c5b1 := zF c5
    clear c5
    obtain ⟨y370, hy370⟩ : ∃ y_ : List (List Int), y_ = (List.replicate ((l0_3.length : Int) : Int).toNat []) := ⟨_, rfl⟩
    replace H : ((flow_Order.f k l0_3).bind fun t373 => (span_Places.l0 k y370 0 t373 (t373.length : Int) 0 a0_0 a0_1 a0_2 l0_3)) = some r := by (try rw [hy370]); first | with_reducible exact H | exact (zJ _ _).symm.trans H | exact H
    have Ny370 := zA hy370
    clear hy370
    replace H := qb H; obtain ⟨t373, A6, H⟩ := H
    have H' := zA H
    clear H
    go_enter Tryd.func13, Tryd.ntmps13
    go_wp2_with (first | ((with_reducible refine gate_dst (N := 1) rfl ?_); refine box_event (by rfl) (N := 1) (by rfl) (cs := #[.string a0_0, .int .i64 a0_1, .int .i64 a0_2, .slice A0_3 l0_3.length c0_3]) (t := 24) ?hr ?_; (case hr => go_simp <;> rfl); intro gb368 hg w7 hbox hb; have BK368 := zA (hbox); have GW368 := qG hg; have GE368 := GW368; replace HB := qH hb; clear hb hbox hg; have z8_0 := bk4 BK368.out) | ((with_reducible refine gate_callee (f := 39) rfl ?_); refine goesL_ (some 8) rfl rfl Tryd.func39 (by kernel_rfl) rfl #[.agg #[.string a0_0, .int .i64 a0_1, .int .i64 a0_2, .slice A0_3 l0_3.length c0_3]] rfl qL ?_; (with_reducible refine (live_Check.calls k a0_0 a0_1 a0_2 _ _ l0_3 t369 _ ?side1 ?side2 A2.out (hL := ?side99)).mono ?_); (case side1 => exact qCB HR0_3.out); (case side2 => exact HC0_3.out); (case side99 => exact LaidW.below HLd.out qB); rintro e w9 ⟨rfl, hb⟩; refine ⟨_, rfl, ?_⟩; replace BK368 := qW BK368 hb; replace HB := qH hb; (try clear hb); have z10_0 := bk4 BK368.out) | ((with_reducible refine gate_dst (N := 13) rfl ?_); refine Kd.S_make (Kd.slice 3 (Kd.int .i64)) _ 35 rfl (N := 13) rfl 30 _ _ rfl (l0_3.length : Int) rfl rfl Tryd.underlying30 (.slice none 0 0) 24 info35 rfl (by decide) (by omega) [] (ok := fun _ => True) (okp := fun _ => True) ⟨_, rfl, Kd.R_nil _ _ _ _ _⟩ (fun _ hk => hk) trivial (zB qA) (Nat.le_trans (Nat.mul_le_mul_right _ (zB qA : (l0_3.length : Int).toNat ≤ 11728124029610)) (by omega)) (Below.refl _ _) (Nat.le_refl _) ?_; intro v371 w11 ho12 hb hg_ hnew_; clear hg_ hnew_; (first | rw [← Ny370.out] at ho12 | (simp only [Int.reduceToNat] at ho12; rw [← Ny370.out] at ho12)); have HO372 := zA (Kd.S_lower ho12 (below_size qB)); replace BK368 := qW BK368 hb; replace HB := qH hb; clear hb ho12; have z13_0 := bk4 BK368.out) | ((with_reducible refine gate_callee (f := 40) rfl ?_); refine goesL_ (some 16) rfl rfl Tryd.func40 (by kernel_rfl) rfl #[.slice A0_3 l0_3.length c0_3] rfl qL ?_; (with_reducible refine (flow_Order.calls k _ _ l0_3 t373 _ ?side1 ?side2 A6.out).mono ?_); (case side1 => exact qCB HR0_3.out); (case side2 => exact HC0_3.out); rintro e w14 ⟨v374, rfl, ho0, hb⟩; refine ⟨_, rfl, ?_⟩; replace HO372 := zA (Kd.S_elder' (qS HO372.out) (Kd.R_base ho0) hb); have HO375 := zA (Kd.R_lower ho0 (below_size qB)); replace BK368 := qW BK368 hb; replace HB := qH hb; (try clear hb); (try clear ho0); obtain ⟨Ao15, co15, eo15⟩ := Kd.R_slice HO375.out; subst eo15))
    go_loopg [4, 18] k (fun kq v4 v18 w' => ∃ (x3_1 : List (List Int)) (x4_1 : Int) (x18_1 : Int), v4 = .int .i64 x4_1 ∧ v18 = .int .i64 x18_1 ∧ Aside0 (span_Places.l0 kq x3_1 x4_1 t373 (t373.length : Int) x18_1 a0_0 a0_1 a0_2 l0_3 = some r) ∧ Aside0 (kq ≤ k) ∧ Aside0 (Kd.S (Kd.slice 3 (Kd.int .i64)) 35 w' w.heap.size (fun k_ => some k_ ≠ ((.slice Ao15 t373.length co15) : Value).ownBlock) v371 x3_1) ∧ Aside0 (Kd.R (Kd.int .i64) 3 w' w.heap.size (fun _ => True) (.slice Ao15 t373.length co15) t373) ∧ Aside0 (w'.heap[gb368]? = some (.cells #[.string a0_0, .int .i64 a0_1, .int .i64 a0_2, (.slice A0_3 l0_3.length c0_3)] 24 (0, 0))) ∧ Aside0 (Below w.heap.size w w'))
    case atStart => exact ⟨(y370), (0), (0), qT, qT, H', ⟨Nat.le_refl _⟩, ⟨by (with_reducible repeat (first | apply Kd.S_alloc | apply Kd.S_drewN | apply Kd.S_drew)); exact Kd.S_mono HO372.out (fun _ hk => hk.2)⟩, ⟨qR HO375.out⟩, ⟨qK BK368.out⟩, ⟨qB⟩⟩
    case round =>
     clear H'
     obtain ⟨x3_1, x4_1, x18_1, rfl, rfl, HA, HK1, HO_3, HO_16, BK368, HB⟩ := hrel
     cases gk with
     | zero => exact absurd HA.out (by simp [span_Places.l0])
     | succ k1 =>
      have H := HA.out
      clear HA
      simp only [span_Places.l0] at H
      by_cases c16 : x18_1 < (t373.length : Int)
      ·rw [zC c16] at H
       have c16b0 := zF c16
       clear c16
       by_cases c17 : 0 ≤ x18_1
       ·rw [zC c17] at H
        have c17b0 := zF c17
        clear c17
        by_cases c18 : x18_1 < (t373.length : Int)
        ·rw [zC c18] at H
         have c18b0 := zF c18
         clear c18
         by_cases c19 : 0 ≤ (rd t373 x18_1)
         ·rw [zC c19] at H
          have c19b0 := zF c19
          clear c19
          by_cases c20 : (rd t373 x18_1) < (l0_3.length : Int)
          ·rw [zC c20] at H
           have c20b0 := zF c20
           clear c20
           have H' := zA H
           clear H
           have p376 : 0 ≤ (x18_1 : Int) := zB qA
           have q376 : x18_1 < (t373.length : Int) := zB qA
           obtain ⟨ad376, e376, hx376_0⟩ := Kd.at_int (Kd.R_reads' HO_16.out).2.2 x18_1 p376 q376
           cases e376
           replace p376 := eq_true p376
           replace q376 := eq_true q376
           have z21_0 := bk4 BK368.out
           have p377 : 0 ≤ ((rd t373 x18_1) : Int) := zB qA
           have q377 : (rd t373 x18_1) < (l0_3.length : Int) := zB qA
           obtain ⟨ad377, A377_0, c377_0, e377, hx377_0, hl377_0, hi377_0⟩ := at_LIns HR0_3.out (rd t373 x18_1) p377 q377
           cases e377
           replace hx377_0 := (HB.out.cell (zE w _ hx377_0)).trans hx377_0
           have HR377_0 := zA hi377_0
           have HC377_0 := zA hl377_0
           clear hi377_0 hl377_0
           replace p377 := eq_true p377
           replace q377 := eq_true q377
           go_wp2
           go_loopg [4, 28] k1 (fun kq v4 v28 w' => ∃ (x3_2 : List (List Int)) (x4_2 : Int) (x28_2 : Int), v4 = .int .i64 x4_2 ∧ v28 = .int .i64 x28_2 ∧ Aside0 (span_Places.l1 kq x3_2 x4_2 (rd t373 x18_1) t373 (t373.length : Int) x18_1 ((rd_LIns l0_3 (rd t373 x18_1)).length : Int) x28_2 a0_0 a0_1 a0_2 l0_3 = some r) ∧ Aside0 (kq ≤ k1) ∧ Aside0 (Kd.S (Kd.slice 3 (Kd.int .i64)) 35 w' w.heap.size (fun k_ => some k_ ≠ ((.slice (some ad376) t373.length co15) : Value).ownBlock) v371 x3_2) ∧ Aside0 (Kd.R (Kd.int .i64) 3 w' w.heap.size (fun _ => True) (.slice (some ad376) t373.length co15) t373) ∧ Aside0 (w'.heap[gb368]? = some (.cells #[.string a0_0, .int .i64 a0_1, .int .i64 a0_2, (.slice (some ad377) l0_3.length c0_3)] 24 (0, 0))) ∧ Aside0 (Below w.heap.size w w'))
           case atStart => exact ⟨(x3_1), (x4_1), (0), qT, qT, H', ⟨Nat.le_refl _⟩, ⟨qS HO_3.out⟩, ⟨qR HO_16.out⟩, ⟨qK BK368.out⟩, ⟨qB⟩⟩
           case round =>
            clear H'
            obtain ⟨x3_2, x4_2, x28_2, rfl, rfl, HA, HK2, HO_3, HO_16, BK368, HB⟩ := hrel
            cases gk with
            | zero => exact absurd HA.out (by simp [span_Places.l1])
            | succ k2 =>
             have H := HA.out
             clear HA
             simp only [span_Places.l1] at H
             by_cases c22 : x28_2 < ((rd_LIns l0_3 (rd t373 x18_1)).length : Int)
             ·rw [zC c22] at H
              have c22b0 := zF c22
              clear c22
              by_cases c23 : 0 ≤ (rd t373 x18_1)
              ·rw [zC c23] at H
               have c23b0 := zF c23
               clear c23
               by_cases c24 : (rd t373 x18_1) < (x3_2.length : Int)
               ·rw [zC c24] at H
                have c24b0 := zF c24
                clear c24
                by_cases c25 : (rd_LInt x3_2 (rd t373 x18_1)).length < 17592186044416
                ·rw [zC c25] at H
                 have LMc25 := zA c25
                 clear c25
                 obtain ⟨y379, hy379⟩ : ∃ y_ : List Int, y_ = ((rd_LInt x3_2 (rd t373 x18_1)) ++ [wrap64 (x4_2 + 1)]) := ⟨_, rfl⟩
                 replace H : (span_Places.l1 k2 (x3_2.set ((rd t373 x18_1) : Int).toNat y379) (wrap64 (x4_2 + 1)) (rd t373 x18_1) t373 (t373.length : Int) x18_1 ((rd_LIns l0_3 (rd t373 x18_1)).length : Int) (wrap64 (x28_2 + 1)) a0_0 a0_1 a0_2 l0_3) = some r := by (try rw [hy379]); first | with_reducible exact H | exact (zJ _ _).symm.trans H | exact H
                 have Ny379 := zA hy379
                 clear hy379
                 obtain ⟨y382, hy382⟩ : ∃ y_ : List (List Int), y_ = (x3_2.set ((rd t373 x18_1) : Int).toNat y379) := ⟨_, rfl⟩
                 replace H : (span_Places.l1 k2 y382 (wrap64 (x4_2 + 1)) (rd t373 x18_1) t373 (t373.length : Int) x18_1 ((rd_LIns l0_3 (rd t373 x18_1)).length : Int) (wrap64 (x28_2 + 1)) a0_0 a0_1 a0_2 l0_3) = some r := by (try rw [hy382]); first | with_reducible exact H | exact (zJ _ _).symm.trans H | exact H
                 have Ny382 := zA hy382
                 clear hy382
                 have H' := zA H
                 clear H
                 obtain ⟨Ao27, co27, eo27⟩ := Kd.S_slice HO_3.out
                 subst eo27
                 have p378 : 0 ≤ ((rd t373 x18_1) : Int) := zB qA
                 have q378 : (rd t373 x18_1) < (x3_2.length : Int) := zB qA
                 obtain ⟨ad378, A378_0, c378_0, e378, hx378_0, hl378_0, hi378_0⟩ := at_LInt (Kd.S_reads' HO_3.out).2.2 (rd t373 x18_1) p378 q378
                 cases e378
                 obtain ⟨ce378, hce378, hMe378, hcc378⟩ := Kd.S_get HO_3.out [] (rd t373 x18_1) p378 (by first | exact q378 | exact zB qA | (have e_ := (Kd.S_reads' HO_3.out).1; omega))
                 obtain ⟨ve378_0, rfl, ge378_0⟩ := hMe378
                 have hv378_0 := hcc378 0 _ rfl
                 rw [Nat.add_zero, show ((Kd.slice 3 (Kd.int .i64))).sz = 1 from rfl, Nat.mul_one] at hv378_0
                 replace hv378_0 := zI (hv378_0.symm.trans hx378_0)
                 rw [hv378_0] at ge378_0
                 have HL378_0 := zA (show Kd.R (Kd.int .i64) 3 _ _ _ _ (rd_LInt x3_2 (rd t373 x18_1)) from ge378_0)
                 clear hv378_0 ge378_0
                 have HX378_0 := zA hx378_0
                 clear hcc378 hce378
                 have HR378_0 := zA hi378_0
                 have HC378_0 := zA hl378_0
                 clear hi378_0 hl378_0
                 replace p378 := eq_true p378
                 replace q378 := eq_true q378
                 obtain ⟨go28, co28, eo28, gb28, gl28, cl28, HG28⟩ := Kd.S_form HO_3.out (by have h_ : ((rd t373 x18_1) : Int) < ((x3_2.length : Int) : Int) := zB qA; have h2_ : 0 ≤ ((rd t373 x18_1) : Int) := (zB qA); omega)
                 (first | cases eo28 | (injection eo28 with ea_ en_ ec_; (first | subst ea_ | (injection ea_ with ea_; subst ea_)); subst ec_; clear en_))
                 have GB28 := zA gb28
                 have GG28 := zA HG28
                 clear gb28 gl28 HG28
                 (first | simp only [add_plain] at hx378_0 | skip)
                 obtain ⟨oki28, ce28, hcl28, hM28, hcc28, _, _, hH28⟩ := Kd.S_elem HO_3.out [] ((rd t373 x18_1) : Int) (zB qA) (by have h_ : ((rd t373 x18_1) : Int) < ((x3_2.length : Int) : Int) := zB qA; first | exact h_ | (have e_ := (Kd.S_reads' HO_3.out).1; omega) | simpa using h_)
                 obtain ⟨ve28_0, rfl, ge28_0⟩ := hM28
                 have hv28 := hcc28 0 _ rfl
                 have hX28 := HX378_0.out
                 (try simp only [add_plain] at hX28)
                 (try simp only [Nat.add_zero] at hv28)
                 (try rw [show ((Kd.slice 3 (Kd.int .i64))).sz = 1 from rfl, Nat.mul_one] at hv28)
                 replace hv28 := zI (hv28.symm.trans hX28)
                 subst hv28
                 clear hX28 hcc28 hcl28
                 have UU28 := zA (show Kd.R (Kd.int .i64) 3 _ w.heap.size oki28 (.slice A378_0 (rd_LInt x3_2 (rd t373 x18_1)).length c378_0) (rd_LInt x3_2 (rd t373 x18_1)) from ge28_0)
                 have HH28 := zA hH28
                 have HN28 := zA (Kd.S_reads' HO_3.out).1
                 clear hH28 ge28_0
                 go_wp2_with (first | ((with_reducible refine gate_builtin (b := .append) (xs := #[.tmp 37, .tmp 39]) rfl ?_); at_builtin; refine Kd.R_append (Kd.int .i64) (w0 := w) w.heap.size rfl (.tmp 37) (.tmp 39) 35 3 (.int .i64 0) 8 rfl Tryd.underlying35 info3 rfl (by decide) (by omega) (.slice A378_0 (rd_LInt x3_2 (rd t373 x18_1)).length c378_0) (rd_LInt x3_2 (rd t373 x18_1)) (wrap64 (x4_2 + 1)) [.int .i64 (wrap64 (x4_2 + 1))] (fun k_ => oki28 k_ ∨ ((fun k_ => some k_ ≠ (.slice (some ad376) t373.length co15 : Value).ownBlock)) k_ ∧ wr.heap.size ≤ k_) (fun _ => False) rfl rfl ?aP (fun _ hk => hk.elim) ?aF ?aO ?aB ?aS ?aL ?_; (case aP => exact rfl); (case aB => exact qB); (case aF => exact (fun k_ hk => .inr ⟨Kd.fresh' (Kd.R_lt (qR HO_16.out)) k_ hk, hk⟩)); (case aO => exact (by (with_reducible repeat (first | apply Kd.R_alloc | apply Kd.R_drewN | apply Kd.R_drew)); exact Kd.R_mono UU28.out (fun _ hk => .inl hk))); (case aS => exact (below_size qB)); (case aL => have := LMc25.out; omega); intro v380 w29 ho hb hg hat; rw [← Ny379.out] at ho; replace HO_16 := zA (Kd.R_grown2 (qR HO_16.out) rfl hg (fun k_ e_ => (HL378_0.out.1 k_ e_).1)); replace BK368 := zA (blk_grown (qK BK368.out) hg (Kd.R_ne HL378_0.out BK368.out (by decide))); replace HB := zA (hb); replace HH28 := zA (Kd.H_grown (Kd.H_widen (by repeat (first | exact HH28.out | refine Kd.H_alloc ?_ _ | refine Kd.H_drewN ?_ _ | refine Kd.H_drew ?_))) hg (fun k_ e_ => .inl (UU28.out.1 k_ e_))); have HO381 := zA (ho); clear HO_3 UU28 HL378_0; clear ho hb hg hat; have p26 : 0 ≤ ((rd t373 x18_1) : Int) := zB qA; have q26 : ((rd t373 x18_1) : Int) < ((x3_2.length : Int) : Int) := zB qA; replace p26 := eq_true p26; replace q26 := eq_true q26; obtain ⟨Ao32, co32, eo32⟩ := Kd.R_slice HO381.out; subst eo32; obtain ⟨_, _, hraw30, _, _, hcc30, _⟩ := Kd.H_raw HH28.out (zB qA) (by have h_ : ((rd t373 x18_1) : Int) < ((x3_2.length : Int) : Int) := zB qA; first | exact h_ | (have e_ := (HN28.out); omega) | simpa using h_); obtain ⟨_, hfr30⟩ := Kd.H_at HH28.out (zB qA) (by have h_ : ((rd t373 x18_1) : Int) < ((x3_2.length : Int) : Int) := zB qA; first | exact h_ | (have e_ := (HN28.out); omega) | simpa using h_); have hx30_0 := hcc30 0 _ rfl; have hf30_0 := hfr30 0; (try simp only [Nat.add_zero] at hx30_0 hf30_0); (try rw [show ((Kd.slice 3 (Kd.int .i64))).sz = 1 from rfl, Nat.mul_one] at hx30_0); (try rw [show ((Kd.slice 3 (Kd.int .i64))).sz = 1 from rfl, Nat.mul_one] at hf30_0); have HP30 := Kd.S_seg0 HH28.out (zB qA) (by have h_ : ((rd t373 x18_1) : Int) < ((x3_2.length : Int) : Int) := zB qA; first | exact h_ | (have e_ := (HN28.out); omega) | simpa using h_) (seg := [.slice Ao32 y379.length co32]) (j := 0) (show 1 ≤ 1 from by decide) (x' := y379) (Kd.M_row HO381.out) (fun _ hk => hk); (try simp only [show ((Kd.slice 3 (Kd.int .i64))).sz = 1 from rfl, Nat.mul_one, Nat.add_zero] at HP30); clear hcc30 hfr30) | ((with_reducible refine gate_store (t := 35) (p := 41) rfl ?_); refine store_event (t := 35) (p := 41) (v := ?vo_w31) (w1 := (w29.setCell ⟨go28, ((rd t373 x18_1) : Int).toNat, none⟩ (.slice Ao32 y379.length co32))) (by rfl) (by rfl) (by rfl) ?hr ?_; (case hr => go_simp <;> rfl); intro w31 hw; have hg : w29.grownBy w31 (some go28) := (by rw [hw]; exact HP30.2); have hp_ : Kd.S (Kd.slice 3 (Kd.int .i64)) 35 w31 w.heap.size (fun k_ => some k_ ≠ (.slice (some ad376) t373.length co15 : Value).ownBlock) (.slice (some ⟨go28, 0, none⟩) x3_2.length co27) y382 := (by rw [hw, Ny382.out]; exact HP30.1); clear HP30; replace HO_16 := zA (Kd.R_over' (v := (.slice (some ⟨go28, 0, none⟩) x3_2.length co27)) (qR HO_16.out) (Kd.R_typed hraw30) (by decide) hg); replace BK368 := zA (blk_grown (qK BK368.out) hg (Kd.R_ne hraw30 BK368.out (by decide))); replace HB := zA ((by rw [hw]; exact below_set HB.out GB28.out : Below w.heap.size w w31)); have HO_3 := zA (hp_); clear HO381 HH28; clear hg hw hp_ hraw30))
                 go_roundg k2
                 case measure => have := HK1.out; have := HK2.out; omega
                 case rel => exact ⟨(y382), (wrap64 (x4_2 + 1)), (wrap64 (x28_2 + 1)), qT, qT, H', ⟨by have := HK1.out; have := HK2.out; omega⟩, ⟨qS HO_3.out⟩, ⟨qR HO_16.out⟩, ⟨qK BK368.out⟩, ⟨qB⟩⟩
                ·rw [zD c25] at H
                 exact absurd H (by simp)
               ·rw [zD c24] at H
                exact absurd H (by simp)
              ·rw [zD c23] at H
               exact absurd H (by simp)
             ·rw [zD c22] at H
              have c22b0 := zG c22
              clear c22
              have H' := zA H
              clear H
              go_wp2
              go_roundg k2
              case measure => have := HK1.out; have := HK2.out; omega
              case rel => exact ⟨(x3_2), (x4_2), (wrap64 (x18_1 + 1)), qT, qT, H', ⟨by have := HK1.out; have := HK2.out; omega⟩, ⟨qS HO_3.out⟩, ⟨qR HO_16.out⟩, ⟨qK BK368.out⟩, ⟨qB⟩⟩
          ·rw [zD c20] at H
           exact absurd H (by simp)
         ·rw [zD c19] at H
          exact absurd H (by simp)
        ·rw [zD c18] at H
         exact absurd H (by simp)
       ·rw [zD c17] at H
        exact absurd H (by simp)
      ·rw [zD c16] at H
       have c16b0 := zG c16
       clear c16
       obtain rfl := zI H
       go_wp2
       go_ret
       exact ⟨_, qE, by (with_reducible repeat (first | apply Kd.S_alloc | apply Kd.S_drewN | apply Kd.S_drew)); exact Kd.S_mono HO_3.out (fun _ hk => trivial), qB⟩
   ·rw [zD c5] at H
    exact absurd H (by simp)
  ·rw [zD c4] at H
   exact absurd H (by simp)
 ·rw [zD c3] at H
  obtain ⟨c3b0, c3b1⟩ := qn c3
  obtain rfl := zI H
  go_enter Tryd.func13, Tryd.ntmps13
  go_wp2_with (first | ((with_reducible refine gate_dst (N := 1) rfl ?_); refine box_event (by rfl) (N := 1) (by rfl) (cs := #[.string a0_0, .int .i64 a0_1, .int .i64 a0_2, .slice A0_3 l0_3.length c0_3]) (t := 24) ?hr ?_; (case hr => go_simp <;> rfl); intro gb368 hg w33 hbox hb; have BK368 := zA (hbox); have GW368 := qG hg; have GE368 := GW368; replace HB := qH hb; clear hb hbox hg; have z34_0 := bk4 BK368.out) | ((with_reducible refine gate_callee (f := 39) rfl ?_); refine goesL_ (some 8) rfl rfl Tryd.func39 (by kernel_rfl) rfl #[.agg #[.string a0_0, .int .i64 a0_1, .int .i64 a0_2, .slice A0_3 l0_3.length c0_3]] rfl qL ?_; (with_reducible refine (live_Check.calls k a0_0 a0_1 a0_2 _ _ l0_3 t369 _ ?side1 ?side2 A2.out (hL := ?side99)).mono ?_); (case side1 => exact qCB HR0_3.out); (case side2 => exact HC0_3.out); (case side99 => exact LaidW.below HLd.out qB); rintro e w35 ⟨rfl, hb⟩; refine ⟨_, rfl, ?_⟩; replace BK368 := qW BK368 hb; replace HB := qH hb; (try clear hb)))
  go_ret
  exact ⟨_, qE, by first | exact Kd.S_nil _ _ _ _ _ | exact Kd.N_nil _ _ _ _ _ | exact Kd.V_nil _ _ _ _ _ | exact Kd.Q_nil _ _ _ _ _ | exact Kd.R_nil _ _ _ _ _, qB⟩
end Go.Proofs.YtpkimbkjjmbmcaaDoor.Q
