/- SpanNumbers: parts of the proofs, put together. -/
import Derived.OpenShut
import Derived.Laws.BitsAllLaws
import Derived.Lib.TrailingZeros
import Derived.Test.YtebnnknijbgekaaDoorMSpanNumbers1
import Derived.Test.YtebnnknijbgekaaDoorMSpanNumbers2
import Derived.Test.YtebnnknijbgekaaDoorMSpanNumbers3
import Derived.Test.YtebnnknijbgekaaDoorMSpanNumbers4
namespace Go.Proofs.YtebnnknijbgekaaDoor.Q
open Go.RowKit Go.Proofs.YtebnnknijbgekaaDoorW.PrintWords Go.Proofs.YtebnnknijbgekaaDoorW.PrintLast Go.Proofs.YtebnnknijbgekaaDoorW.PrintMore
attribute [local go_sem] max2_int min2_int max_two min_two max_three min_three max_four min_four   -- for this text's walks alone
set_option linter.unusedVariables false
set_option linter.unusedSimpArgs false

/-! ### cubbylaw12_SpanNumbers: function 10 -/
mutual
def cubbylaw12_SpanNumbers.j0 : Nat → List (List Int) → Bool → ByteArray → Int → Int → List (List (SIns)) → Option (Bool)
 | 0, _, _, _, _, _, _ => none
 | k + 1, x3, x37, x510000, x510001, x510002, x510003 => if x37 = true then (some false) else (if 70 ≤ 281474976710656 then (cubbylaw12_SpanNumbers.l0 k x3 (List.replicate 70 false) 0 0 x510000 x510001 x510002 x510003) else (none))
def cubbylaw12_SpanNumbers.l0 : Nat → List (List Int) → List Bool → Int → Int → ByteArray → Int → Int → List (List (SIns)) → Option (Bool)
 | 0, _, _, _, _, _, _, _, _ => none
 | k + 1, x3, x4, x5, x6, x510000, x510001, x510002, x510003 => if x6 < (x3.length : Int) then (if 0 ≤ x6 then (if ((rd_LInt x3 x6).length : Int) = 0 then (cubbylaw12_SpanNumbers.j2 k x3 x4 x5 x6 false x510000 x510001 x510002 x510003) else (if x6 < (x510003.length : Int) then (cubbylaw12_SpanNumbers.j2 k x3 x4 x5 x6 (((rd_LInt x3 x6).length : Int) != ((rd_LIns x510003 x6).length : Int)) x510000 x510001 x510002 x510003) else (none))) else (none)) else (cubbylaw12_SpanNumbers.l2 k x4 x5 1)
def cubbylaw12_SpanNumbers.j2 : Nat → List (List Int) → List Bool → Int → Int → Bool → ByteArray → Int → Int → List (List (SIns)) → Option (Bool)
 | 0, _, _, _, _, _, _, _, _, _ => none
 | k + 1, x3, x4, x5, x6, x64, x510000, x510001, x510002, x510003 => if x64 = true then (some false) else (cubbylaw12_SpanNumbers.l1 k x3 x4 x5 x6 0 x510000 x510001 x510002 x510003)
def cubbylaw12_SpanNumbers.l1 : Nat → List (List Int) → List Bool → Int → Int → Int → ByteArray → Int → Int → List (List (SIns)) → Option (Bool)
 | 0, _, _, _, _, _, _, _, _, _ => none
 | k + 1, x3, x4, x5, x6, x7, x510000, x510001, x510002, x510003 => if 0 ≤ x6 then (if x6 < (x3.length : Int) then (if x7 < ((rd_LInt x3 x6).length : Int) then (if 0 ≤ x7 then (if (rd (rd_LInt x3 x6) x7) < 1 then (some false) else (if (rd (rd_LInt x3 x6) x7) ≥ 70 then (some false) else (if 0 ≤ (rd (rd_LInt x3 x6) x7) then (if (rd (rd_LInt x3 x6) x7) < (x4.length : Int) then (if rdOf false x4 (rd (rd_LInt x3 x6) x7) = true then (some false) else (if x7 > 0 then (if 0 ≤ (wrap64 (x7 - 1)) then (if (wrap64 (x7 - 1)) < ((rd_LInt x3 x6).length : Int) then (if (rd (rd_LInt x3 x6) x7) = (wrap64 ((rd (rd_LInt x3 x6) (wrap64 (x7 - 1))) + 1)) then (cubbylaw12_SpanNumbers.l1 k x3 (x4.set ((rd (rd_LInt x3 x6) x7) : Int).toNat true) (wrap64 (x5 + 1)) x6 (wrap64 (x7 + 1)) x510000 x510001 x510002 x510003) else (some false)) else (none)) else (none)) else (cubbylaw12_SpanNumbers.l1 k x3 (x4.set ((rd (rd_LInt x3 x6) x7) : Int).toNat true) (wrap64 (x5 + 1)) x6 (wrap64 (x7 + 1)) x510000 x510001 x510002 x510003))) else (none)) else (none)))) else (none)) else (cubbylaw12_SpanNumbers.l0 k x3 x4 x5 (wrap64 (x6 + 1)) x510000 x510001 x510002 x510003)) else (none)) else (none)
def cubbylaw12_SpanNumbers.l2 : Nat → List Bool → Int → Int → Option (Bool)
 | 0, _, _, _ => none
 | k + 1, x4, x5, x9 => if x9 ≤ x5 then (if 0 ≤ x9 then (if x9 < (x4.length : Int) then (if rdOf false x4 x9 = true then (cubbylaw12_SpanNumbers.l2 k x4 x5 (wrap64 (x9 + 1))) else (some false)) else (none)) else (none)) else (some true)
end
def cubbylaw12_SpanNumbers.f (k : Nat) (a0_0 : ByteArray) (a0_1 : Int) (a0_2 : Int) (l0_3 : List (List (SIns))) : Option (Bool) := (cubbylaw12_heavy.f k a0_0 a0_1 a0_2 l0_3).bind fun t510 => (if t510 = true then ((span_Meet.f 1 3 3 3).bind fun t511 => (some t511)) else ((span_Places.f k a0_0 a0_1 a0_2 l0_3).bind fun t512 => (if (t512.length : Int) = (l0_3.length : Int) then (if 0 < (t512.length : Int) then (if ((rd_LInt t512 0).length : Int) = 0 then (cubbylaw12_SpanNumbers.j0 k t512 true a0_0 a0_1 a0_2 l0_3) else (if 0 < ((rd_LInt t512 0).length : Int) then (cubbylaw12_SpanNumbers.j0 k t512 ((rd (rd_LInt t512 0) 0) != 1) a0_0 a0_1 a0_2 l0_3) else (none))) else (none)) else (cubbylaw12_SpanNumbers.j0 k t512 true a0_0 a0_1 a0_2 l0_3))))
theorem cubbylaw12_SpanNumbers.mono_l : ∀ k, (∀ y0 y1 y2 y3 y4 y5, LeO (cubbylaw12_SpanNumbers.j0 k y0 y1 y2 y3 y4 y5) (cubbylaw12_SpanNumbers.j0 (k + 1) y0 y1 y2 y3 y4 y5)) ∧ (∀ y0 y1 y2 y3 y4 y5 y6 y7, LeO (cubbylaw12_SpanNumbers.l0 k y0 y1 y2 y3 y4 y5 y6 y7) (cubbylaw12_SpanNumbers.l0 (k + 1) y0 y1 y2 y3 y4 y5 y6 y7)) ∧ (∀ y0 y1 y2 y3 y4 y5 y6 y7 y8, LeO (cubbylaw12_SpanNumbers.j2 k y0 y1 y2 y3 y4 y5 y6 y7 y8) (cubbylaw12_SpanNumbers.j2 (k + 1) y0 y1 y2 y3 y4 y5 y6 y7 y8)) ∧ (∀ y0 y1 y2 y3 y4 y5 y6 y7 y8, LeO (cubbylaw12_SpanNumbers.l1 k y0 y1 y2 y3 y4 y5 y6 y7 y8) (cubbylaw12_SpanNumbers.l1 (k + 1) y0 y1 y2 y3 y4 y5 y6 y7 y8)) ∧ (∀ y0 y1 y2, LeO (cubbylaw12_SpanNumbers.l2 k y0 y1 y2) (cubbylaw12_SpanNumbers.l2 (k + 1) y0 y1 y2))
 | 0 => ⟨fun _ _ _ _ _ _ r h => by simp [cubbylaw12_SpanNumbers.j0] at h, fun _ _ _ _ _ _ _ _ r h => by simp [cubbylaw12_SpanNumbers.l0] at h, fun _ _ _ _ _ _ _ _ _ r h => by simp [cubbylaw12_SpanNumbers.j2] at h, fun _ _ _ _ _ _ _ _ _ r h => by simp [cubbylaw12_SpanNumbers.l1] at h, fun _ _ _ r h => by simp [cubbylaw12_SpanNumbers.l2] at h⟩
 | k + 1 => by
  obtain ⟨ih0, ih1, ih2, ih3, ih4⟩ := cubbylaw12_SpanNumbers.mono_l k
  refine ⟨?_, ?_, ?_, ?_, ?_⟩ <;> intros <;> (first | unfold cubbylaw12_SpanNumbers.j0 | unfold cubbylaw12_SpanNumbers.l0 | unfold cubbylaw12_SpanNumbers.j2 | unfold cubbylaw12_SpanNumbers.l1 | unfold cubbylaw12_SpanNumbers.l2) <;> repeat' first | (with_reducible exact ih0 _ _ _ _ _ _) | (with_reducible exact ih1 _ _ _ _ _ _ _ _) | (with_reducible exact ih2 _ _ _ _ _ _ _ _ _) | (with_reducible exact ih3 _ _ _ _ _ _ _ _ _) | (with_reducible exact ih4 _ _ _) | (with_reducible exact cubbylaw12_heavy.mono _ _ _ _ _) | (with_reducible exact span_Places.mono _ _ _ _ _) | (with_reducible exact LeO.refl _) | (with_reducible exact LeO.none _) | (with_reducible refine LeO.ite ?_ ?_) | (with_reducible refine LeO.bind ?_ (fun _ => ?_)) | exact LeO.none _ | refine LeO.ite ?_ ?_ | refine LeO.bind ?_ (fun _ => ?_)
theorem cubbylaw12_SpanNumbers.mono : ∀ a0 a1 a2 a3 k, LeO (cubbylaw12_SpanNumbers.f k a0 a1 a2 a3) (cubbylaw12_SpanNumbers.f (k + 1) a0 a1 a2 a3) := by
 intro a0 a1 a2 a3 k
 obtain ⟨ih0, ih1, ih2, ih3, ih4⟩ := cubbylaw12_SpanNumbers.mono_l k
 unfold cubbylaw12_SpanNumbers.f
 repeat' first | (with_reducible exact ih0 _ _ _ _ _ _) | (with_reducible exact ih1 _ _ _ _ _ _ _ _) | (with_reducible exact ih2 _ _ _ _ _ _ _ _ _) | (with_reducible exact ih3 _ _ _ _ _ _ _ _ _) | (with_reducible exact ih4 _ _ _) | (with_reducible exact cubbylaw12_heavy.mono _ _ _ _ _) | (with_reducible exact span_Places.mono _ _ _ _ _) | (with_reducible exact LeO.refl _) | (with_reducible exact LeO.none _) | (with_reducible refine LeO.ite ?_ ?_) | (with_reducible refine LeO.bind ?_ (fun _ => ?_)) | exact LeO.none _ | refine LeO.ite ?_ ?_ | refine LeO.bind ?_ (fun _ => ?_)
set_option maxHeartbeats 8000000 in
set_option maxRecDepth 100000 in
theorem cubbylaw12_SpanNumbers.calls (k : Nat) (a0_0 : ByteArray) (a0_1 : Int) (a0_2 : Int) (A0_3 : Option Addr) (c0_3 : Nat) (l0_3 : List (List (SIns))) (r : Bool) (w : World) (hL : LaidW w) (hr : r = true) (hr0_3 : Kd.C (Kd.slice 31 kIns) w A0_3 l0_3.length l0_3) (hc0_3 : l0_3.length ≤ c0_3) (h : cubbylaw12_SpanNumbers.f k a0_0 a0_1 a0_2 l0_3 = some r) :
  Calls Tryd.prog 10 #[.agg #[.string a0_0, .int .i64 a0_1, .int .i64 a0_2, .slice A0_3 l0_3.length c0_3]] w fun e w' => e = .returned (.bool r) ∧ Below w.heap.size w w' := by
 have hu34 := Tryd.underlying34
 have hu49 := Tryd.underlying49
 have HR0_3 := Aside0.mk hr0_3
 have HC0_3 := Aside0.mk hc0_3
 clear hr0_3 hc0_3
 have HB := Aside0.mk (Below.refl w.heap.size w)
 have HLd := Aside0.mk hL
 clear hL
 have HRt := Aside0.mk hr
 clear hr
 have H := h; clear h; unfold cubbylaw12_SpanNumbers.f at H
 replace H := qb H; obtain ⟨t510, A2, H⟩ := H
 by_cases c3 : t510 = true
 ·subst c3
  have H1 : ((span_Meet.f 1 3 3 3).bind fun t511 => (some t511)) = some r := by rw [if_pos rfl] at H; exact H
  clear H
  have H := H1
  clear H1
  replace H := qb H; obtain ⟨t511, A4, H⟩ := H
  obtain rfl := Option.some.inj H
  go_enter Tryd.func10, Tryd.ntmps10
  go_wp2_with (first | ((with_reducible refine gate_dst (N := 1) rfl ?_); (try (refine gate_guard (by rfl) ?_; dsimp only)); refine box_event (by rfl) (N := 1) (by rfl) (cs := #[.string a0_0, .int .i64 a0_1, .int .i64 a0_2, .slice A0_3 l0_3.length c0_3]) (t := 34) ?hr ?_; (case hr => first | (go_simp; done) | (go_simp; rfl)); intro gb509 hg w5 hbox hb; have BK509 := Aside0.mk (hbox); have GW509 := qG hg; have GE509 := GW509; replace HB := qH hb; clear hb hbox hg; obtain ⟨hcz6_0, hcz6_1, hcz6_2, hcz6_3, hfz6_0, hfz6_1, hfz6_2, hfz6_3⟩ := bk4 BK509.out) | (go_at_call 30; (with_reducible refine (cubbylaw12_heavy.calls k a0_0 a0_1 a0_2 _ _ l0_3 true _ ?side1 ?side2 A2.out).mono ?_); (case side1 => exact qCB HR0_3.out); (case side2 => exact HC0_3.out); rintro e w7 ⟨rfl, hb⟩; replace BK509 := qW BK509 hb; replace HB := qH hb; (try clear hb)) | (go_at_call 31; (with_reducible refine (span_Meet.calls 1 3 3 3 t511 _ A4.out).mono ?_); rintro e w8 ⟨rfl, hb⟩; replace BK509 := qW BK509 hb; replace HB := qH hb; (try clear hb)))
  repeat (go_quiet (first | ((with_reducible refine gate_dst (N := 1) rfl ?_); (try (refine gate_guard (by rfl) ?_; dsimp only)); refine box_event (by rfl) (N := 1) (by rfl) (cs := #[.string a0_0, .int .i64 a0_1, .int .i64 a0_2, .slice A0_3 l0_3.length c0_3]) (t := 34) ?hr ?_; (case hr => first | (go_simp; done) | (go_simp; rfl)); intro gb509 hg w5 hbox hb; have BK509 := Aside0.mk (hbox); have GW509 := qG hg; have GE509 := GW509; replace HB := qH hb; clear hb hbox hg; obtain ⟨hcz6_0, hcz6_1, hcz6_2, hcz6_3, hfz6_0, hfz6_1, hfz6_2, hfz6_3⟩ := bk4 BK509.out) | (go_at_call 30; (with_reducible refine (cubbylaw12_heavy.calls k a0_0 a0_1 a0_2 _ _ l0_3 true _ ?side1 ?side2 A2.out).mono ?_); (case side1 => exact qCB HR0_3.out); (case side2 => exact HC0_3.out); rintro e w7 ⟨rfl, hb⟩; replace BK509 := qW BK509 hb; replace HB := qH hb; (try clear hb)) | (go_at_call 31; (with_reducible refine (span_Meet.calls 1 3 3 3 t511 _ A4.out).mono ?_); rintro e w8 ⟨rfl, hb⟩; replace BK509 := qW BK509 hb; replace HB := qH hb; (try clear hb))); try go_wp2_with (first | ((with_reducible refine gate_dst (N := 1) rfl ?_); (try (refine gate_guard (by rfl) ?_; dsimp only)); refine box_event (by rfl) (N := 1) (by rfl) (cs := #[.string a0_0, .int .i64 a0_1, .int .i64 a0_2, .slice A0_3 l0_3.length c0_3]) (t := 34) ?hr ?_; (case hr => first | (go_simp; done) | (go_simp; rfl)); intro gb509 hg w5 hbox hb; have BK509 := Aside0.mk (hbox); have GW509 := qG hg; have GE509 := GW509; replace HB := qH hb; clear hb hbox hg; obtain ⟨hcz6_0, hcz6_1, hcz6_2, hcz6_3, hfz6_0, hfz6_1, hfz6_2, hfz6_3⟩ := bk4 BK509.out) | (go_at_call 30; (with_reducible refine (cubbylaw12_heavy.calls k a0_0 a0_1 a0_2 _ _ l0_3 true _ ?side1 ?side2 A2.out).mono ?_); (case side1 => exact qCB HR0_3.out); (case side2 => exact HC0_3.out); rintro e w7 ⟨rfl, hb⟩; replace BK509 := qW BK509 hb; replace HB := qH hb; (try clear hb)) | (go_at_call 31; (with_reducible refine (span_Meet.calls 1 3 3 3 t511 _ A4.out).mono ?_); rintro e w8 ⟨rfl, hb⟩; replace BK509 := qW BK509 hb; replace HB := qH hb; (try clear hb))))
  go_ret
  exact ⟨qE, qB⟩
 ·replace c3 := Bool.eq_false_iff.mpr c3
  subst c3
  have H1 : ((span_Places.f k a0_0 a0_1 a0_2 l0_3).bind fun t512 => (if (t512.length : Int) = (l0_3.length : Int) then (if 0 < (t512.length : Int) then (if ((rd_LInt t512 0).length : Int) = 0 then (cubbylaw12_SpanNumbers.j0 k t512 true a0_0 a0_1 a0_2 l0_3) else (if 0 < ((rd_LInt t512 0).length : Int) then (cubbylaw12_SpanNumbers.j0 k t512 ((rd (rd_LInt t512 0) 0) != 1) a0_0 a0_1 a0_2 l0_3) else (none))) else (none)) else (cubbylaw12_SpanNumbers.j0 k t512 true a0_0 a0_1 a0_2 l0_3))) = some r := by rw [if_neg (show ¬ (false = true) by decide)] at H; exact H
  clear H
  have H := H1
  clear H1
  replace H := qb H; obtain ⟨t512, A9, H⟩ := H
  have HC10 := Aside0.mk H
  clear H
  go_enter Tryd.func10, Tryd.ntmps10
  go_upto_region 4 with (first | ((with_reducible refine gate_dst (N := 1) rfl ?_); (try (refine gate_guard (by rfl) ?_; dsimp only)); refine box_event (by rfl) (N := 1) (by rfl) (cs := #[.string a0_0, .int .i64 a0_1, .int .i64 a0_2, .slice A0_3 l0_3.length c0_3]) (t := 34) ?hr ?_; (case hr => first | (go_simp; done) | (go_simp; rfl)); intro gb509 hg w11 hbox hb; have BK509 := Aside0.mk (hbox); have GW509 := qG hg; have GE509 := GW509; replace HB := qH hb; clear hb hbox hg; obtain ⟨hcz12_0, hcz12_1, hcz12_2, hcz12_3, hfz12_0, hfz12_1, hfz12_2, hfz12_3⟩ := bk4 BK509.out) | (go_at_call 30; (with_reducible refine (cubbylaw12_heavy.calls k a0_0 a0_1 a0_2 _ _ l0_3 false _ ?side1 ?side2 A2.out).mono ?_); (case side1 => exact qCB HR0_3.out); (case side2 => exact HC0_3.out); rintro e w13 ⟨rfl, hb⟩; replace BK509 := qW BK509 hb; replace HB := qH hb; (try clear hb); obtain ⟨hcz14_0, hcz14_1, hcz14_2, hcz14_3, hfz14_0, hfz14_1, hfz14_2, hfz14_3⟩ := bk4 BK509.out) | (go_at_call 32; (with_reducible refine (span_Places.calls k a0_0 a0_1 a0_2 _ _ l0_3 t512 _ ?side1 ?side2 A9.out (hL := ?side99)).mono ?_); (case side1 => exact qCB HR0_3.out); (case side2 => exact HC0_3.out); (case side99 => exact LaidW.below HLd.out qB); rintro e w15 ⟨v513, rfl, ho0, hb⟩; have HO514 := Aside0.mk (Kd.S_lower ho0 (below_size qB)); replace BK509 := qW BK509 hb; replace HB := qH hb; (try clear hb); (try clear ho0)))
  repeat (go_quiet (first | ((with_reducible refine gate_dst (N := 1) rfl ?_); (try (refine gate_guard (by rfl) ?_; dsimp only)); refine box_event (by rfl) (N := 1) (by rfl) (cs := #[.string a0_0, .int .i64 a0_1, .int .i64 a0_2, .slice A0_3 l0_3.length c0_3]) (t := 34) ?hr ?_; (case hr => first | (go_simp; done) | (go_simp; rfl)); intro gb509 hg w11 hbox hb; have BK509 := Aside0.mk (hbox); have GW509 := qG hg; have GE509 := GW509; replace HB := qH hb; clear hb hbox hg; obtain ⟨hcz12_0, hcz12_1, hcz12_2, hcz12_3, hfz12_0, hfz12_1, hfz12_2, hfz12_3⟩ := bk4 BK509.out) | (go_at_call 30; (with_reducible refine (cubbylaw12_heavy.calls k a0_0 a0_1 a0_2 _ _ l0_3 false _ ?side1 ?side2 A2.out).mono ?_); (case side1 => exact qCB HR0_3.out); (case side2 => exact HC0_3.out); rintro e w13 ⟨rfl, hb⟩; replace BK509 := qW BK509 hb; replace HB := qH hb; (try clear hb); obtain ⟨hcz14_0, hcz14_1, hcz14_2, hcz14_3, hfz14_0, hfz14_1, hfz14_2, hfz14_3⟩ := bk4 BK509.out) | (go_at_call 32; (with_reducible refine (span_Places.calls k a0_0 a0_1 a0_2 _ _ l0_3 t512 _ ?side1 ?side2 A9.out (hL := ?side99)).mono ?_); (case side1 => exact qCB HR0_3.out); (case side2 => exact HC0_3.out); (case side99 => exact LaidW.below HLd.out qB); rintro e w15 ⟨v513, rfl, ho0, hb⟩; have HO514 := Aside0.mk (Kd.S_lower ho0 (below_size qB)); replace BK509 := qW BK509 hb; replace HB := qH hb; (try clear hb); (try clear ho0))); go_upto_region 4 with (first | ((with_reducible refine gate_dst (N := 1) rfl ?_); (try (refine gate_guard (by rfl) ?_; dsimp only)); refine box_event (by rfl) (N := 1) (by rfl) (cs := #[.string a0_0, .int .i64 a0_1, .int .i64 a0_2, .slice A0_3 l0_3.length c0_3]) (t := 34) ?hr ?_; (case hr => first | (go_simp; done) | (go_simp; rfl)); intro gb509 hg w11 hbox hb; have BK509 := Aside0.mk (hbox); have GW509 := qG hg; have GE509 := GW509; replace HB := qH hb; clear hb hbox hg; obtain ⟨hcz12_0, hcz12_1, hcz12_2, hcz12_3, hfz12_0, hfz12_1, hfz12_2, hfz12_3⟩ := bk4 BK509.out) | (go_at_call 30; (with_reducible refine (cubbylaw12_heavy.calls k a0_0 a0_1 a0_2 _ _ l0_3 false _ ?side1 ?side2 A2.out).mono ?_); (case side1 => exact qCB HR0_3.out); (case side2 => exact HC0_3.out); rintro e w13 ⟨rfl, hb⟩; replace BK509 := qW BK509 hb; replace HB := qH hb; (try clear hb); obtain ⟨hcz14_0, hcz14_1, hcz14_2, hcz14_3, hfz14_0, hfz14_1, hfz14_2, hfz14_3⟩ := bk4 BK509.out) | (go_at_call 32; (with_reducible refine (span_Places.calls k a0_0 a0_1 a0_2 _ _ l0_3 t512 _ ?side1 ?side2 A9.out (hL := ?side99)).mono ?_); (case side1 => exact qCB HR0_3.out); (case side2 => exact HC0_3.out); (case side99 => exact LaidW.below HLd.out qB); rintro e w15 ⟨v513, rfl, ho0, hb⟩; have HO514 := Aside0.mk (Kd.S_lower ho0 (below_size qB)); replace BK509 := qW BK509 hb; replace HB := qH hb; (try clear hb); (try clear ho0))))
  (try simp only [Act.put, List.setIfInBounds_toArray, List.set_cons_zero, List.set_cons_succ])
  go_cut [37] (fun v37 wc => ∃ (kq : Nat) (x37_9 : Bool), v37 = .bool x37_9 ∧ Aside0 (cubbylaw12_SpanNumbers.j0 kq t512 x37_9 a0_0 a0_1 a0_2 l0_3 = some r) ∧ Aside0 (kq ≤ k) ∧ Aside0 (Kd.S (Kd.slice 3 (Kd.int .i64)) 29 wc w.heap.size (fun _ => True) v513 t512) ∧ Aside0 (wc.heap[gb509]? = some (.cells #[.string a0_0, .int .i64 a0_1, .int .i64 a0_2, (.slice A0_3 l0_3.length c0_3)] 34 (0, 0))) ∧ Aside0 (Below w.heap.size w wc))
  case first =>
   have H := HC10.out
   clear HC10
   by_cases c16 : (t512.length : Int) = (l0_3.length : Int)
   ·rw [if_pos c16] at H
    obtain ⟨c16b0, c16b1⟩ := qe c16
    have c16b2 : (t512.length == l0_3.length) = true := by first | simpa using c16 | (simp at c16 ⊢; omega)
    clear c16
    (first | rw [c16b0] | (simp only [i64_w, i32_w]; rw [c16b0]) | skip)
    by_cases c17 : 0 < (t512.length : Int)
    ·rw [if_pos c17] at H
     have c17b0 := decide_eq_true c17
     have c17b1 : decide (0 < t512.length) = true := decide_eq_true (by omega)
     clear c17
     by_cases c18 : ((rd_LInt t512 0).length : Int) = 0
     ·rw [if_pos c18] at H
      obtain ⟨c18b0, c18b1⟩ := qe c18; clear c18
      have H' := Aside0.mk H
      clear H
      obtain ⟨Ao19, co19, eo19⟩ := Kd.S_slice HO514.out
      subst eo19
      obtain ⟨hcz20_0, hcz20_1, hcz20_2, hcz20_3, hfz20_0, hfz20_1, hfz20_2, hfz20_3⟩ := bk4 BK509.out
      have p515 : 0 ≤ (0 : Int) := (by omega)
      have q515 : 0 < (t512.length : Int) := of_decide_eq_true qA
      obtain ⟨ad515, A515_0, c515_0, e515, hx515_0, hl515_0, hi515_0⟩ := at_LInt (Kd.S_reads' HO514.out).2.2 0 p515 q515
      cases e515
      obtain ⟨ce515, hce515, hMe515, hcc515⟩ := Kd.S_get HO514.out [] 0 p515 (by first | exact q515 | exact of_decide_eq_true qA | (have e_ := (Kd.S_reads' HO514.out).1; omega))
      obtain ⟨ve515_0, rfl, ge515_0⟩ := hMe515
      have hv515_0 := hcc515 0 _ rfl
      rw [Nat.add_zero, show ((Kd.slice 3 (Kd.int .i64))).sz = 1 from rfl, Nat.mul_one] at hv515_0
      replace hv515_0 := Option.some.inj (hv515_0.symm.trans hx515_0)
      rw [hv515_0] at ge515_0
      have HL515_0 := Aside0.mk (show Kd.R (Kd.int .i64) 3 _ _ _ _ (rd_LInt t512 0) from ge515_0)
      clear hv515_0 ge515_0
      clear hcc515 hce515
      have qi515 : (0 < t512.length) = True := eq_true (by omega)
      (try rw [show ((0 : Int)).toNat = 0 from rfl] at hx515_0)
      (try rw [Addr.add_zero'] at hx515_0)
      have HR515_0 := Aside0.mk hi515_0
      have HC515_0 := Aside0.mk hl515_0
      clear hi515_0 hl515_0
      replace p515 := eq_true p515
      replace q515 := eq_true q515
      go_wp2
      repeat (go_quiet (fail); try go_wp2)
      go_meet
      case rel => exact ⟨_, (true), qT, H', ⟨qO⟩, ⟨qS HO514.out⟩, ⟨qK BK509.out⟩, ⟨qB⟩⟩
     ·rw [if_neg c18] at H
      obtain ⟨c18b0, c18b1⟩ := qn c18
      have c18b2 : ¬ ((rd_LInt t512 0) = []) := fun h_ => c18 (by rw [h_]; rfl)
      by_cases c21 : 0 < ((rd_LInt t512 0).length : Int)
      ·rw [if_pos c21] at H
       have c21b0 := decide_eq_true c21
       have c21b1 : decide (0 < (rd_LInt t512 0).length) = true := decide_eq_true (by omega)
       clear c21
       have H' := Aside0.mk H
       clear H
       obtain ⟨Ao22, co22, eo22⟩ := Kd.S_slice HO514.out
       subst eo22
       obtain ⟨hcz23_0, hcz23_1, hcz23_2, hcz23_3, hfz23_0, hfz23_1, hfz23_2, hfz23_3⟩ := bk4 BK509.out
       have p515 : 0 ≤ (0 : Int) := (by omega)
       have q515 : 0 < (t512.length : Int) := of_decide_eq_true qA
       obtain ⟨ad515, A515_0, c515_0, e515, hx515_0, hl515_0, hi515_0⟩ := at_LInt (Kd.S_reads' HO514.out).2.2 0 p515 q515
       cases e515
       obtain ⟨ce515, hce515, hMe515, hcc515⟩ := Kd.S_get HO514.out [] 0 p515 (by first | exact q515 | exact of_decide_eq_true qA | (have e_ := (Kd.S_reads' HO514.out).1; omega))
       obtain ⟨ve515_0, rfl, ge515_0⟩ := hMe515
       have hv515_0 := hcc515 0 _ rfl
       rw [Nat.add_zero, show ((Kd.slice 3 (Kd.int .i64))).sz = 1 from rfl, Nat.mul_one] at hv515_0
       replace hv515_0 := Option.some.inj (hv515_0.symm.trans hx515_0)
       rw [hv515_0] at ge515_0
       have HL515_0 := Aside0.mk (show Kd.R (Kd.int .i64) 3 _ _ _ _ (rd_LInt t512 0) from ge515_0)
       clear hv515_0 ge515_0
       clear hcc515 hce515
       have qi515 : (0 < t512.length) = True := eq_true (by omega)
       (try rw [show ((0 : Int)).toNat = 0 from rfl] at hx515_0)
       (try rw [Addr.add_zero'] at hx515_0)
       have HR515_0 := Aside0.mk hi515_0
       have HC515_0 := Aside0.mk hl515_0
       clear hi515_0 hl515_0
       replace p515 := eq_true p515
       replace q515 := eq_true q515
       have p516 : 0 ≤ (0 : Int) := (by omega)
       have q516 : 0 < (t512.length : Int) := of_decide_eq_true qA
       obtain ⟨ad516, A516_0, c516_0, e516, hx516_0, hl516_0, hi516_0⟩ := at_LInt (Kd.S_reads' HO514.out).2.2 0 p516 q516
       obtain rfl : ad515 = ad516 := (by injection e516)
       obtain ⟨ce516, hce516, hMe516, hcc516⟩ := Kd.S_get HO514.out [] 0 p516 (by first | exact q516 | exact of_decide_eq_true qA | (have e_ := (Kd.S_reads' HO514.out).1; omega))
       obtain ⟨ve516_0, rfl, ge516_0⟩ := hMe516
       have hv516_0 := hcc516 0 _ rfl
       rw [Nat.add_zero, show ((Kd.slice 3 (Kd.int .i64))).sz = 1 from rfl, Nat.mul_one] at hv516_0
       replace hv516_0 := Option.some.inj (hv516_0.symm.trans hx516_0)
       rw [hv516_0] at ge516_0
       have HL516_0 := Aside0.mk (show Kd.R (Kd.int .i64) 3 _ _ _ _ (rd_LInt t512 0) from ge516_0)
       clear hv516_0 ge516_0
       clear hcc516 hce516
       have qi516 : (0 < t512.length) = True := eq_true (by omega)
       (try rw [show ((0 : Int)).toNat = 0 from rfl] at hx516_0)
       (try rw [Addr.add_zero'] at hx516_0)
       have HR516_0 := Aside0.mk hi516_0
       have HC516_0 := Aside0.mk hl516_0
       clear hi516_0 hl516_0
       replace p516 := eq_true p516
       replace q516 := eq_true q516
       have ea_ := Option.some.inj (hx515_0.symm.trans hx516_0)
       injection ea_ with ea_ en_ ec_
       subst ea_
       subst ec_
       clear en_
       have p517 : 0 ≤ (0 : Int) := (by omega)
       have q517 : 0 < ((rd_LInt t512 0).length : Int) := of_decide_eq_true qA
       obtain ⟨ad517, e517, hx517_0⟩ := Kd.at_int (by repeat (first | (with_reducible exact HR516_0.out) | (with_reducible refine Kd.C_alloc ?_ _) | (with_reducible refine Kd.C_drewN ?_ _) | (with_reducible refine Kd.C_drew ?_) | exact HR516_0.out)) 0 p517 q517
       cases e517
       have qi517 : (0 < (rd_LInt t512 0).length) = True := eq_true (by omega)
       (try rw [show ((0 : Int)).toNat = 0 from rfl] at hx517_0)
       (try rw [Addr.add_zero'] at hx517_0)
       replace p517 := eq_true p517
       replace q517 := eq_true q517
       go_wp2
       repeat (go_quiet (fail); try go_wp2)
       go_meet
       case rel => exact ⟨_, (((rd (rd_LInt t512 0) 0) != 1)), qT, H', ⟨qO⟩, ⟨qS HO514.out⟩, ⟨qK BK509.out⟩, ⟨qB⟩⟩
      ·rw [if_neg c21] at H
       exact absurd H (by simp)
    ·rw [if_neg c17] at H
     exact absurd H (by simp)
   ·rw [if_neg c16] at H
    obtain ⟨c16b0, c16b1⟩ := qn c16
    have c16b2 : (t512.length == l0_3.length) = false := by first | simpa using c16 | (simp at c16 ⊢; omega)
    (first | rw [c16b0] | (simp only [i64_w, i32_w]; rw [c16b0]) | skip)
    have H' := Aside0.mk H
    clear H
    obtain ⟨Ao24, co24, eo24⟩ := Kd.S_slice HO514.out
    subst eo24
    obtain ⟨hcz25_0, hcz25_1, hcz25_2, hcz25_3, hfz25_0, hfz25_1, hfz25_2, hfz25_3⟩ := bk4 BK509.out
    go_wp2
    repeat (go_quiet (fail); try go_wp2)
    go_meet
    case rel => exact ⟨_, (true), qT, H', ⟨qO⟩, ⟨qS HO514.out⟩, ⟨qK BK509.out⟩, ⟨qB⟩⟩
  case rest =>
   clear HC10
   try clear c1; try clear c2; try clear p2; try clear c3; try clear c5; try clear p5; try clear q5; try clear hx5; try clear qi5; try clear c10; try clear c16; try clear c16b0 c16b1 c16b2; try clear c17; try clear c17b0 c17b1; try clear c18; try clear c18b0 c18b1 c18b2; try clear c21; try clear c21b0 c21b1; try clear hcz12_0 hcz12_1 hcz12_2 hcz12_3 hfz12_0 hfz12_1 hfz12_2 hfz12_3; try clear hcz14_0 hcz14_1 hcz14_2 hcz14_3 hfz14_0 hfz14_1 hfz14_2 hfz14_3; try clear hcz20_0 hcz20_1 hcz20_2 hcz20_3 hfz20_0 hfz20_1 hfz20_2 hfz20_3; try clear hcz23_0 hcz23_1 hcz23_2 hcz23_3 hfz23_0 hfz23_1 hfz23_2 hfz23_3; try clear hcz25_0 hcz25_1 hcz25_2 hcz25_3 hfz25_0 hfz25_1 hfz25_2 hfz25_3; try clear hcz6_0 hcz6_1 hcz6_2 hcz6_3 hfz6_0 hfz6_1 hfz6_2 hfz6_3; try clear hx515_0; try clear hx516_0; try clear hx517_0; try clear p515; try clear p516; try clear p517; try clear q515; try clear q516; try clear q517
   obtain ⟨kq, x37_9, rfl, HA, HJ9, HO_3, BK509, HB⟩ := hcut
   cases kq with
   | zero => exact absurd HA.out (by simp [cubbylaw12_SpanNumbers.j0])
   | succ kj9 =>
    have H := HA.out
    clear HA
    simp only [cubbylaw12_SpanNumbers.j0] at H
    by_cases c26 : x37_9 = true
    ·subst c26
     have H1 : (some false) = some r := by rw [if_pos rfl] at H; exact H
     clear H
     have H := H1
     clear H1
     exact absurd ((Option.some.inj H).trans HRt.out) (by decide)
    ·replace c26 := Bool.eq_false_iff.mpr c26
     subst c26
     have H1 : (if 70 ≤ 281474976710656 then (cubbylaw12_SpanNumbers.l0 kj9 t512 (List.replicate 70 false) 0 0 a0_0 a0_1 a0_2 l0_3) else (none)) = some r := by rw [if_neg (show ¬ (false = true) by decide)] at H; exact H
     clear H
     have H := H1
     clear H1
     by_cases c27 : 70 ≤ 281474976710656
     ·rw [if_pos c27] at H
      have c27b0 := eq_true c27
      have c27b1 := decide_eq_true c27
      clear c27
      obtain ⟨y518, hy518⟩ : ∃ y_ : List Bool, y_ = (List.replicate 70 false) := ⟨_, rfl⟩
      replace H : (cubbylaw12_SpanNumbers.l0 kj9 t512 y518 0 0 a0_0 a0_1 a0_2 l0_3) = some r := by first | (rw [hy518]; with_reducible exact H) | (have H2_ := (Option.bind_some _ _).symm.trans H; rw [hy518]; with_reducible exact H2_) | (have H2_ := (Option.bind_some _ _).symm.trans H; with_reducible exact H2_) | with_reducible exact H | (rw [hy518]; exact H) | exact H
      have Ny518 := Aside0.mk hy518
      clear hy518
      have H' := Aside0.mk H
      clear H
      go_wp2_with (first | ((with_reducible refine gate_dst (N := 38) rfl ?_); (try (refine gate_guard (by rfl) ?_; dsimp only)); refine Kd.R_make Kd.bool _ 4 rfl (N := 38) rfl 50 _ _ rfl 70 rfl rfl Tryd.underlying50 (.bool false) 1 info4 rfl (by decide) (by omega) false (ok := fun _ => True) (okp := fun _ => True) rfl (fun _ hk => hk) trivial (by omega) (by omega) (Below.refl _ _) (Nat.le_refl _) ?_; intro v519 w28 ho29 hb hg_ hnew_; clear hg_ hnew_; (first | rw [← Ny518.out] at ho29 | (simp only [Int.reduceToNat] at ho29; rw [← Ny518.out] at ho29)); replace HO_3 := Aside0.mk (Kd.S_below (qS HO_3.out) hb); have HO520 := Aside0.mk (Kd.R_lower ho29 (below_size qB)); replace BK509 := qW BK509 hb; replace HB := qH hb; clear hb ho29))
      repeat (go_quiet (first | ((with_reducible refine gate_dst (N := 38) rfl ?_); (try (refine gate_guard (by rfl) ?_; dsimp only)); refine Kd.R_make Kd.bool _ 4 rfl (N := 38) rfl 50 _ _ rfl 70 rfl rfl Tryd.underlying50 (.bool false) 1 info4 rfl (by decide) (by omega) false (ok := fun _ => True) (okp := fun _ => True) rfl (fun _ hk => hk) trivial (by omega) (by omega) (Below.refl _ _) (Nat.le_refl _) ?_; intro v519 w28 ho29 hb hg_ hnew_; clear hg_ hnew_; (first | rw [← Ny518.out] at ho29 | (simp only [Int.reduceToNat] at ho29; rw [← Ny518.out] at ho29)); replace HO_3 := Aside0.mk (Kd.S_below (qS HO_3.out) hb); have HO520 := Aside0.mk (Kd.R_lower ho29 (below_size qB)); replace BK509 := qW BK509 hb; replace HB := qH hb; clear hb ho29)); try go_wp2_with (first | ((with_reducible refine gate_dst (N := 38) rfl ?_); (try (refine gate_guard (by rfl) ?_; dsimp only)); refine Kd.R_make Kd.bool _ 4 rfl (N := 38) rfl 50 _ _ rfl 70 rfl rfl Tryd.underlying50 (.bool false) 1 info4 rfl (by decide) (by omega) false (ok := fun _ => True) (okp := fun _ => True) rfl (fun _ hk => hk) trivial (by omega) (by omega) (Below.refl _ _) (Nat.le_refl _) ?_; intro v519 w28 ho29 hb hg_ hnew_; clear hg_ hnew_; (first | rw [← Ny518.out] at ho29 | (simp only [Int.reduceToNat] at ho29; rw [← Ny518.out] at ho29)); replace HO_3 := Aside0.mk (Kd.S_below (qS HO_3.out) hb); have HO520 := Aside0.mk (Kd.R_lower ho29 (below_size qB)); replace BK509 := qW BK509 hb; replace HB := qH hb; clear hb ho29)))
      go_loopg [5, 6] kj9 (fun kq v5 v6 w' => ∃ (x4_2 : List Bool) (x5_2 : Int) (x6_2 : Int), v5 = .int .i64 x5_2 ∧ v6 = .int .i64 x6_2 ∧ Aside0 (cubbylaw12_SpanNumbers.l0 kq t512 x4_2 x5_2 x6_2 a0_0 a0_1 a0_2 l0_3 = some r) ∧ Aside0 (kq ≤ kj9) ∧ Aside0 (Kd.S (Kd.slice 3 (Kd.int .i64)) 29 w' w.heap.size (fun _ => True) v513 t512) ∧ Aside0 (Kd.R Kd.bool 4 w' w.heap.size (fun _ => True) v519 x4_2) ∧ Aside0 (w'.heap[gb509]? = some (.cells #[.string a0_0, .int .i64 a0_1, .int .i64 a0_2, (.slice A0_3 l0_3.length c0_3)] 34 (0, 0))) ∧ Aside0 (Below w.heap.size w w'))
      case atStart => exact ⟨(y518), (0), (0), qT, qT, H', ⟨Nat.le_refl _⟩, ⟨qS HO_3.out⟩, ⟨qR HO520.out⟩, ⟨qK BK509.out⟩, ⟨qB⟩⟩
      case round =>
       clear H'
       try clear c1; try clear c2; try clear p2; try clear c3; try clear c5; try clear p5; try clear q5; try clear hx5; try clear qi5; try clear c10; try clear c16; try clear c16b0 c16b1 c16b2; try clear c17; try clear c17b0 c17b1; try clear c18; try clear c18b0 c18b1 c18b2; try clear c21; try clear c21b0 c21b1; try clear c26; try clear c27; try clear c27b0 c27b1; try clear hcz12_0 hcz12_1 hcz12_2 hcz12_3 hfz12_0 hfz12_1 hfz12_2 hfz12_3; try clear hcz14_0 hcz14_1 hcz14_2 hcz14_3 hfz14_0 hfz14_1 hfz14_2 hfz14_3; try clear hcz20_0 hcz20_1 hcz20_2 hcz20_3 hfz20_0 hfz20_1 hfz20_2 hfz20_3; try clear hcz23_0 hcz23_1 hcz23_2 hcz23_3 hfz23_0 hfz23_1 hfz23_2 hfz23_3; try clear hcz25_0 hcz25_1 hcz25_2 hcz25_3 hfz25_0 hfz25_1 hfz25_2 hfz25_3; try clear hcz6_0 hcz6_1 hcz6_2 hcz6_3 hfz6_0 hfz6_1 hfz6_2 hfz6_3; try clear hx515_0; try clear hx516_0; try clear hx517_0; try clear p515; try clear p516; try clear p517; try clear q515; try clear q516; try clear q517
       obtain ⟨x4_2, x5_2, x6_2, rfl, rfl, HA, HK2, HO_3, HO_4, BK509, HB⟩ := hrel
       cases gk with
       | zero => exact absurd HA.out (by simp [cubbylaw12_SpanNumbers.l0])
       | succ k2 =>
        have H := HA.out
        clear HA
        simp only [cubbylaw12_SpanNumbers.l0] at H
        by_cases c30 : x6_2 < (t512.length : Int)
        ·rw [if_pos c30] at H
         have c30b0 := decide_eq_true c30
         clear c30
         have HC31 := Aside0.mk H
         clear H
         obtain ⟨Ao32, co32, eo32⟩ := Kd.S_slice HO_3.out
         subst eo32
         go_upto_region 11 with (fail)
         repeat (go_quiet (fail); go_upto_region 11 with (fail))
         go_cut [64] (fun v64 wc => ∃ (kq : Nat) (x64_30 : Bool), v64 = .bool x64_30 ∧ Aside0 (cubbylaw12_SpanNumbers.j2 kq t512 x4_2 x5_2 x6_2 x64_30 a0_0 a0_1 a0_2 l0_3 = some r) ∧ Aside0 (kq ≤ k2) ∧ Aside0 (Kd.S (Kd.slice 3 (Kd.int .i64)) 29 wc w.heap.size (fun _ => True) (.slice Ao32 t512.length co32) t512) ∧ Aside0 (Kd.R Kd.bool 4 wc w.heap.size (fun _ => True) v519 x4_2) ∧ Aside0 (wc.heap[gb509]? = some (.cells #[.string a0_0, .int .i64 a0_1, .int .i64 a0_2, (.slice A0_3 l0_3.length c0_3)] 34 (0, 0))) ∧ Aside0 (Below w.heap.size w wc))
         case first =>
          have H := HC31.out
          clear HC31
          by_cases c33 : 0 ≤ x6_2
          ·rw [if_pos c33] at H
           have c33b0 := decide_eq_true c33
           clear c33
           (first | rw [c33b0] | (simp only [i64_w, i32_w]; rw [c33b0]) | skip)
           by_cases c34 : ((rd_LInt t512 x6_2).length : Int) = 0
           ·rw [if_pos c34] at H
            obtain ⟨c34b0, c34b1⟩ := qe c34; clear c34
            have H' := Aside0.mk H
            clear H
            have p521 : 0 ≤ (x6_2 : Int) := of_decide_eq_true qA
            have q521 : x6_2 < (t512.length : Int) := of_decide_eq_true qA
            obtain ⟨ad521, A521_0, c521_0, e521, hx521_0, hl521_0, hi521_0⟩ := at_LInt (Kd.S_reads' HO_3.out).2.2 x6_2 p521 q521
            cases e521
            obtain ⟨ce521, hce521, hMe521, hcc521⟩ := Kd.S_get HO_3.out [] x6_2 p521 (by first | exact q521 | exact of_decide_eq_true qA | (have e_ := (Kd.S_reads' HO_3.out).1; omega))
            obtain ⟨ve521_0, rfl, ge521_0⟩ := hMe521
            have hv521_0 := hcc521 0 _ rfl
            rw [Nat.add_zero, show ((Kd.slice 3 (Kd.int .i64))).sz = 1 from rfl, Nat.mul_one] at hv521_0
            replace hv521_0 := Option.some.inj (hv521_0.symm.trans hx521_0)
            rw [hv521_0] at ge521_0
            have HL521_0 := Aside0.mk (show Kd.R (Kd.int .i64) 3 _ _ _ _ (rd_LInt t512 x6_2) from ge521_0)
            clear hv521_0 ge521_0
            clear hcc521 hce521
            have HR521_0 := Aside0.mk hi521_0
            have HC521_0 := Aside0.mk hl521_0
            clear hi521_0 hl521_0
            replace p521 := eq_true p521
            replace q521 := eq_true q521
            go_wp2
            repeat (go_quiet (fail); try go_wp2)
            go_meet
            case rel => exact ⟨_, (false), qT, H', ⟨by have := HJ9.out; have := HK2.out; first | omega | exact Nat.le_refl _⟩, ⟨qS HO_3.out⟩, ⟨qR HO_4.out⟩, ⟨qK BK509.out⟩, ⟨qB⟩⟩
           ·rw [if_neg c34] at H
            obtain ⟨c34b0, c34b1⟩ := qn c34
            have c34b2 : ¬ ((rd_LInt t512 x6_2) = []) := fun h_ => c34 (by rw [h_]; rfl)
            by_cases c35 : x6_2 < (l0_3.length : Int)
            ·rw [if_pos c35] at H
             have c35b0 := decide_eq_true c35
             clear c35
             have H' := Aside0.mk H
             clear H
             have p521 : 0 ≤ (x6_2 : Int) := of_decide_eq_true qA
             have q521 : x6_2 < (t512.length : Int) := of_decide_eq_true qA
             obtain ⟨ad521, A521_0, c521_0, e521, hx521_0, hl521_0, hi521_0⟩ := at_LInt (Kd.S_reads' HO_3.out).2.2 x6_2 p521 q521
             cases e521
             obtain ⟨ce521, hce521, hMe521, hcc521⟩ := Kd.S_get HO_3.out [] x6_2 p521 (by first | exact q521 | exact of_decide_eq_true qA | (have e_ := (Kd.S_reads' HO_3.out).1; omega))
             obtain ⟨ve521_0, rfl, ge521_0⟩ := hMe521
             have hv521_0 := hcc521 0 _ rfl
             rw [Nat.add_zero, show ((Kd.slice 3 (Kd.int .i64))).sz = 1 from rfl, Nat.mul_one] at hv521_0
             replace hv521_0 := Option.some.inj (hv521_0.symm.trans hx521_0)
             rw [hv521_0] at ge521_0
             have HL521_0 := Aside0.mk (show Kd.R (Kd.int .i64) 3 _ _ _ _ (rd_LInt t512 x6_2) from ge521_0)
             clear hv521_0 ge521_0
             clear hcc521 hce521
             have HR521_0 := Aside0.mk hi521_0
             have HC521_0 := Aside0.mk hl521_0
             clear hi521_0 hl521_0
             replace p521 := eq_true p521
             replace q521 := eq_true q521
             have p522 : 0 ≤ (x6_2 : Int) := of_decide_eq_true qA
             have q522 : x6_2 < (t512.length : Int) := of_decide_eq_true qA
             obtain ⟨ad522, A522_0, c522_0, e522, hx522_0, hl522_0, hi522_0⟩ := at_LInt (Kd.S_reads' HO_3.out).2.2 x6_2 p522 q522
             obtain rfl : ad521 = ad522 := (by injection e522)
             obtain ⟨ce522, hce522, hMe522, hcc522⟩ := Kd.S_get HO_3.out [] x6_2 p522 (by first | exact q522 | exact of_decide_eq_true qA | (have e_ := (Kd.S_reads' HO_3.out).1; omega))
             obtain ⟨ve522_0, rfl, ge522_0⟩ := hMe522
             have hv522_0 := hcc522 0 _ rfl
             rw [Nat.add_zero, show ((Kd.slice 3 (Kd.int .i64))).sz = 1 from rfl, Nat.mul_one] at hv522_0
             replace hv522_0 := Option.some.inj (hv522_0.symm.trans hx522_0)
             rw [hv522_0] at ge522_0
             have HL522_0 := Aside0.mk (show Kd.R (Kd.int .i64) 3 _ _ _ _ (rd_LInt t512 x6_2) from ge522_0)
             clear hv522_0 ge522_0
             clear hcc522 hce522
             have HR522_0 := Aside0.mk hi522_0
             have HC522_0 := Aside0.mk hl522_0
             clear hi522_0 hl522_0
             replace p522 := eq_true p522
             replace q522 := eq_true q522
             have ea_ := Option.some.inj (hx521_0.symm.trans hx522_0)
             injection ea_ with ea_ en_ ec_
             subst ea_
             subst ec_
             clear en_
             obtain ⟨hcz36_0, hcz36_1, hcz36_2, hcz36_3, hfz36_0, hfz36_1, hfz36_2, hfz36_3⟩ := bk4 BK509.out
             have p523 : 0 ≤ (x6_2 : Int) := of_decide_eq_true qA
             have q523 : x6_2 < (l0_3.length : Int) := of_decide_eq_true qA
             obtain ⟨ad523, A523_0, c523_0, e523, hx523_0, hl523_0, hi523_0⟩ := at_LIns HR0_3.out x6_2 p523 q523
             cases e523
             replace hx523_0 := (HB.out.cell (World.block_lt_of_cell? w _ hx523_0)).trans hx523_0
             have HR523_0 := Aside0.mk hi523_0
             have HC523_0 := Aside0.mk hl523_0
             clear hi523_0 hl523_0
             replace p523 := eq_true p523
             replace q523 := eq_true q523
             go_wp2
             repeat (go_quiet (fail); try go_wp2)
             go_meet
             case rel => exact ⟨_, ((((rd_LInt t512 x6_2).length : Int) != ((rd_LIns l0_3 x6_2).length : Int))), qT, H', ⟨by have := HJ9.out; have := HK2.out; first | omega | exact Nat.le_refl _⟩, ⟨qS HO_3.out⟩, ⟨qR HO_4.out⟩, ⟨qK BK509.out⟩, ⟨qB⟩⟩
            ·rw [if_neg c35] at H
             exact absurd H (by simp)
          ·rw [if_neg c33] at H
           exact absurd H (by simp)
         case rest =>
          clear HC31
          try clear c1; try clear c2; try clear p2; try clear c3; try clear c5; try clear p5; try clear q5; try clear hx5; try clear qi5; try clear c10; try clear c16; try clear c16b0 c16b1 c16b2; try clear c17; try clear c17b0 c17b1; try clear c18; try clear c18b0 c18b1 c18b2; try clear c21; try clear c21b0 c21b1; try clear c26; try clear c27; try clear c27b0 c27b1; try clear c30; try clear c30b0; try clear c33; try clear c33b0; try clear c34; try clear c34b0 c34b1 c34b2; try clear c35; try clear c35b0; try clear hcz12_0 hcz12_1 hcz12_2 hcz12_3 hfz12_0 hfz12_1 hfz12_2 hfz12_3; try clear hcz14_0 hcz14_1 hcz14_2 hcz14_3 hfz14_0 hfz14_1 hfz14_2 hfz14_3; try clear hcz20_0 hcz20_1 hcz20_2 hcz20_3 hfz20_0 hfz20_1 hfz20_2 hfz20_3; try clear hcz23_0 hcz23_1 hcz23_2 hcz23_3 hfz23_0 hfz23_1 hfz23_2 hfz23_3; try clear hcz25_0 hcz25_1 hcz25_2 hcz25_3 hfz25_0 hfz25_1 hfz25_2 hfz25_3; try clear hcz36_0 hcz36_1 hcz36_2 hcz36_3 hfz36_0 hfz36_1 hfz36_2 hfz36_3; try clear hcz6_0 hcz6_1 hcz6_2 hcz6_3 hfz6_0 hfz6_1 hfz6_2 hfz6_3; try clear hx515_0; try clear hx516_0; try clear hx517_0; try clear hx521_0; try clear hx522_0; try clear hx523_0; try clear p515; try clear p516; try clear p517; try clear p521; try clear p522; try clear p523; try clear q515; try clear q516; try clear q517; try clear q521; try clear q522; try clear q523
          obtain ⟨kq, x64_30, rfl, HA, HJ30, HO_3, HO_4, BK509, HB⟩ := hcut
          cases kq with
          | zero => exact absurd HA.out (by simp [cubbylaw12_SpanNumbers.j2])
          | succ kj30 =>
           have H := HA.out
           clear HA
           simp only [cubbylaw12_SpanNumbers.j2] at H
           by_cases c37 : x64_30 = true
           ·subst c37
            have H1 : (some false) = some r := by rw [if_pos rfl] at H; exact H
            clear H
            have H := H1
            clear H1
            exact absurd ((Option.some.inj H).trans HRt.out) (by decide)
           ·replace c37 := Bool.eq_false_iff.mpr c37
            subst c37
            have H1 : (cubbylaw12_SpanNumbers.l1 kj30 t512 x4_2 x5_2 x6_2 0 a0_0 a0_1 a0_2 l0_3) = some r := by rw [if_neg (show ¬ (false = true) by decide)] at H; exact H
            clear H
            have H := H1
            clear H1
            have H' := Aside0.mk H
            clear H
            go_wp2
            repeat (go_quiet (fail); try go_wp2)
            go_loopg [5, 7] kj30 (fun kq v5 v7 w' => ∃ (x4_4 : List Bool) (x5_4 : Int) (x7_4 : Int), v5 = .int .i64 x5_4 ∧ v7 = .int .i64 x7_4 ∧ Aside0 (cubbylaw12_SpanNumbers.l1 kq t512 x4_4 x5_4 x6_2 x7_4 a0_0 a0_1 a0_2 l0_3 = some r) ∧ Aside0 (kq ≤ kj30) ∧ Aside0 (Kd.S (Kd.slice 3 (Kd.int .i64)) 29 w' w.heap.size (fun _ => True) (.slice Ao32 t512.length co32) t512) ∧ Aside0 (Kd.R Kd.bool 4 w' w.heap.size (fun _ => True) v519 x4_4) ∧ Aside0 (w'.heap[gb509]? = some (.cells #[.string a0_0, .int .i64 a0_1, .int .i64 a0_2, (.slice A0_3 l0_3.length c0_3)] 34 (0, 0))) ∧ Aside0 (Below w.heap.size w w'))
            case atStart => exact ⟨(x4_2), (x5_2), (0), qT, qT, H', ⟨Nat.le_refl _⟩, ⟨qS HO_3.out⟩, ⟨qR HO_4.out⟩, ⟨qK BK509.out⟩, ⟨qB⟩⟩
            case round =>
             clear H'
             try clear c1; try clear c2; try clear p2; try clear c3; try clear c5; try clear p5; try clear q5; try clear hx5; try clear qi5; try clear c10; try clear c16; try clear c16b0 c16b1 c16b2; try clear c17; try clear c17b0 c17b1; try clear c18; try clear c18b0 c18b1 c18b2; try clear c21; try clear c21b0 c21b1; try clear c26; try clear c27; try clear c27b0 c27b1; try clear c30; try clear c30b0; try clear c33; try clear c33b0; try clear c34; try clear c34b0 c34b1 c34b2; try clear c35; try clear c35b0; try clear c37; try clear hcz12_0 hcz12_1 hcz12_2 hcz12_3 hfz12_0 hfz12_1 hfz12_2 hfz12_3; try clear hcz14_0 hcz14_1 hcz14_2 hcz14_3 hfz14_0 hfz14_1 hfz14_2 hfz14_3; try clear hcz20_0 hcz20_1 hcz20_2 hcz20_3 hfz20_0 hfz20_1 hfz20_2 hfz20_3; try clear hcz23_0 hcz23_1 hcz23_2 hcz23_3 hfz23_0 hfz23_1 hfz23_2 hfz23_3; try clear hcz25_0 hcz25_1 hcz25_2 hcz25_3 hfz25_0 hfz25_1 hfz25_2 hfz25_3; try clear hcz36_0 hcz36_1 hcz36_2 hcz36_3 hfz36_0 hfz36_1 hfz36_2 hfz36_3; try clear hcz6_0 hcz6_1 hcz6_2 hcz6_3 hfz6_0 hfz6_1 hfz6_2 hfz6_3; try clear hx515_0; try clear hx516_0; try clear hx517_0; try clear hx521_0; try clear hx522_0; try clear hx523_0; try clear p515; try clear p516; try clear p517; try clear p521; try clear p522; try clear p523; try clear q515; try clear q516; try clear q517; try clear q521; try clear q522; try clear q523
             obtain ⟨x4_4, x5_4, x7_4, rfl, rfl, HA, HK4, HO_3, HO_4, BK509, HB⟩ := hrel
             cases gk with
             | zero => exact absurd HA.out (by simp [cubbylaw12_SpanNumbers.l1])
             | succ k4 =>
              have H := HA.out
              clear HA
              simp only [cubbylaw12_SpanNumbers.l1] at H
              by_cases c38 : 0 ≤ x6_2
              ·rw [if_pos c38] at H
               have c38b0 := decide_eq_true c38
               clear c38
               by_cases c39 : x6_2 < (t512.length : Int)
               ·rw [if_pos c39] at H
                have c39b0 := decide_eq_true c39
                clear c39
                by_cases c40 : x7_4 < ((rd_LInt t512 x6_2).length : Int)
                ·rw [if_pos c40] at H
                 have c40b0 := decide_eq_true c40
                 clear c40
                 by_cases c41 : 0 ≤ x7_4
                 ·rw [if_pos c41] at H
                  have c41b0 := decide_eq_true c41
                  clear c41
                  by_cases c42 : (rd (rd_LInt t512 x6_2) x7_4) < 1
                  ·rw [if_pos c42] at H
                   have c42b0 := decide_eq_true c42
                   clear c42
                   exact absurd ((Option.some.inj H).trans HRt.out) (by decide)
                  ·rw [if_neg c42] at H
                   have c42b0 := decide_eq_false c42
                   clear c42
                   by_cases c43 : (rd (rd_LInt t512 x6_2) x7_4) ≥ 70
                   ·rw [if_pos c43] at H
                    have c43b0 : decide (70 ≤ (rd (rd_LInt t512 x6_2) x7_4)) = true := decide_eq_true c43
                    clear c43
                    exact absurd ((Option.some.inj H).trans HRt.out) (by decide)
                   ·rw [if_neg c43] at H
                    have c43b0 : decide (70 ≤ (rd (rd_LInt t512 x6_2) x7_4)) = false := decide_eq_false c43
                    clear c43
                    by_cases c44 : 0 ≤ (rd (rd_LInt t512 x6_2) x7_4)
                    ·rw [if_pos c44] at H
                     have c44b0 := decide_eq_true c44
                     clear c44
                     by_cases c45 : (rd (rd_LInt t512 x6_2) x7_4) < (x4_4.length : Int)
                     ·rw [if_pos c45] at H
                      have c45b0 := decide_eq_true c45
                      clear c45
                      obtain ⟨bq46, hbq46⟩ : ∃ b_ : Bool, b_ = (rdOf false x4_4 (rd (rd_LInt t512 x6_2) x7_4)) := ⟨_, rfl⟩
                      replace H : (if bq46 = true then (some false) else (if x7_4 > 0 then (if 0 ≤ (wrap64 (x7_4 - 1)) then (if (wrap64 (x7_4 - 1)) < ((rd_LInt t512 x6_2).length : Int) then (if (rd (rd_LInt t512 x6_2) x7_4) = (wrap64 ((rd (rd_LInt t512 x6_2) (wrap64 (x7_4 - 1))) + 1)) then (cubbylaw12_SpanNumbers.l1 k4 t512 (x4_4.set ((rd (rd_LInt t512 x6_2) x7_4) : Int).toNat true) (wrap64 (x5_4 + 1)) x6_2 (wrap64 (x7_4 + 1)) a0_0 a0_1 a0_2 l0_3) else (some false)) else (none)) else (none)) else (cubbylaw12_SpanNumbers.l1 k4 t512 (x4_4.set ((rd (rd_LInt t512 x6_2) x7_4) : Int).toNat true) (wrap64 (x5_4 + 1)) x6_2 (wrap64 (x7_4 + 1)) a0_0 a0_1 a0_2 l0_3))) = some r := by rw [← hbq46] at H; exact H
                      have Nbq46 := Aside0.mk hbq46
                      clear hbq46
                      by_cases c47 : bq46 = true
                      ·subst c47
                       have H1 : (some false) = some r := by rw [if_pos rfl] at H; exact H
                       clear H
                       have H := H1
                       clear H1
                       exact absurd ((Option.some.inj H).trans HRt.out) (by decide)
                      ·replace c47 := Bool.eq_false_iff.mpr c47
                       subst c47
                       have H1 : (if x7_4 > 0 then (if 0 ≤ (wrap64 (x7_4 - 1)) then (if (wrap64 (x7_4 - 1)) < ((rd_LInt t512 x6_2).length : Int) then (if (rd (rd_LInt t512 x6_2) x7_4) = (wrap64 ((rd (rd_LInt t512 x6_2) (wrap64 (x7_4 - 1))) + 1)) then (cubbylaw12_SpanNumbers.l1 k4 t512 (x4_4.set ((rd (rd_LInt t512 x6_2) x7_4) : Int).toNat true) (wrap64 (x5_4 + 1)) x6_2 (wrap64 (x7_4 + 1)) a0_0 a0_1 a0_2 l0_3) else (some false)) else (none)) else (none)) else (cubbylaw12_SpanNumbers.l1 k4 t512 (x4_4.set ((rd (rd_LInt t512 x6_2) x7_4) : Int).toNat true) (wrap64 (x5_4 + 1)) x6_2 (wrap64 (x7_4 + 1)) a0_0 a0_1 a0_2 l0_3)) = some r := by rw [if_neg (show ¬ (false = true) by decide)] at H; exact H
                       clear H
                       have H := H1
                       clear H1
                       by_cases c48 : x7_4 > 0
                       ·rw [if_pos c48] at H
                        have c48b0 : decide (0 < x7_4) = true := decide_eq_true c48
                        clear c48
                        obtain ⟨ji49, hji49⟩ : ∃ j_ : Int, (wrap64 (x7_4 - 1)) = j_ := ⟨_, rfl⟩
                        replace H : (if 0 ≤ (ji49) then (if (ji49) < ((rd_LInt t512 x6_2).length : Int) then (if (rd (rd_LInt t512 x6_2) x7_4) = (wrap64 ((rd (rd_LInt t512 x6_2) (ji49)) + 1)) then (cubbylaw12_SpanNumbers.l1 k4 t512 (x4_4.set ((rd (rd_LInt t512 x6_2) x7_4) : Int).toNat true) (wrap64 (x5_4 + 1)) x6_2 (wrap64 (x7_4 + 1)) a0_0 a0_1 a0_2 l0_3) else (some false)) else (none)) else (none)) = some r := by first | (rw [hji49] at H; exact H) | (simp only [hji49] at H ⊢; exact H)
                        have hji49w : (IntKind.i64.wrap (x7_4 - 1)) = ji49 := (i64_w _).trans hji49
                        by_cases c50 : 0 ≤ (ji49)
                        ·rw [if_pos c50] at H
                         have c50b0 := decide_eq_true c50
                         clear c50
                         by_cases c51 : (ji49) < ((rd_LInt t512 x6_2).length : Int)
                         ·rw [if_pos c51] at H
                          have c51b0 := decide_eq_true c51
                          clear c51
                          by_cases c52 : (rd (rd_LInt t512 x6_2) x7_4) = (wrap64 ((rd (rd_LInt t512 x6_2) (ji49)) + 1))
                          ·rw [if_pos c52] at H
                           obtain ⟨c52b0, c52b1⟩ := qe c52; clear c52
                           obtain ⟨y530, hy530⟩ : ∃ y_ : List Bool, y_ = (x4_4.set ((rd (rd_LInt t512 x6_2) x7_4) : Int).toNat true) := ⟨_, rfl⟩
                           replace H : (cubbylaw12_SpanNumbers.l1 k4 t512 y530 (wrap64 (x5_4 + 1)) x6_2 (wrap64 (x7_4 + 1)) a0_0 a0_1 a0_2 l0_3) = some r := by first | (rw [hy530]; with_reducible exact H) | (have H2_ := (Option.bind_some _ _).symm.trans H; rw [hy530]; with_reducible exact H2_) | (have H2_ := (Option.bind_some _ _).symm.trans H; with_reducible exact H2_) | with_reducible exact H | (rw [hy530]; exact H) | exact H
                           have Ny530 := Aside0.mk hy530
                           clear hy530
                           have H' := Aside0.mk H
                           clear H
                           have p524 : 0 ≤ (x6_2 : Int) := of_decide_eq_true qA
                           have q524 : x6_2 < (t512.length : Int) := of_decide_eq_true qA
                           obtain ⟨ad524, A524_0, c524_0, e524, hx524_0, hl524_0, hi524_0⟩ := at_LInt (Kd.S_reads' HO_3.out).2.2 x6_2 p524 q524
                           cases e524
                           obtain ⟨ce524, hce524, hMe524, hcc524⟩ := Kd.S_get HO_3.out [] x6_2 p524 (by first | exact q524 | exact of_decide_eq_true qA | (have e_ := (Kd.S_reads' HO_3.out).1; omega))
                           obtain ⟨ve524_0, rfl, ge524_0⟩ := hMe524
                           have hv524_0 := hcc524 0 _ rfl
                           rw [Nat.add_zero, show ((Kd.slice 3 (Kd.int .i64))).sz = 1 from rfl, Nat.mul_one] at hv524_0
                           replace hv524_0 := Option.some.inj (hv524_0.symm.trans hx524_0)
                           rw [hv524_0] at ge524_0
                           have HL524_0 := Aside0.mk (show Kd.R (Kd.int .i64) 3 _ _ _ _ (rd_LInt t512 x6_2) from ge524_0)
                           clear hv524_0 ge524_0
                           clear hcc524 hce524
                           have HR524_0 := Aside0.mk hi524_0
                           have HC524_0 := Aside0.mk hl524_0
                           clear hi524_0 hl524_0
                           replace p524 := eq_true p524
                           replace q524 := eq_true q524
                           have p525 : 0 ≤ (x6_2 : Int) := of_decide_eq_true qA
                           have q525 : x6_2 < (t512.length : Int) := of_decide_eq_true qA
                           obtain ⟨ad525, A525_0, c525_0, e525, hx525_0, hl525_0, hi525_0⟩ := at_LInt (Kd.S_reads' HO_3.out).2.2 x6_2 p525 q525
                           obtain rfl : ad524 = ad525 := (by injection e525)
                           obtain ⟨ce525, hce525, hMe525, hcc525⟩ := Kd.S_get HO_3.out [] x6_2 p525 (by first | exact q525 | exact of_decide_eq_true qA | (have e_ := (Kd.S_reads' HO_3.out).1; omega))
                           obtain ⟨ve525_0, rfl, ge525_0⟩ := hMe525
                           have hv525_0 := hcc525 0 _ rfl
                           rw [Nat.add_zero, show ((Kd.slice 3 (Kd.int .i64))).sz = 1 from rfl, Nat.mul_one] at hv525_0
                           replace hv525_0 := Option.some.inj (hv525_0.symm.trans hx525_0)
                           rw [hv525_0] at ge525_0
                           have HL525_0 := Aside0.mk (show Kd.R (Kd.int .i64) 3 _ _ _ _ (rd_LInt t512 x6_2) from ge525_0)
                           clear hv525_0 ge525_0
                           clear hcc525 hce525
                           have HR525_0 := Aside0.mk hi525_0
                           have HC525_0 := Aside0.mk hl525_0
                           clear hi525_0 hl525_0
                           replace p525 := eq_true p525
                           replace q525 := eq_true q525
                           have ea_ := Option.some.inj (hx524_0.symm.trans hx525_0)
                           injection ea_ with ea_ en_ ec_
                           subst ea_
                           subst ec_
                           clear en_
                           have p526 : 0 ≤ (x7_4 : Int) := of_decide_eq_true qA
                           have q526 : x7_4 < ((rd_LInt t512 x6_2).length : Int) := of_decide_eq_true qA
                           obtain ⟨ad526, e526, hx526_0⟩ := Kd.at_int (by repeat (first | (with_reducible exact HR525_0.out) | (with_reducible refine Kd.C_alloc ?_ _) | (with_reducible refine Kd.C_drewN ?_ _) | (with_reducible refine Kd.C_drew ?_) | exact HR525_0.out)) x7_4 p526 q526
                           cases e526
                           replace p526 := eq_true p526
                           replace q526 := eq_true q526
                           obtain ⟨Ao54, co54, eo54⟩ := Kd.R_slice HO_4.out
                           subst eo54
                           have p527 : 0 ≤ ((rd (rd_LInt t512 x6_2) x7_4) : Int) := of_decide_eq_true qA
                           have q527 : (rd (rd_LInt t512 x6_2) x7_4) < (x4_4.length : Int) := of_decide_eq_true qA
                           obtain ⟨ad527, e527, hx527_0⟩ := Kd.at_bool (Kd.R_reads' HO_4.out).2.2 (rd (rd_LInt t512 x6_2) x7_4) p527 q527
                           (try rw [← Nbq46.out] at hx527_0)
                           cases e527
                           replace p527 := eq_true p527
                           replace q527 := eq_true q527
                           have p528 : 0 ≤ (x6_2 : Int) := of_decide_eq_true qA
                           have q528 : x6_2 < (t512.length : Int) := of_decide_eq_true qA
                           obtain ⟨ad528, A528_0, c528_0, e528, hx528_0, hl528_0, hi528_0⟩ := at_LInt (Kd.S_reads' HO_3.out).2.2 x6_2 p528 q528
                           obtain rfl : ad524 = ad528 := (by injection e528)
                           obtain ⟨ce528, hce528, hMe528, hcc528⟩ := Kd.S_get HO_3.out [] x6_2 p528 (by first | exact q528 | exact of_decide_eq_true qA | (have e_ := (Kd.S_reads' HO_3.out).1; omega))
                           obtain ⟨ve528_0, rfl, ge528_0⟩ := hMe528
                           have hv528_0 := hcc528 0 _ rfl
                           rw [Nat.add_zero, show ((Kd.slice 3 (Kd.int .i64))).sz = 1 from rfl, Nat.mul_one] at hv528_0
                           replace hv528_0 := Option.some.inj (hv528_0.symm.trans hx528_0)
                           rw [hv528_0] at ge528_0
                           have HL528_0 := Aside0.mk (show Kd.R (Kd.int .i64) 3 _ _ _ _ (rd_LInt t512 x6_2) from ge528_0)
                           clear hv528_0 ge528_0
                           clear hcc528 hce528
                           have HR528_0 := Aside0.mk hi528_0
                           have HC528_0 := Aside0.mk hl528_0
                           clear hi528_0 hl528_0
                           replace p528 := eq_true p528
                           replace q528 := eq_true q528
                           have ea_ := Option.some.inj (hx524_0.symm.trans hx528_0)
                           injection ea_ with ea_ en_ ec_
                           subst ea_
                           subst ec_
                           clear en_
                           have p529 : 0 ≤ ((ji49) : Int) := of_decide_eq_true qA
                           have q529 : (ji49) < ((rd_LInt t512 x6_2).length : Int) := of_decide_eq_true qA
                           obtain ⟨ad529, e529, hx529_0⟩ := Kd.at_int (by repeat (first | (with_reducible exact HR528_0.out) | (with_reducible refine Kd.C_alloc ?_ _) | (with_reducible refine Kd.C_drewN ?_ _) | (with_reducible refine Kd.C_drew ?_) | exact HR528_0.out)) (ji49) p529 q529
                           cases e529
                           replace p529 := eq_true p529
                           replace q529 := eq_true q529
                           have p53 : 0 ≤ ((rd (rd_LInt t512 x6_2) x7_4) : Int) := of_decide_eq_true qA
                           have q53 : ((rd (rd_LInt t512 x6_2) x7_4) : Int) < ((x4_4.length : Int) : Int) := of_decide_eq_true qA
                           obtain ⟨go53, co53, eo53, gb53, gl53, cl53, HG53⟩ := Kd.R_form HO_4.out (by omega)
                           (first | cases eo53 | (injection eo53 with ea_ en_ ec_; (first | subst ea_ | (injection ea_ with ea_; subst ea_)); subst ec_; clear en_))
                           have GB53 := Aside0.mk gb53
                           have GG53 := Aside0.mk HG53
                           clear gb53 gl53 HG53
                           (first | simp only [add_plain] at hx527_0 | skip)
                           obtain ⟨hx53_0, hf53_0⟩ := Kd.R_celln false HO_4.out ((rd (rd_LInt t512 x6_2) x7_4) : Int) p53 q53
                           replace p53 := eq_true p53
                           replace q53 := eq_true q53
                           have HP55 := Kd.R_putg HO_4.out ((rd (rd_LInt t512 x6_2) x7_4) : Int) true
                           go_wp2_with (first | ((with_reducible refine gate_store (t := 4) (p := 112) rfl ?_); (try (rw [drewN_self wr]; generalize hq_ : World.drewN wr _ = wr; have n0_ := Aside0.mk (Kd.S_at hq_ HO_3.out); have n1_ := Aside0.mk (Kd.R_at hq_ HO_4.out); have n2_ := Aside0.mk (Kd.R_at hq_ HL524_0.out); have n3_ := Aside0.mk (Kd.R_at hq_ HL525_0.out); have n4_ := Aside0.mk (Kd.R_at hq_ HL528_0.out); have n5_ := Aside0.mk (blk_at hq_ BK509.out); have n6_ := Aside0.mk (below_at hq_ HB.out); clear hq_ HO_3 HO_4 HL524_0 HL525_0 HL528_0 BK509 HB; have HO_3 := n0_; have HO_4 := n1_; have HL524_0 := n2_; have HL525_0 := n3_; have HL528_0 := n4_; have BK509 := n5_; have HB := n6_; clear n0_ n1_ n2_ n3_ n4_ n5_ n6_; (try (have HP55 := Kd.R_putg HO_4.out ((rd (rd_LInt t512 x6_2) x7_4) : Int) true)))); refine store_event (t := 4) (p := 112) (v := ?vo_w56) (w1 := (wr.setCell ⟨go53, ((rd (rd_LInt t512 x6_2) x7_4) : Int).toNat, none⟩ (.bool true))) (by rfl) (by rfl) (by rfl) ?hr ?_; (case hr => first | (go_simp; done) | (go_simp; rfl)); intro w56 hw; have hg : wr.grownBy w56 (some go53) := (by rw [hw]; exact HP55.2); have hp_ : Kd.R Kd.bool 4 w56 w.heap.size (fun _ => True) (.slice (some ⟨go53, 0, none⟩) x4_4.length co54) y530 := (by rw [hw, Ny530.out]; exact HP55.1); clear HP55; replace HO_3 := Aside0.mk (Kd.S_over' (v := (.slice (some ⟨go53, 0, none⟩) x4_4.length co54)) (qS HO_3.out) (Kd.R_typed HO_4.out) (by decide) hg); replace BK509 := Aside0.mk (blk_grown (qK BK509.out) hg (Kd.R_ne HO_4.out BK509.out (by decide))); replace HL524_0 := Aside0.mk (Kd.R_over' (v := (.slice (some ⟨go53, 0, none⟩) x4_4.length co54)) (qR HL524_0.out) (Kd.R_typed HO_4.out) (by decide) hg); replace HL525_0 := Aside0.mk (Kd.R_over' (v := (.slice (some ⟨go53, 0, none⟩) x4_4.length co54)) (qR HL525_0.out) (Kd.R_typed HO_4.out) (by decide) hg); replace HL528_0 := Aside0.mk (Kd.R_over' (v := (.slice (some ⟨go53, 0, none⟩) x4_4.length co54)) (qR HL528_0.out) (Kd.R_typed HO_4.out) (by decide) hg); replace HO_4 := Aside0.mk (hp_); replace HB := Aside0.mk ((by rw [hw]; exact below_set (HB.out) GB53.out : Below w.heap.size w w56)); clear hg hw hp_))
                           repeat (go_quiet (first | ((with_reducible refine gate_store (t := 4) (p := 112) rfl ?_); (try (rw [drewN_self wr]; generalize hq_ : World.drewN wr _ = wr; have n0_ := Aside0.mk (Kd.S_at hq_ HO_3.out); have n1_ := Aside0.mk (Kd.R_at hq_ HO_4.out); have n2_ := Aside0.mk (Kd.R_at hq_ HL524_0.out); have n3_ := Aside0.mk (Kd.R_at hq_ HL525_0.out); have n4_ := Aside0.mk (Kd.R_at hq_ HL528_0.out); have n5_ := Aside0.mk (blk_at hq_ BK509.out); have n6_ := Aside0.mk (below_at hq_ HB.out); clear hq_ HO_3 HO_4 HL524_0 HL525_0 HL528_0 BK509 HB; have HO_3 := n0_; have HO_4 := n1_; have HL524_0 := n2_; have HL525_0 := n3_; have HL528_0 := n4_; have BK509 := n5_; have HB := n6_; clear n0_ n1_ n2_ n3_ n4_ n5_ n6_; (try (have HP55 := Kd.R_putg HO_4.out ((rd (rd_LInt t512 x6_2) x7_4) : Int) true)))); refine store_event (t := 4) (p := 112) (v := ?vo_w56) (w1 := (wr.setCell ⟨go53, ((rd (rd_LInt t512 x6_2) x7_4) : Int).toNat, none⟩ (.bool true))) (by rfl) (by rfl) (by rfl) ?hr ?_; (case hr => first | (go_simp; done) | (go_simp; rfl)); intro w56 hw; have hg : wr.grownBy w56 (some go53) := (by rw [hw]; exact HP55.2); have hp_ : Kd.R Kd.bool 4 w56 w.heap.size (fun _ => True) (.slice (some ⟨go53, 0, none⟩) x4_4.length co54) y530 := (by rw [hw, Ny530.out]; exact HP55.1); clear HP55; replace HO_3 := Aside0.mk (Kd.S_over' (v := (.slice (some ⟨go53, 0, none⟩) x4_4.length co54)) (qS HO_3.out) (Kd.R_typed HO_4.out) (by decide) hg); replace BK509 := Aside0.mk (blk_grown (qK BK509.out) hg (Kd.R_ne HO_4.out BK509.out (by decide))); replace HL524_0 := Aside0.mk (Kd.R_over' (v := (.slice (some ⟨go53, 0, none⟩) x4_4.length co54)) (qR HL524_0.out) (Kd.R_typed HO_4.out) (by decide) hg); replace HL525_0 := Aside0.mk (Kd.R_over' (v := (.slice (some ⟨go53, 0, none⟩) x4_4.length co54)) (qR HL525_0.out) (Kd.R_typed HO_4.out) (by decide) hg); replace HL528_0 := Aside0.mk (Kd.R_over' (v := (.slice (some ⟨go53, 0, none⟩) x4_4.length co54)) (qR HL528_0.out) (Kd.R_typed HO_4.out) (by decide) hg); replace HO_4 := Aside0.mk (hp_); replace HB := Aside0.mk ((by rw [hw]; exact below_set (HB.out) GB53.out : Below w.heap.size w w56)); clear hg hw hp_)); try go_wp2_with (first | ((with_reducible refine gate_store (t := 4) (p := 112) rfl ?_); (try (rw [drewN_self wr]; generalize hq_ : World.drewN wr _ = wr; have n0_ := Aside0.mk (Kd.S_at hq_ HO_3.out); have n1_ := Aside0.mk (Kd.R_at hq_ HO_4.out); have n2_ := Aside0.mk (Kd.R_at hq_ HL524_0.out); have n3_ := Aside0.mk (Kd.R_at hq_ HL525_0.out); have n4_ := Aside0.mk (Kd.R_at hq_ HL528_0.out); have n5_ := Aside0.mk (blk_at hq_ BK509.out); have n6_ := Aside0.mk (below_at hq_ HB.out); clear hq_ HO_3 HO_4 HL524_0 HL525_0 HL528_0 BK509 HB; have HO_3 := n0_; have HO_4 := n1_; have HL524_0 := n2_; have HL525_0 := n3_; have HL528_0 := n4_; have BK509 := n5_; have HB := n6_; clear n0_ n1_ n2_ n3_ n4_ n5_ n6_; (try (have HP55 := Kd.R_putg HO_4.out ((rd (rd_LInt t512 x6_2) x7_4) : Int) true)))); refine store_event (t := 4) (p := 112) (v := ?vo_w56) (w1 := (wr.setCell ⟨go53, ((rd (rd_LInt t512 x6_2) x7_4) : Int).toNat, none⟩ (.bool true))) (by rfl) (by rfl) (by rfl) ?hr ?_; (case hr => first | (go_simp; done) | (go_simp; rfl)); intro w56 hw; have hg : wr.grownBy w56 (some go53) := (by rw [hw]; exact HP55.2); have hp_ : Kd.R Kd.bool 4 w56 w.heap.size (fun _ => True) (.slice (some ⟨go53, 0, none⟩) x4_4.length co54) y530 := (by rw [hw, Ny530.out]; exact HP55.1); clear HP55; replace HO_3 := Aside0.mk (Kd.S_over' (v := (.slice (some ⟨go53, 0, none⟩) x4_4.length co54)) (qS HO_3.out) (Kd.R_typed HO_4.out) (by decide) hg); replace BK509 := Aside0.mk (blk_grown (qK BK509.out) hg (Kd.R_ne HO_4.out BK509.out (by decide))); replace HL524_0 := Aside0.mk (Kd.R_over' (v := (.slice (some ⟨go53, 0, none⟩) x4_4.length co54)) (qR HL524_0.out) (Kd.R_typed HO_4.out) (by decide) hg); replace HL525_0 := Aside0.mk (Kd.R_over' (v := (.slice (some ⟨go53, 0, none⟩) x4_4.length co54)) (qR HL525_0.out) (Kd.R_typed HO_4.out) (by decide) hg); replace HL528_0 := Aside0.mk (Kd.R_over' (v := (.slice (some ⟨go53, 0, none⟩) x4_4.length co54)) (qR HL528_0.out) (Kd.R_typed HO_4.out) (by decide) hg); replace HO_4 := Aside0.mk (hp_); replace HB := Aside0.mk ((by rw [hw]; exact below_set (HB.out) GB53.out : Below w.heap.size w w56)); clear hg hw hp_)))
                           go_roundg k4
                           case measure => have := HJ9.out; have := HK2.out; have := HJ30.out; have := HK4.out; omega
                           case rel => exact ⟨(y530), (wrap64 (x5_4 + 1)), (wrap64 (x7_4 + 1)), qT, qT, H', ⟨by have := HJ9.out; have := HK2.out; have := HJ30.out; have := HK4.out; omega⟩, ⟨qS HO_3.out⟩, ⟨qR HO_4.out⟩, ⟨qK BK509.out⟩, ⟨qB⟩⟩
                          ·rw [if_neg c52] at H
                           obtain ⟨c52b0, c52b1⟩ := qn c52
                           exact absurd ((Option.some.inj H).trans HRt.out) (by decide)
                         ·rw [if_neg c51] at H
                          exact absurd H (by simp)
                        ·rw [if_neg c50] at H
                         exact absurd H (by simp)
                       ·rw [if_neg c48] at H
                        have c48b0 : decide (0 < x7_4) = false := decide_eq_false c48
                        clear c48
                        obtain ⟨y531, hy531⟩ : ∃ y_ : List Bool, y_ = (x4_4.set ((rd (rd_LInt t512 x6_2) x7_4) : Int).toNat true) := ⟨_, rfl⟩
                        replace H : (cubbylaw12_SpanNumbers.l1 k4 t512 y531 (wrap64 (x5_4 + 1)) x6_2 (wrap64 (x7_4 + 1)) a0_0 a0_1 a0_2 l0_3) = some r := by first | (rw [hy531]; with_reducible exact H) | (have H2_ := (Option.bind_some _ _).symm.trans H; rw [hy531]; with_reducible exact H2_) | (have H2_ := (Option.bind_some _ _).symm.trans H; with_reducible exact H2_) | with_reducible exact H | (rw [hy531]; exact H) | exact H
                        have Ny531 := Aside0.mk hy531
                        clear hy531
                        have H' := Aside0.mk H
                        clear H
                        have p524 : 0 ≤ (x6_2 : Int) := of_decide_eq_true qA
                        have q524 : x6_2 < (t512.length : Int) := of_decide_eq_true qA
                        obtain ⟨ad524, A524_0, c524_0, e524, hx524_0, hl524_0, hi524_0⟩ := at_LInt (Kd.S_reads' HO_3.out).2.2 x6_2 p524 q524
                        cases e524
                        obtain ⟨ce524, hce524, hMe524, hcc524⟩ := Kd.S_get HO_3.out [] x6_2 p524 (by first | exact q524 | exact of_decide_eq_true qA | (have e_ := (Kd.S_reads' HO_3.out).1; omega))
                        obtain ⟨ve524_0, rfl, ge524_0⟩ := hMe524
                        have hv524_0 := hcc524 0 _ rfl
                        rw [Nat.add_zero, show ((Kd.slice 3 (Kd.int .i64))).sz = 1 from rfl, Nat.mul_one] at hv524_0
                        replace hv524_0 := Option.some.inj (hv524_0.symm.trans hx524_0)
                        rw [hv524_0] at ge524_0
                        have HL524_0 := Aside0.mk (show Kd.R (Kd.int .i64) 3 _ _ _ _ (rd_LInt t512 x6_2) from ge524_0)
                        clear hv524_0 ge524_0
                        clear hcc524 hce524
                        have HR524_0 := Aside0.mk hi524_0
                        have HC524_0 := Aside0.mk hl524_0
                        clear hi524_0 hl524_0
                        replace p524 := eq_true p524
                        replace q524 := eq_true q524
                        have p525 : 0 ≤ (x6_2 : Int) := of_decide_eq_true qA
                        have q525 : x6_2 < (t512.length : Int) := of_decide_eq_true qA
                        obtain ⟨ad525, A525_0, c525_0, e525, hx525_0, hl525_0, hi525_0⟩ := at_LInt (Kd.S_reads' HO_3.out).2.2 x6_2 p525 q525
                        obtain rfl : ad524 = ad525 := (by injection e525)
                        obtain ⟨ce525, hce525, hMe525, hcc525⟩ := Kd.S_get HO_3.out [] x6_2 p525 (by first | exact q525 | exact of_decide_eq_true qA | (have e_ := (Kd.S_reads' HO_3.out).1; omega))
                        obtain ⟨ve525_0, rfl, ge525_0⟩ := hMe525
                        have hv525_0 := hcc525 0 _ rfl
                        rw [Nat.add_zero, show ((Kd.slice 3 (Kd.int .i64))).sz = 1 from rfl, Nat.mul_one] at hv525_0
                        replace hv525_0 := Option.some.inj (hv525_0.symm.trans hx525_0)
                        rw [hv525_0] at ge525_0
                        have HL525_0 := Aside0.mk (show Kd.R (Kd.int .i64) 3 _ _ _ _ (rd_LInt t512 x6_2) from ge525_0)
                        clear hv525_0 ge525_0
                        clear hcc525 hce525
                        have HR525_0 := Aside0.mk hi525_0
                        have HC525_0 := Aside0.mk hl525_0
                        clear hi525_0 hl525_0
                        replace p525 := eq_true p525
                        replace q525 := eq_true q525
                        have ea_ := Option.some.inj (hx524_0.symm.trans hx525_0)
                        injection ea_ with ea_ en_ ec_
                        subst ea_
                        subst ec_
                        clear en_
                        have p526 : 0 ≤ (x7_4 : Int) := of_decide_eq_true qA
                        have q526 : x7_4 < ((rd_LInt t512 x6_2).length : Int) := of_decide_eq_true qA
                        obtain ⟨ad526, e526, hx526_0⟩ := Kd.at_int (by repeat (first | (with_reducible exact HR525_0.out) | (with_reducible refine Kd.C_alloc ?_ _) | (with_reducible refine Kd.C_drewN ?_ _) | (with_reducible refine Kd.C_drew ?_) | exact HR525_0.out)) x7_4 p526 q526
                        cases e526
                        replace p526 := eq_true p526
                        replace q526 := eq_true q526
                        obtain ⟨Ao58, co58, eo58⟩ := Kd.R_slice HO_4.out
                        subst eo58
                        have p527 : 0 ≤ ((rd (rd_LInt t512 x6_2) x7_4) : Int) := of_decide_eq_true qA
                        have q527 : (rd (rd_LInt t512 x6_2) x7_4) < (x4_4.length : Int) := of_decide_eq_true qA
                        obtain ⟨ad527, e527, hx527_0⟩ := Kd.at_bool (Kd.R_reads' HO_4.out).2.2 (rd (rd_LInt t512 x6_2) x7_4) p527 q527
                        (try rw [← Nbq46.out] at hx527_0)
                        cases e527
                        replace p527 := eq_true p527
                        replace q527 := eq_true q527
                        have p57 : 0 ≤ ((rd (rd_LInt t512 x6_2) x7_4) : Int) := of_decide_eq_true qA
                        have q57 : ((rd (rd_LInt t512 x6_2) x7_4) : Int) < ((x4_4.length : Int) : Int) := of_decide_eq_true qA
                        obtain ⟨go57, co57, eo57, gb57, gl57, cl57, HG57⟩ := Kd.R_form HO_4.out (by omega)
                        (first | cases eo57 | (injection eo57 with ea_ en_ ec_; (first | subst ea_ | (injection ea_ with ea_; subst ea_)); subst ec_; clear en_))
                        have GB57 := Aside0.mk gb57
                        have GG57 := Aside0.mk HG57
                        clear gb57 gl57 HG57
                        (first | simp only [add_plain] at hx527_0 | skip)
                        obtain ⟨hx57_0, hf57_0⟩ := Kd.R_celln false HO_4.out ((rd (rd_LInt t512 x6_2) x7_4) : Int) p57 q57
                        replace p57 := eq_true p57
                        replace q57 := eq_true q57
                        have HP59 := Kd.R_putg HO_4.out ((rd (rd_LInt t512 x6_2) x7_4) : Int) true
                        go_wp2_with (first | ((with_reducible refine gate_store (t := 4) (p := 112) rfl ?_); (try (rw [drewN_self wr]; generalize hq_ : World.drewN wr _ = wr; have n0_ := Aside0.mk (Kd.S_at hq_ HO_3.out); have n1_ := Aside0.mk (Kd.R_at hq_ HO_4.out); have n2_ := Aside0.mk (Kd.R_at hq_ HL524_0.out); have n3_ := Aside0.mk (Kd.R_at hq_ HL525_0.out); have n4_ := Aside0.mk (blk_at hq_ BK509.out); have n5_ := Aside0.mk (below_at hq_ HB.out); clear hq_ HO_3 HO_4 HL524_0 HL525_0 BK509 HB; have HO_3 := n0_; have HO_4 := n1_; have HL524_0 := n2_; have HL525_0 := n3_; have BK509 := n4_; have HB := n5_; clear n0_ n1_ n2_ n3_ n4_ n5_; (try (have HP59 := Kd.R_putg HO_4.out ((rd (rd_LInt t512 x6_2) x7_4) : Int) true)))); refine store_event (t := 4) (p := 112) (v := ?vo_w60) (w1 := (wr.setCell ⟨go57, ((rd (rd_LInt t512 x6_2) x7_4) : Int).toNat, none⟩ (.bool true))) (by rfl) (by rfl) (by rfl) ?hr ?_; (case hr => first | (go_simp; done) | (go_simp; rfl)); intro w60 hw; have hg : wr.grownBy w60 (some go57) := (by rw [hw]; exact HP59.2); have hp_ : Kd.R Kd.bool 4 w60 w.heap.size (fun _ => True) (.slice (some ⟨go57, 0, none⟩) x4_4.length co58) y531 := (by rw [hw, Ny531.out]; exact HP59.1); clear HP59; replace HO_3 := Aside0.mk (Kd.S_over' (v := (.slice (some ⟨go57, 0, none⟩) x4_4.length co58)) (qS HO_3.out) (Kd.R_typed HO_4.out) (by decide) hg); replace BK509 := Aside0.mk (blk_grown (qK BK509.out) hg (Kd.R_ne HO_4.out BK509.out (by decide))); replace HL524_0 := Aside0.mk (Kd.R_over' (v := (.slice (some ⟨go57, 0, none⟩) x4_4.length co58)) (qR HL524_0.out) (Kd.R_typed HO_4.out) (by decide) hg); replace HL525_0 := Aside0.mk (Kd.R_over' (v := (.slice (some ⟨go57, 0, none⟩) x4_4.length co58)) (qR HL525_0.out) (Kd.R_typed HO_4.out) (by decide) hg); replace HO_4 := Aside0.mk (hp_); replace HB := Aside0.mk ((by rw [hw]; exact below_set (HB.out) GB57.out : Below w.heap.size w w60)); clear hg hw hp_))
                        repeat (go_quiet (first | ((with_reducible refine gate_store (t := 4) (p := 112) rfl ?_); (try (rw [drewN_self wr]; generalize hq_ : World.drewN wr _ = wr; have n0_ := Aside0.mk (Kd.S_at hq_ HO_3.out); have n1_ := Aside0.mk (Kd.R_at hq_ HO_4.out); have n2_ := Aside0.mk (Kd.R_at hq_ HL524_0.out); have n3_ := Aside0.mk (Kd.R_at hq_ HL525_0.out); have n4_ := Aside0.mk (blk_at hq_ BK509.out); have n5_ := Aside0.mk (below_at hq_ HB.out); clear hq_ HO_3 HO_4 HL524_0 HL525_0 BK509 HB; have HO_3 := n0_; have HO_4 := n1_; have HL524_0 := n2_; have HL525_0 := n3_; have BK509 := n4_; have HB := n5_; clear n0_ n1_ n2_ n3_ n4_ n5_; (try (have HP59 := Kd.R_putg HO_4.out ((rd (rd_LInt t512 x6_2) x7_4) : Int) true)))); refine store_event (t := 4) (p := 112) (v := ?vo_w60) (w1 := (wr.setCell ⟨go57, ((rd (rd_LInt t512 x6_2) x7_4) : Int).toNat, none⟩ (.bool true))) (by rfl) (by rfl) (by rfl) ?hr ?_; (case hr => first | (go_simp; done) | (go_simp; rfl)); intro w60 hw; have hg : wr.grownBy w60 (some go57) := (by rw [hw]; exact HP59.2); have hp_ : Kd.R Kd.bool 4 w60 w.heap.size (fun _ => True) (.slice (some ⟨go57, 0, none⟩) x4_4.length co58) y531 := (by rw [hw, Ny531.out]; exact HP59.1); clear HP59; replace HO_3 := Aside0.mk (Kd.S_over' (v := (.slice (some ⟨go57, 0, none⟩) x4_4.length co58)) (qS HO_3.out) (Kd.R_typed HO_4.out) (by decide) hg); replace BK509 := Aside0.mk (blk_grown (qK BK509.out) hg (Kd.R_ne HO_4.out BK509.out (by decide))); replace HL524_0 := Aside0.mk (Kd.R_over' (v := (.slice (some ⟨go57, 0, none⟩) x4_4.length co58)) (qR HL524_0.out) (Kd.R_typed HO_4.out) (by decide) hg); replace HL525_0 := Aside0.mk (Kd.R_over' (v := (.slice (some ⟨go57, 0, none⟩) x4_4.length co58)) (qR HL525_0.out) (Kd.R_typed HO_4.out) (by decide) hg); replace HO_4 := Aside0.mk (hp_); replace HB := Aside0.mk ((by rw [hw]; exact below_set (HB.out) GB57.out : Below w.heap.size w w60)); clear hg hw hp_)); try go_wp2_with (first | ((with_reducible refine gate_store (t := 4) (p := 112) rfl ?_); (try (rw [drewN_self wr]; generalize hq_ : World.drewN wr _ = wr; have n0_ := Aside0.mk (Kd.S_at hq_ HO_3.out); have n1_ := Aside0.mk (Kd.R_at hq_ HO_4.out); have n2_ := Aside0.mk (Kd.R_at hq_ HL524_0.out); have n3_ := Aside0.mk (Kd.R_at hq_ HL525_0.out); have n4_ := Aside0.mk (blk_at hq_ BK509.out); have n5_ := Aside0.mk (below_at hq_ HB.out); clear hq_ HO_3 HO_4 HL524_0 HL525_0 BK509 HB; have HO_3 := n0_; have HO_4 := n1_; have HL524_0 := n2_; have HL525_0 := n3_; have BK509 := n4_; have HB := n5_; clear n0_ n1_ n2_ n3_ n4_ n5_; (try (have HP59 := Kd.R_putg HO_4.out ((rd (rd_LInt t512 x6_2) x7_4) : Int) true)))); refine store_event (t := 4) (p := 112) (v := ?vo_w60) (w1 := (wr.setCell ⟨go57, ((rd (rd_LInt t512 x6_2) x7_4) : Int).toNat, none⟩ (.bool true))) (by rfl) (by rfl) (by rfl) ?hr ?_; (case hr => first | (go_simp; done) | (go_simp; rfl)); intro w60 hw; have hg : wr.grownBy w60 (some go57) := (by rw [hw]; exact HP59.2); have hp_ : Kd.R Kd.bool 4 w60 w.heap.size (fun _ => True) (.slice (some ⟨go57, 0, none⟩) x4_4.length co58) y531 := (by rw [hw, Ny531.out]; exact HP59.1); clear HP59; replace HO_3 := Aside0.mk (Kd.S_over' (v := (.slice (some ⟨go57, 0, none⟩) x4_4.length co58)) (qS HO_3.out) (Kd.R_typed HO_4.out) (by decide) hg); replace BK509 := Aside0.mk (blk_grown (qK BK509.out) hg (Kd.R_ne HO_4.out BK509.out (by decide))); replace HL524_0 := Aside0.mk (Kd.R_over' (v := (.slice (some ⟨go57, 0, none⟩) x4_4.length co58)) (qR HL524_0.out) (Kd.R_typed HO_4.out) (by decide) hg); replace HL525_0 := Aside0.mk (Kd.R_over' (v := (.slice (some ⟨go57, 0, none⟩) x4_4.length co58)) (qR HL525_0.out) (Kd.R_typed HO_4.out) (by decide) hg); replace HO_4 := Aside0.mk (hp_); replace HB := Aside0.mk ((by rw [hw]; exact below_set (HB.out) GB57.out : Below w.heap.size w w60)); clear hg hw hp_)))
                        go_roundg k4
                        case measure => have := HJ9.out; have := HK2.out; have := HJ30.out; have := HK4.out; omega
                        case rel => exact ⟨(y531), (wrap64 (x5_4 + 1)), (wrap64 (x7_4 + 1)), qT, qT, H', ⟨by have := HJ9.out; have := HK2.out; have := HJ30.out; have := HK4.out; omega⟩, ⟨qS HO_3.out⟩, ⟨qR HO_4.out⟩, ⟨qK BK509.out⟩, ⟨qB⟩⟩
                     ·rw [if_neg c45] at H
                      exact absurd H (by simp)
                    ·rw [if_neg c44] at H
                     exact absurd H (by simp)
                 ·rw [if_neg c41] at H
                  exact absurd H (by simp)
                ·rw [if_neg c40] at H
                 have c40b0 := decide_eq_false c40
                 clear c40
                 have H' := Aside0.mk H
                 clear H
                 have p524 : 0 ≤ (x6_2 : Int) := of_decide_eq_true qA
                 have q524 : x6_2 < (t512.length : Int) := of_decide_eq_true qA
                 obtain ⟨ad524, A524_0, c524_0, e524, hx524_0, hl524_0, hi524_0⟩ := at_LInt (Kd.S_reads' HO_3.out).2.2 x6_2 p524 q524
                 cases e524
                 obtain ⟨ce524, hce524, hMe524, hcc524⟩ := Kd.S_get HO_3.out [] x6_2 p524 (by first | exact q524 | exact of_decide_eq_true qA | (have e_ := (Kd.S_reads' HO_3.out).1; omega))
                 obtain ⟨ve524_0, rfl, ge524_0⟩ := hMe524
                 have hv524_0 := hcc524 0 _ rfl
                 rw [Nat.add_zero, show ((Kd.slice 3 (Kd.int .i64))).sz = 1 from rfl, Nat.mul_one] at hv524_0
                 replace hv524_0 := Option.some.inj (hv524_0.symm.trans hx524_0)
                 rw [hv524_0] at ge524_0
                 have HL524_0 := Aside0.mk (show Kd.R (Kd.int .i64) 3 _ _ _ _ (rd_LInt t512 x6_2) from ge524_0)
                 clear hv524_0 ge524_0
                 clear hcc524 hce524
                 have HR524_0 := Aside0.mk hi524_0
                 have HC524_0 := Aside0.mk hl524_0
                 clear hi524_0 hl524_0
                 replace p524 := eq_true p524
                 replace q524 := eq_true q524
                 go_wp2
                 repeat (go_quiet (fail); try go_wp2)
                 go_roundg k4
                 case measure => have := HJ9.out; have := HK2.out; have := HJ30.out; have := HK4.out; omega
                 case rel => exact ⟨(x4_4), (x5_4), (wrap64 (x6_2 + 1)), qT, qT, H', ⟨by have := HJ9.out; have := HK2.out; have := HJ30.out; have := HK4.out; omega⟩, ⟨qS HO_3.out⟩, ⟨qR HO_4.out⟩, ⟨qK BK509.out⟩, ⟨qB⟩⟩
               ·rw [if_neg c39] at H
                exact absurd H (by simp)
              ·rw [if_neg c38] at H
               exact absurd H (by simp)
        ·rw [if_neg c30] at H
         have c30b0 := decide_eq_false c30
         clear c30
         have H' := Aside0.mk H
         clear H
         obtain ⟨Ao61, co61, eo61⟩ := Kd.S_slice HO_3.out
         subst eo61
         go_wp2
         repeat (go_quiet (fail); try go_wp2)
         go_loopg [9] k2 (fun kq v9 w' => ∃ (x9_3 : Int), v9 = .int .i64 x9_3 ∧ Aside0 (cubbylaw12_SpanNumbers.l2 kq x4_2 x5_2 x9_3 = some r) ∧ Aside0 (kq ≤ k2) ∧ Aside0 (Kd.R Kd.bool 4 w' w.heap.size (fun _ => True) v519 x4_2) ∧ Aside0 (w'.heap[gb509]? = some (.cells #[.string a0_0, .int .i64 a0_1, .int .i64 a0_2, (.slice A0_3 l0_3.length c0_3)] 34 (0, 0))) ∧ Aside0 (Below w.heap.size w w'))
         case atStart => exact ⟨(1), qT, H', ⟨Nat.le_refl _⟩, ⟨qR HO_4.out⟩, ⟨qK BK509.out⟩, ⟨qB⟩⟩
         case round =>
          clear H'
          try clear c1; try clear c2; try clear p2; try clear c3; try clear c4; try clear q4; try clear c5; try clear p5; try clear q5; try clear hx5; try clear qi5; try clear hf5; try clear p6; try clear c10; try clear c16; try clear c16b0 c16b1 c16b2; try clear c17; try clear c17b0 c17b1; try clear c18; try clear c18b0 c18b1 c18b2; try clear c21; try clear c21b0 c21b1; try clear c26; try clear c27; try clear c27b0 c27b1; try clear c30; try clear c30b0; try clear c33; try clear c33b0; try clear c34; try clear c34b0 c34b1 c34b2; try clear c35; try clear c35b0; try clear c37; try clear c38; try clear c38b0; try clear c39; try clear c39b0; try clear c40; try clear c40b0; try clear c41; try clear c41b0; try clear c42; try clear c42b0; try clear c43; try clear c43b0; try clear c44; try clear c44b0; try clear c45; try clear c45b0; try clear q46; try clear c47; try clear c48; try clear c48b0; try clear c50; try clear c50b0; try clear c51; try clear c51b0; try clear p51; try clear q51; try clear hx51; try clear c52; try clear c52b0 c52b1; try clear p52; try clear q52; try clear hx52; try clear p53; try clear q53; try clear hx53; try clear hf53; try clear p57; try clear q57; try clear hx57; try clear hf57; try clear hcz12_0 hcz12_1 hcz12_2 hcz12_3 hfz12_0 hfz12_1 hfz12_2 hfz12_3; try clear hcz14_0 hcz14_1 hcz14_2 hcz14_3 hfz14_0 hfz14_1 hfz14_2 hfz14_3; try clear hcz20_0 hcz20_1 hcz20_2 hcz20_3 hfz20_0 hfz20_1 hfz20_2 hfz20_3; try clear hcz23_0 hcz23_1 hcz23_2 hcz23_3 hfz23_0 hfz23_1 hfz23_2 hfz23_3; try clear hcz25_0 hcz25_1 hcz25_2 hcz25_3 hfz25_0 hfz25_1 hfz25_2 hfz25_3; try clear hcz36_0 hcz36_1 hcz36_2 hcz36_3 hfz36_0 hfz36_1 hfz36_2 hfz36_3; try clear hcz6_0 hcz6_1 hcz6_2 hcz6_3 hfz6_0 hfz6_1 hfz6_2 hfz6_3; try clear hx515_0; try clear hx516_0; try clear hx517_0; try clear hx521_0; try clear hx522_0; try clear hx523_0; try clear hx524_0; try clear hx525_0; try clear hx526_0; try clear hx527_0; try clear hx528_0; try clear hx529_0; try clear hx53_0; try clear hx57_0; try clear p515; try clear p516; try clear p517; try clear p521; try clear p522; try clear p523; try clear p524; try clear p525; try clear p526; try clear p527; try clear p528; try clear p529; try clear q515; try clear q516; try clear q517; try clear q521; try clear q522; try clear q523; try clear q524; try clear q525; try clear q526; try clear q527; try clear q528; try clear q529
          obtain ⟨x9_3, rfl, HA, HK3, HO_4, BK509, HB⟩ := hrel
          cases gk with
          | zero => exact absurd HA.out (by simp [cubbylaw12_SpanNumbers.l2])
          | succ k3 =>
           have H := HA.out
           clear HA
           simp only [cubbylaw12_SpanNumbers.l2] at H
           by_cases c62 : x9_3 ≤ x5_2
           ·rw [if_pos c62] at H
            have c62b0 := decide_eq_true c62
            clear c62
            by_cases c63 : 0 ≤ x9_3
            ·rw [if_pos c63] at H
             have c63b0 := decide_eq_true c63
             clear c63
             by_cases c64 : x9_3 < (x4_2.length : Int)
             ·rw [if_pos c64] at H
              have c64b0 := decide_eq_true c64
              clear c64
              obtain ⟨bq65, hbq65⟩ : ∃ b_ : Bool, b_ = (rdOf false x4_2 x9_3) := ⟨_, rfl⟩
              replace H : (if bq65 = true then (cubbylaw12_SpanNumbers.l2 k3 x4_2 x5_2 (wrap64 (x9_3 + 1))) else (some false)) = some r := by rw [← hbq65] at H; exact H
              have Nbq65 := Aside0.mk hbq65
              clear hbq65
              by_cases c66 : bq65 = true
              ·subst c66
               have H1 : (cubbylaw12_SpanNumbers.l2 k3 x4_2 x5_2 (wrap64 (x9_3 + 1))) = some r := by rw [if_pos rfl] at H; exact H
               clear H
               have H := H1
               clear H1
               have H' := Aside0.mk H
               clear H
               obtain ⟨Ao67, co67, eo67⟩ := Kd.R_slice HO_4.out
               subst eo67
               have p532 : 0 ≤ (x9_3 : Int) := of_decide_eq_true qA
               have q532 : x9_3 < (x4_2.length : Int) := of_decide_eq_true qA
               obtain ⟨ad532, e532, hx532_0⟩ := Kd.at_bool (Kd.R_reads' HO_4.out).2.2 x9_3 p532 q532
               (try rw [← Nbq65.out] at hx532_0)
               cases e532
               replace p532 := eq_true p532
               replace q532 := eq_true q532
               go_wp2
               repeat (go_quiet (fail); try go_wp2)
               go_roundg k3
               case measure => have := HJ9.out; have := HK2.out; have := HK3.out; omega
               case rel => exact ⟨(wrap64 (x9_3 + 1)), qT, H', ⟨by have := HJ9.out; have := HK2.out; have := HK3.out; omega⟩, ⟨qR HO_4.out⟩, ⟨qK BK509.out⟩, ⟨qB⟩⟩
              ·replace c66 := Bool.eq_false_iff.mpr c66
               subst c66
               have H1 : (some false) = some r := by rw [if_neg (show ¬ (false = true) by decide)] at H; exact H
               clear H
               have H := H1
               clear H1
               exact absurd ((Option.some.inj H).trans HRt.out) (by decide)
             ·rw [if_neg c64] at H
              exact absurd H (by simp)
            ·rw [if_neg c63] at H
             exact absurd H (by simp)
           ·rw [if_neg c62] at H
            have c62b0 := decide_eq_false c62
            clear c62
            obtain rfl := Option.some.inj H
            go_wp2
            repeat (go_quiet (fail); try go_wp2)
            go_ret
            exact ⟨qE, qB⟩
     ·rw [if_neg c27] at H
      exact absurd H (by simp)

end Go.Proofs.YtebnnknijbgekaaDoor.Q
namespace Go.Proofs.YtebnnknijbgekaaDoor.RSpanNumbers
open Go Go.RowKit Go.Proofs.YtebnnknijbgekaaDoorW.PrintWords Go.Proofs.YtebnnknijbgekaaDoor.Q
set_option linter.unusedVariables false
def GIns (x : SIns) : Prop := (Lit.int .i64 (x.f0)).wf = true ∧ (Lit.int .i64 (x.f1)).wf = true ∧ (Lit.int .i64 (x.f2)).wf = true ∧ (Lit.int .i64 (x.f3)).wf = true ∧ (x.f4).size ≤ 140737488351232 ∧ ((x.f5).length * 8 ≤ 140737488351232 ∧ (x.f5).length ≤ maxLen ∧ ∀ y1 ∈ (x.f5), (Lit.int .i64 (y1)).wf = true)
def SpanNumbers.Pure : Prop := ∀ (a0_0 : ByteArray) (a0_1 : Int) (a0_2 : Int) (l0_3 : List (List (SIns))), (a0_0).size ≤ 140737488351232 → (Lit.int .i64 (a0_1)).wf = true → (Lit.int .i64 (a0_2)).wf = true → ((l0_3).length * 24 ≤ 140737488351232 ∧ (l0_3).length ≤ maxLen ∧ ∀ y1 ∈ (l0_3), ((y1).length * 72 ≤ 140737488351232 ∧ (y1).length ≤ maxLen ∧ ∀ y2 ∈ (y1), GIns (y2))) → ∃ k, cubbylaw12_SpanNumbers.f k a0_0 a0_1 a0_2 l0_3 = some true
end Go.Proofs.YtebnnknijbgekaaDoor.RSpanNumbers
namespace Go.Proofs.YtebnnknijbgekaaDoor.Plain
open Go Go.RowKit Go.Proofs.YtebnnknijbgekaaDoorW.PrintWords Go.Proofs.YtebnnknijbgekaaDoorW.PrintMore

theorem wrap_nat {j : Nat} (h : j ≤ 4611686018427387904) : wrap64 ((j : Int) + 1) = ((j + 1 : Nat) : Int) := by
  unfold wrap64
  omega
theorem wrap_pred {j : Nat} (h0 : 0 < j) (h : j ≤ 4611686018427387904) : wrap64 ((j : Int) - 1) = ((j - 1 : Nat) : Int) := by
  unfold wrap64
  omega
theorem wrap_id {i : Int} (h0 : -4611686018427387904 ≤ i) (h : i ≤ 4611686018427387904) : wrap64 i = i := by
  unfold wrap64
  omega
theorem rd_nat (l : List Int) (j : Nat) : rd l (j : Int) = l.getD j 0 := rfl
theorem rd_get {l : List Int} {j : Nat} (h : j < l.length) : rd l (j : Int) = l[j] := by
  rw [rd_nat, List.getD_eq_getElem?_getD, List.getElem?_eq_getElem h]
  rfl
theorem rd_int {l : List Int} {i : Int} (h0 : 0 ≤ i) (h : i < l.length) : ∃ hj : i.toNat < l.length, rd l i = l[i.toNat] := by
  have hj : i.toNat < l.length := by omega
  refine ⟨hj, ?_⟩
  show l.getD i.toNat 0 = _
  rw [List.getD_eq_getElem?_getD, List.getElem?_eq_getElem hj]
  rfl
theorem drop_cons {α : Type} {l : List α} {j : Nat} (h : j < l.length) : l.drop j = l[j] :: l.drop (j + 1) := by
  rw [List.drop_eq_getElem_cons h]
theorem i64_range {n : Int} (h : (Lit.int .i64 n).wf = true) : -9223372036854775808 ≤ n ∧ n ≤ 9223372036854775807 := by
  have := bounds_i64 h
  omega
theorem loop_eq (bs : ByteArray) : ∀ (n i : Nat) (r : List UInt8), bs.size - i = n → ByteArray.toList.loop bs i r = r.reverse ++ bs.data.toList.drop i := by
  intro n
  induction n with
  | zero =>
    intro i r h
    unfold ByteArray.toList.loop
    rw [if_neg (by omega), List.drop_eq_nil_of_le (by simp; have : bs.data.size = bs.size := rfl; omega), List.append_nil]
  | succ n ih =>
    intro i r h
    unfold ByteArray.toList.loop
    have hs : bs.data.size = bs.size := rfl
    rw [if_pos (by omega), ih (i + 1) _ (by omega), List.drop_eq_getElem_cons (i := i) (by simp; omega)]
    have : bs.get! i = bs.data.toList[i]'(by simp; omega) := by
      show bs.data[i]! = _
      rw [getElem!_pos bs.data i (by omega)]
      simp
    rw [this]
    simp
/-- A string's bytes as a list, by either road. -/
theorem toList_data (bs : ByteArray) : bs.toList = bs.data.toList := by
  unfold ByteArray.toList
  rw [loop_eq bs _ 0 [] rfl]
  simp
theorem toList_inj {a b : ByteArray} : a.toList = b.toList ↔ a = b := by
  rw [toList_data, toList_data]
  constructor
  · intro h
    cases a
    cases b
    simp at h
    rw [h]
  · rintro rfl
    rfl
end Go.Proofs.YtebnnknijbgekaaDoor.Plain
namespace Go.Proofs.YtebnnknijbgekaaDoor.Plain
open Go Go.RowKit Go.Proofs.YtebnnknijbgekaaDoorW.PrintWords Go.Proofs.YtebnnknijbgekaaDoorW.PrintMore

/-- A loop from the place i on, when it is known at its end, and each round leads it one place back. -/
theorem scan {α : Type} (g : Nat → Nat → Option α) (n : Nat) (R : Nat → α) (hend : Ev (fun k => g k n) (R n)) (hstep : ∀ i, i < n → Ev (fun k => g k (i + 1)) (R (i + 1)) → Ev (fun k => g k i) (R i)) : ∀ i, i ≤ n → Ev (fun k => g k i) (R i) := by
  have h : ∀ d i, i + d = n → Ev (fun k => g k i) (R i) := by
    intro d
    induction d with
    | zero =>
      intro i hi
      obtain rfl : i = n := by omega
      exact hend
    | succ d ih =>
      intro i hi
      exact hstep i (by omega) (ih (i + 1) (by omega))
  intro i hi
  exact h (n - i) i (by omega)
/-- A loop that ends early, with the one answer e, at the first place that is bad; else it goes on behind its end. -/
theorem seek {α : Type} (g : Nat → Nat → Option α) (n : Nat) (bad : Nat → Prop) (e r : α) (hbad : ∀ i, i < n → bad i → Ev (fun k => g k i) e) (hgo : ∀ i, i < n → ¬ bad i → ∀ r', Ev (fun k => g k (i + 1)) r' → Ev (fun k => g k i) r')
    (hr : (∃ i, i < n ∧ bad i) → r = e) (hend : (∀ i, i < n → ¬ bad i) → Ev (fun k => g k n) r) : Ev (fun k => g k 0) r := by
  by_cases h : ∃ i, i < n ∧ bad i
  · obtain rfl := hr h
    obtain ⟨m, hm, hb⟩ := h
    refine scan g m (fun _ => r) (hbad m hm hb) ?_ 0 (Nat.zero_le _)
    intro i hi hE
    by_cases c : bad i
    · exact hbad i (by omega) c
    · exact hgo i (by omega) c _ hE
  · have hn : ∀ i, i < n → ¬ bad i := fun i hi hb => h ⟨i, hi, hb⟩
    refine scan g n (fun _ => r) (hend hn) ?_ 0 (Nat.zero_le _)
    intro i hi hE
    exact hgo i hi (hn i hi) _ hE
end Go.Proofs.YtebnnknijbgekaaDoor.Plain
namespace Go.Proofs.YtebnnknijbgekaaDoor.PlainBits
open Go Go.RowKit Go.Proofs.YtebnnknijbgekaaDoorW.PrintWords Go.Proofs.YtebnnknijbgekaaDoorW.PrintMore Go.Proofs.YtebnnknijbgekaaDoor.Plain
set_option linter.unusedVariables false
set_option linter.unusedSimpArgs false

theorem shl_one {r : Nat} (h : r < 64) : shl .u64 1 (IntKind.u64.wrap (r : Int)) = ((2 ^ r : Nat) : Int) := by
  have hp : 2 ^ r < 18446744073709551616 := by
    have := Nat.pow_lt_pow_right (a := 2) (by omega) h
    omega
  unfold shl
  rw [IntKind.wrap_u64, IntKind.wrap_u64]
  have h1 : ((r : Int) % 18446744073709551616).toNat = r := by omega
  rw [h1, show IntKind.u64.bits = 64 from rfl, Nat.min_eq_left (by omega), Int.one_mul]
  rw [show ((2 : Int) ^ r) = ((2 ^ r : Nat) : Int) by simp]
  generalize 2 ^ r = q at hp ⊢
  omega
def withB (s r : Nat) : Nat := s ||| 2 ^ r
def withoutB (s r : Nat) : Nat := s &&& (18446744073709551615 - 2 ^ r)
theorem withB_bit (s r i : Nat) : (withB s r).testBit i = (s.testBit i || decide (i = r)) := by
  unfold withB
  rw [Nat.testBit_or, Nat.testBit_two_pow]
  congr 1
  apply decide_eq_decide.2
  exact eq_comm
theorem withoutB_bit {s r i : Nat} (hr : r < 64) (hs : s < 2 ^ 64) : (withoutB s r).testBit i = (s.testBit i && decide (i ≠ r)) := by
  unfold withoutB
  have hp : 2 ^ r < 2 ^ 64 := Nat.pow_lt_pow_right (by omega) hr
  rw [Nat.testBit_and, show 18446744073709551615 - 2 ^ r = 2 ^ 64 - (2 ^ r + 1) by omega, Nat.testBit_two_pow_sub_succ hp, Nat.testBit_two_pow]
  by_cases hi : i < 64
  · rw [decide_eq_true hi, Bool.true_and]
    congr 1
    by_cases c : r = i
    · subst c
      simp
    · have : i ≠ r := fun e => c e.symm
      simp [c, this]
  · have : s.testBit i = false := Nat.testBit_lt_two_pow (Nat.lt_of_lt_of_le hs (Nat.pow_le_pow_right (by omega) (by omega)))
    rw [this]
    simp
theorem withB_lt {s r R : Nat} (hr : r < R) (hs : s < 2 ^ R) : withB s r < 2 ^ R := Nat.or_lt_two_pow hs (Nat.pow_lt_pow_right (by omega) hr)
theorem withoutB_lt {s r R : Nat} (hs : s < 2 ^ R) : withoutB s r < 2 ^ R := Nat.lt_of_le_of_lt Nat.and_le_left hs
theorem bits_with {s r : Nat} (hr : r < 64) (hs : s < 2 ^ 64) : Go.bits .or .u64 (s : Int) (shl .u64 1 (IntKind.u64.wrap (r : Int))) = (withB s r : Int) := by
  have hp : 2 ^ r < 2 ^ 64 := Nat.pow_lt_pow_right (by omega) hr
  rw [shl_one hr, u64_or_nat _ _ (by omega) (by omega)]
  rfl
theorem bits_without {s r : Nat} (hr : r < 64) (hs : s < 2 ^ 64) : Go.bits .andNot .u64 (s : Int) (shl .u64 1 (IntKind.u64.wrap (r : Int))) = (withoutB s r : Int) := by
  have hp : 2 ^ r < 2 ^ 64 := Nat.pow_lt_pow_right (by omega) hr
  rw [shl_one hr, u64_andNot_nat _ _ (by omega) (by omega)]
  rfl
theorem wrap_nonneg (n : Int) : 0 ≤ IntKind.u64.wrap n := by
  rw [IntKind.wrap_u64]
  omega

/-- A set's numbers, rising, below R. -/
def toN (R s : Nat) : List Nat := (List.range R).filter (fun r => s.testBit r)
def toL (R s : Nat) : List Int := (toN R s).map (fun n : Nat => (n : Int))
theorem mem_toN {R s r : Nat} : r ∈ toN R s ↔ r < R ∧ s.testBit r = true := by
  unfold toN
  simp
theorem filter_first (p : Nat → Bool) (c : Nat) : ∀ (n s : Nat), s ≤ c → c < s + n → (∀ i, s ≤ i → i < c → p i = false) → p c = true → (List.range' s n).filter p = c :: (List.range' s n).filter (fun i => p i && decide (i ≠ c)) := by
  intro n
  induction n with
  | zero =>
    intro s h1 h2
    omega
  | succ n ih =>
    intro s h1 h2 h3 h4
    rw [List.range'_succ]
    by_cases c1 : s = c
    · subst c1
      rw [List.filter_cons_of_pos h4, List.filter_cons_of_neg (by simp)]
      congr 1
      apply List.filter_congr
      intro i hi
      have := List.mem_range'_1.1 hi
      have : i ≠ s := by omega
      simp [this]
    · rw [List.filter_cons_of_neg (by rw [h3 s (by omega) (by omega)]; simp), List.filter_cons_of_neg (by rw [h3 s (by omega) (by omega)]; simp)]
      exact ih (s + 1) (by omega) (by omega) (fun i hi hc => h3 i (by omega) hc) h4
/-- Taking the lowest bit out. -/
theorem low_bit {x : Nat} (h0 : 0 < x) (h : x < 2 ^ 64) : Lib.ctz 64 x < 64 ∧ x.testBit (Lib.ctz 64 x) = true ∧ (∀ i, i < Lib.ctz 64 x → x.testBit i = false) ∧ (∀ i, (x &&& (x - 1)).testBit i = (x.testBit i && decide (i ≠ Lib.ctz 64 x))) := by
  have hc : Lib.ctz 64 x = Lib.ctzFrom 64 x := by
    unfold Lib.ctz
    rw [if_neg (by omega)]
  rw [hc]
  obtain ⟨m, hm, hlt⟩ := Lib.ctzFrom_spec 64 x h0 h
  generalize Lib.ctzFrom 64 x = c at *
  have hb : ∀ i, x.testBit i = (decide (c ≤ i) && (2 * m + 1).testBit (i - c)) := by
    intro i
    rw [hm, Nat.testBit_two_pow_mul]
  have hp : 0 < 2 ^ c := Nat.pos_of_ne_zero (by simp)
  have hx1 : x - 1 = 2 ^ c * (2 * m) + (2 ^ c - 1) := by
    rw [hm, Nat.mul_add, Nat.mul_one]
    omega
  have hb1 : ∀ i, (x - 1).testBit i = if i < c then (2 ^ c - 1).testBit i else (2 * m).testBit (i - c) := by
    intro i
    rw [hx1, Nat.testBit_two_pow_mul_add _ (by omega)]
  refine ⟨hlt, ?_, ?_, ?_⟩
  · rw [hb]
    simp
  · intro i hi
    rw [hb, decide_eq_false (by omega)]
    rfl
  · intro i
    rw [Nat.testBit_and, hb1]
    by_cases c1 : i < c
    · rw [hb, decide_eq_false (by omega)]
      rfl
    · rw [if_neg c1, hb, decide_eq_true (by omega), Bool.true_and]
      by_cases c2 : i = c
      · subst c2
        simp
      · rw [decide_eq_true c2, Bool.and_true]
        obtain ⟨d, hd⟩ : ∃ d, i - c = d + 1 := ⟨i - c - 1, by omega⟩
        rw [hd, Nat.testBit_succ, Nat.testBit_succ, show (2 * m + 1) / 2 = m by omega, show (2 * m) / 2 = m by omega, Bool.and_self]
theorem toN_low {R x : Nat} (h0 : 0 < x) (h : x < 2 ^ R) (hR : R ≤ 64) : toN R x = Lib.ctz 64 x :: toN R (x &&& (x - 1)) := by
  have h64 : x < 2 ^ 64 := Nat.lt_of_lt_of_le h (Nat.pow_le_pow_right (by omega) hR)
  obtain ⟨h1, h2, h3, h4⟩ := low_bit h0 h64
  have hcR : Lib.ctz 64 x < R := by
    apply Decidable.byContradiction
    intro hn
    have : x.testBit (Lib.ctz 64 x) = false := Nat.testBit_lt_two_pow (Nat.lt_of_lt_of_le h (Nat.pow_le_pow_right (by omega) (by omega)))
    rw [this] at h2
    exact absurd h2 (by simp)
  unfold toN
  rw [List.range_eq_range', filter_first _ (Lib.ctz 64 x) R 0 (by omega) (by omega) (fun i _ hi => h3 i hi) h2]
  congr 1
  apply List.filter_congr
  intro i _
  rw [h4]
theorem toN_zero (R : Nat) : toN R 0 = [] := by
  unfold toN
  rw [List.filter_eq_nil_iff]
  intro a _
  simp
theorem toN_len (R s : Nat) : (toN R s).length ≤ R := by
  unfold toN
  have := List.length_filter_le (fun r => s.testBit r) (List.range R)
  rw [List.length_range] at this
  exact this
theorem toN_ext {R s t : Nat} (hs : s < 2 ^ R) (ht : t < 2 ^ R) (h : ∀ r, r < R → s.testBit r = t.testBit r) : s = t := by
  apply Nat.eq_of_testBit_eq
  intro i
  by_cases c : i < R
  · exact h i c
  · rw [Nat.testBit_lt_two_pow (Nat.lt_of_lt_of_le hs (Nat.pow_le_pow_right (by omega) (by omega))), Nat.testBit_lt_two_pow (Nat.lt_of_lt_of_le ht (Nat.pow_le_pow_right (by omega) (by omega)))]
/-- What one set has, the other has. -/
def Sub (s t : Nat) : Prop := ∀ r, s.testBit r = true → t.testBit r = true
theorem filter_mono {p q : Nat → Bool} : ∀ (l : List Nat), (∀ i ∈ l, p i = true → q i = true) → (l.filter p).length ≤ (l.filter q).length ∧ ((l.filter p).length = (l.filter q).length → ∀ i ∈ l, p i = q i)
  | [], _ => by simp
  | a :: l, h => by
    obtain ⟨h1, h2⟩ := filter_mono l (fun i hi => h i (List.mem_cons_of_mem _ hi))
    have ha := h a List.mem_cons_self
    cases hp : p a <;> cases hq : q a
    · rw [List.filter_cons_of_neg (by simp [hp]), List.filter_cons_of_neg (by simp [hq])]
      refine ⟨h1, fun e i hi => ?_⟩
      rcases List.mem_cons.1 hi with rfl | hi
      · rw [hp, hq]
      · exact h2 e i hi
    · rw [List.filter_cons_of_neg (by simp [hp]), List.filter_cons_of_pos hq, List.length_cons]
      exact ⟨by omega, fun e => by omega⟩
    · rw [hp, hq] at ha
      exact absurd (ha rfl) (by simp)
    · rw [List.filter_cons_of_pos hp, List.filter_cons_of_pos hq, List.length_cons, List.length_cons]
      refine ⟨by omega, fun e i hi => ?_⟩
      rcases List.mem_cons.1 hi with rfl | hi
      · rw [hp, hq]
      · exact h2 (by omega) i hi
theorem toN_mono {R s t : Nat} (h : Sub s t) : (toN R s).length ≤ (toN R t).length := (filter_mono _ (fun i _ => h i)).1
theorem toN_eq {R s t : Nat} (h : Sub s t) (hs : s < 2 ^ R) (ht : t < 2 ^ R) (e : (toN R s).length = (toN R t).length) : s = t :=
  toN_ext hs ht fun r hr => (filter_mono _ (fun i _ => h i)).2 e r (List.mem_range.2 hr)
end Go.Proofs.YtebnnknijbgekaaDoor.PlainBits
namespace Go.Proofs.YtebnnknijbgekaaDoor.PlainFix
open Go.Proofs.YtebnnknijbgekaaDoor.PlainBits
set_option linter.unusedVariables false
set_option linter.unusedSimpArgs false

def at_ (x : List Nat) (b : Nat) : Nat := x.getD b 0
def LE (x y : List Nat) : Prop := ∀ b, Sub (at_ x b) (at_ y b)
theorem LE.refl (x : List Nat) : LE x x := fun _ _ h => h
theorem LE.trans {x y z : List Nat} (h : LE x y) (k : LE y z) : LE x z := fun b r hr => k b r (h b r hr)
/-- The equations: n of them, over sets of numbers below R. -/
structure Eqs (n R : Nat) (A : List Nat → Nat → Nat) : Prop where
  mono : ∀ x y, LE x y → ∀ b, b < n → Sub (A x b) (A y b)
  lt : ∀ x, (∀ b, at_ x b < 2 ^ R) → ∀ b, b < n → A x b < 2 ^ R
theorem at_map {n : Nat} {f : Nat → Nat} {b : Nat} : at_ ((List.range n).map f) b = if b < n then f b else 0 := by
  unfold at_
  rw [List.getD_eq_getElem?_getD]
  split
  · next h =>
    rw [List.getElem?_map, List.getElem?_range h]
    rfl
  · next h =>
    rw [List.getElem?_eq_none (by simp; omega)]
    rfl
theorem at_set {x : List Nat} {b c v : Nat} (hb : b < x.length) : at_ (x.set b v) c = if c = b then v else at_ x c := by
  unfold at_
  rw [List.getD_eq_getElem?_getD, List.getD_eq_getElem?_getD, List.getElem?_set]
  by_cases h : b = c
  · subst h
    rw [if_pos rfl, if_pos rfl, if_pos hb]
    rfl
  · rw [if_neg h, if_neg (fun e => h e.symm)]
theorem at_out {x : List Nat} {b : Nat} (h : x.length ≤ b) : at_ x b = 0 := by
  unfold at_
  rw [List.getD_eq_getElem?_getD, List.getElem?_eq_none h]
  rfl
theorem at_zero (n b : Nat) : at_ (List.replicate n 0) b = 0 := by
  unfold at_
  rw [List.getD_eq_getElem?_getD, List.getElem?_replicate]
  split <;> rfl
theorem zero_LE (n : Nat) (y : List Nat) : LE (List.replicate n 0) y := by
  intro b r h
  rw [at_zero] at h
  simp at h
theorem list_ext {n R : Nat} {x y : List Nat} (hx : x.length = n) (hy : y.length = n) (h : ∀ b, b < n → at_ x b = at_ y b) : x = y := by
  apply List.ext_getElem (by omega)
  intro i h1 h2
  have := h i (by omega)
  unfold at_ at this
  rw [List.getD_eq_getElem?_getD, List.getD_eq_getElem?_getD, List.getElem?_eq_getElem h1, List.getElem?_eq_getElem h2] at this
  exact this

section
variable {n R : Nat} {A : List Nat → Nat → Nat}
/-- Solved from above. -/
def Pre (n : Nat) (A : List Nat → Nat → Nat) (z : List Nat) : Prop := ∀ b, b < n → Sub (A z b) (at_ z b)
/-- What holds of each list on the way. -/
structure On (n R : Nat) (A : List Nat → Nat → Nat) (y : List Nat) : Prop where
  len : y.length = n
  lt : ∀ b, at_ y b < 2 ^ R
  up : ∀ b, b < n → Sub (at_ y b) (A y b)
  least : ∀ z, Pre n A z → LE y z
theorem on_zero : On n R A (List.replicate n 0) := by
  refine ⟨List.length_replicate, fun b => ?_, fun b _ r h => ?_, fun z _ => zero_LE n z⟩
  · rw [at_zero]
    exact Nat.pos_of_ne_zero (by simp)
  · rw [at_zero] at h
    simp at h
/-- Two lists on the way that are both solved are one. -/
theorem on_eq {x y : List Nat} (hx : On n R A x) (hy : On n R A y) (px : ∀ b, b < n → A x b = at_ x b) (py : ∀ b, b < n → A y b = at_ y b) : x = y := by
  refine list_ext (R := R) hx.len hy.len fun b hb => ?_
  refine toN_ext (hx.lt b) (hy.lt b) fun r _ => ?_
  have h1 := hx.least y (fun c hc r hr => by rw [← py c hc]; exact hr) b r
  have h2 := hy.least x (fun c hc r hr => by rw [← px c hc]; exact hr) b r
  cases e1 : (at_ x b).testBit r <;> cases e2 : (at_ y b).testBit r
  · rfl
  · exact absurd (h2 e2) (by rw [e1]; simp)
  · exact absurd (h1 e1) (by rw [e2]; simp)
  · rfl
variable (E : Eqs n R A)
include E
theorem on_set {y : List Nat} (h : On n R A y) {b : Nat} (hb : b < n) : On n R A (y.set b (A y b)) ∧ LE y (y.set b (A y b)) := by
  have hlen := h.len
  have hle : LE y (y.set b (A y b)) := by
    intro c r hr
    rw [at_set (by omega)]
    split
    · next e =>
      subst e
      exact h.up c hb r hr
    · exact hr
  refine ⟨⟨by rw [List.length_set]; exact hlen, fun c => ?_, fun c hc r hr => ?_, fun z hz c r hr => ?_⟩, hle⟩
  · rw [at_set (by omega)]
    split
    · exact E.lt y h.lt b hb
    · exact h.lt c
  · apply E.mono _ _ hle c hc
    rw [at_set (by omega)] at hr
    split at hr
    · next e =>
      subst e
      exact hr
    · exact h.up c hc r hr
  · rw [at_set (by omega)] at hr
    split at hr
    · next e =>
      subst e
      exact hz c hb r (E.mono _ _ (h.least z hz) c hb r hr)
    · exact h.least z hz c r hr
theorem on_all {y : List Nat} (h : On n R A y) : On n R A ((List.range n).map (A y)) ∧ LE y ((List.range n).map (A y)) := by
  have hlen := h.len
  have hle : LE y ((List.range n).map (A y)) := by
    intro c r hr
    rw [at_map]
    split
    · next e => exact h.up c e r hr
    · next e =>
      rw [at_out (by omega)] at hr
      simp at hr
  refine ⟨⟨by simp, fun c => ?_, fun c hc r hr => ?_, fun z hz c r hr => ?_⟩, hle⟩
  · rw [at_map]
    split
    · next e => exact E.lt y h.lt c e
    · exact Nat.pos_of_ne_zero (by simp)
  · apply E.mono _ _ hle c hc
    rw [at_map, if_pos hc] at hr
    exact hr
  · rw [at_map] at hr
    split at hr
    · next e => exact hz c e r (E.mono _ _ (h.least z hz) c e r hr)
    · simp at hr
end

/-! ### how many numbers there are in all -/
def card (R : Nat) : List Nat → Nat
  | [] => 0
  | s :: l => (toN R s).length + card R l
theorem card_le (R : Nat) : ∀ l : List Nat, card R l ≤ l.length * R
  | [] => by simp [card]
  | s :: l => by
    have := card_le R l
    have := toN_len R s
    unfold card
    rw [List.length_cons, Nat.succ_mul]
    omega
theorem card_mono (R : Nat) : ∀ {x y : List Nat}, x.length = y.length → (∀ b, Sub (at_ x b) (at_ y b)) → card R x ≤ card R y
  | [], [], _, _ => Nat.le_refl _
  | [], _ :: _, h, _ => by simp at h
  | _ :: _, [], h, _ => by simp at h
  | s :: x, t :: y, h, hs => by
    have h1 := toN_mono (R := R) (hs 0)
    have h2 := card_mono R (x := x) (y := y) (by simpa using h) (fun b => hs (b + 1))
    unfold card
    exact Nat.add_le_add h1 h2
theorem card_eq (R : Nat) : ∀ {x y : List Nat}, x.length = y.length → (∀ b, Sub (at_ x b) (at_ y b)) → (∀ b, at_ x b < 2 ^ R) → (∀ b, at_ y b < 2 ^ R) → card R x = card R y → x = y
  | [], [], _, _, _, _, _ => rfl
  | [], _ :: _, h, _, _, _, _ => by simp at h
  | _ :: _, [], h, _, _, _, _ => by simp at h
  | s :: x, t :: y, h, hs, hx, hy, e => by
    have h1 := toN_mono (R := R) (hs 0)
    have h2 := card_mono R (x := x) (y := y) (by simpa using h) (fun b => hs (b + 1))
    have h3 : (toN R s).length ≤ (toN R t).length := h1
    unfold card at e
    have e1 : s = t := toN_eq (hs 0) (hx 0) (hy 0) (by show (toN R s).length = (toN R t).length; omega)
    have e2 : x = y := card_eq R (by simpa using h) (fun b => hs (b + 1)) (fun b => hx (b + 1)) (fun b => hy (b + 1)) (by omega)
    rw [e1, e2]
end Go.Proofs.YtebnnknijbgekaaDoor.PlainFix
namespace Go.Proofs.YtebnnknijbgekaaDoor.PlainSuccs
open Go Go.RowKit Go.Proofs.YtebnnknijbgekaaDoorW.PrintWords Go.Proofs.YtebnnknijbgekaaDoorW.PrintMore Go.Proofs.YtebnnknijbgekaaDoor.Q Go.Proofs.YtebnnknijbgekaaDoor.Plain

/-- What an instruction goes to. -/
def targets (x : SIns) : List Int := if x.f0 = 12 then [x.f2] else if x.f0 = 13 then [x.f3, x.f1] else []
/-- One target more, if it is a block's, and new. -/
def addT (n : Nat) (out : List Int) (t : Int) : List Int := if 0 ≤ t ∧ t < n ∧ t ∉ out then out ++ [t] else out
def blockAt (x : List (List SIns)) (i : Int) : List SIns := x.getD i.toNat []
/-- A block's last instruction. -/
def lastOf (b : List SIns) : SIns := b.getD (b.length - 1) zIns
/-- The successors of block i. -/
def succs (x : List (List SIns)) (i : Int) : List Int :=
  if i < 0 ∨ (x.length : Int) ≤ i ∨ blockAt x i = [] then [] else (targets (lastOf (blockAt x i))).foldl (addT x.length) []

theorem targets_len (x : SIns) : (targets x).length ≤ 2 := by
  unfold targets
  split
  · simp
  · split <;> simp
theorem addT_len (n : Nat) (out : List Int) (t : Int) : (addT n out t).length ≤ out.length + 1 := by
  unfold addT
  split <;> simp
theorem foldT_len (n : Nat) : ∀ (l out : List Int), (l.foldl (addT n) out).length ≤ out.length + l.length
  | [], _ => by simp
  | t :: l, out => by
    have := foldT_len n l (addT n out t)
    have := addT_len n out t
    simp only [List.foldl_cons, List.length_cons]
    omega
theorem succs_len (x : List (List SIns)) (i : Int) : (succs x i).length ≤ 2 := by
  unfold succs
  split
  · simp
  · have := foldT_len x.length (targets (lastOf (blockAt x i))) []
    have := targets_len (lastOf (blockAt x i))
    simp at *
    omega
theorem addT_mem (n : Nat) (out : List Int) (t : Int) (h : ∀ y ∈ out, 0 ≤ y ∧ y < n) : ∀ y ∈ addT n out t, 0 ≤ y ∧ y < n := by
  unfold addT
  split
  · rename_i hc
    intro y hy
    rcases List.mem_append.1 hy with hy | hy
    · exact h y hy
    · rw [List.mem_singleton.1 hy]
      exact ⟨hc.1, hc.2.1⟩
  · exact h
theorem foldT_mem (n : Nat) : ∀ (l out : List Int), (∀ y ∈ out, 0 ≤ y ∧ y < n) → ∀ y ∈ l.foldl (addT n) out, 0 ≤ y ∧ y < n
  | [], _, h => h
  | t :: l, out, h => foldT_mem n l (addT n out t) (addT_mem n out t h)
theorem succs_mem (x : List (List SIns)) (i : Int) : ∀ y ∈ succs x i, 0 ≤ y ∧ y < x.length := by
  unfold succs
  split
  · simp
  · exact foldT_mem _ _ _ (by simp)

theorem ir_targets (x : SIns) : ir_Targets.f x.f0 x.f1 x.f2 x.f3 x.f4 x.f5 = some (targets x) := by
  unfold ir_Targets.f targets
  split
  · rfl
  · split <;> rfl
theorem ref_targets (x : SIns) : cubbyref07_Targets.f x.f0 x.f1 x.f2 x.f3 x.f4 x.f5 = some (targets x) := by
  unfold cubbyref07_Targets.f targets
  simp only [Option.bind_some]
  split
  · rw [if_pos (by simp)]; rfl
  · split
    · rw [if_pos (by simp)]; rfl
    · rfl

theorem has_loop (l : List Int) (x : Int) (hl : l.length ≤ 4611686018427387904) : ∀ (d j : Nat), l.length - j = d → j ≤ l.length → Ev (fun k => cubbyref09_has.l0 k l x (j : Int)) (decide (x ∈ l.drop j)) := by
  intro d
  induction d with
  | zero =>
    intro j hd hj
    refine Ev.step (f := fun _ => some false) (fun k => by simp only [cubbyref09_has.l0]; rw [if_neg (by omega)]) ?_
    rw [List.drop_eq_nil_of_le (by omega)]
    exact Ev.now _
  | succ d ih =>
    intro j hd hj
    have hlt : j < l.length := by omega
    rw [drop_cons hlt]
    by_cases e : l[j] = x
    · refine Ev.step (f := fun _ => some true) (fun k => by simp only [cubbyref09_has.l0]; rw [if_pos (by omega), if_pos (by omega), rd_get hlt, if_pos e]) ?_
      rw [decide_eq_true (by simp [e])]
      exact Ev.now _
    · refine Ev.step (f := fun k => cubbyref09_has.l0 k l x ((j + 1 : Nat) : Int)) (fun k => by simp only [cubbyref09_has.l0]; rw [if_pos (by omega), if_pos (by omega), rd_get hlt, if_neg e, wrap_nat (by omega)]) ?_
      have := ih (j + 1) (by omega) (by omega)
      rw [show (decide (x ∈ l[j] :: l.drop (j + 1))) = decide (x ∈ l.drop (j + 1)) by rw [decide_eq_decide, List.mem_cons]; exact ⟨fun h => h.resolve_left (Ne.symm e), Or.inr⟩]
      exact this
theorem has_ev (l : List Int) (x : Int) (hl : l.length ≤ 4611686018427387904) : Ev (fun k => cubbyref09_has.f k l x) (decide (x ∈ l)) := by
  have := has_loop l x hl l.length 0 (by omega) (by omega)
  simpa [cubbyref09_has.f] using this
theorem index_loop (l : List Int) (x : Int) (hl : l.length ≤ 4611686018427387904) : ∀ (d j : Nat), l.length - j = d → j ≤ l.length → ∃ r, Ev (fun k => slices_Index_int_int.l0 k l x (l.length : Int) (j : Int)) r ∧ (0 ≤ r ↔ x ∈ l.drop j) := by
  intro d
  induction d with
  | zero =>
    intro j hd hj
    refine ⟨-1, Ev.step (f := fun _ => some (-1)) (fun k => by simp only [slices_Index_int_int.l0]; rw [if_neg (by omega)]) (Ev.now _), ?_⟩
    rw [List.drop_eq_nil_of_le (by omega)]
    simp
  | succ d ih =>
    intro j hd hj
    have hlt : j < l.length := by omega
    rw [drop_cons hlt]
    by_cases e : x = l[j]
    · refine ⟨j, Ev.step (f := fun _ => some (j : Int)) (fun k => by simp only [slices_Index_int_int.l0]; rw [if_pos (by omega), if_pos (by omega), if_pos (by omega), rd_get hlt, if_pos e]) (Ev.now _), ?_⟩
      exact ⟨fun _ => by rw [e]; exact List.mem_cons_self, fun _ => by omega⟩
    · obtain ⟨r, hr, hx⟩ := ih (j + 1) (by omega) (by omega)
      refine ⟨r, Ev.step (f := fun k => slices_Index_int_int.l0 k l x (l.length : Int) ((j + 1 : Nat) : Int)) (fun k => by simp only [slices_Index_int_int.l0]; rw [if_pos (by omega), if_pos (by omega), if_pos (by omega), rd_get hlt, if_neg e, wrap_nat (by omega)]) hr, ?_⟩
      rw [hx, List.mem_cons]
      exact ⟨Or.inr, fun h => h.resolve_left e⟩
theorem contains_ev (l : List Int) (x : Int) (hl : l.length ≤ 4611686018427387904) : Ev (fun k => slices_Contains_int_int.f k l x) (decide (x ∈ l)) := by
  obtain ⟨r, hr, hx⟩ := index_loop l x hl l.length 0 (by omega) (by omega)
  refine Ev.bind (g := fun k => slices_Index_int_int.f k l x) (f := fun _ t => some (decide (t ≥ 0))) hr ?_
  rw [List.drop_zero] at hx
  rw [show decide (x ∈ l) = decide (r ≥ 0) from by rw [decide_eq_decide]; exact hx.symm]
  exact Ev.now _

theorem succs_loop (x : List (List SIns)) (l : List Int) (hl : l.length ≤ 1000) : ∀ (d j : Nat) (out : List Int), l.length - j = d → j ≤ l.length → out.length + d ≤ 1000 →
    Ev (fun k => flow_Succs.l0 k x out l (l.length : Int) (j : Int)) ((l.drop j).foldl (addT x.length) out) := by
  intro d
  induction d with
  | zero =>
    intro j out hd hj ho
    refine Ev.step (f := fun _ => some out) (fun k => by simp only [flow_Succs.l0]; rw [if_neg (by omega)]) ?_
    rw [List.drop_eq_nil_of_le (by omega)]
    exact Ev.now _
  | succ d ih =>
    intro j out hd hj ho
    have hlt : j < l.length := by omega
    rw [drop_cons hlt, List.foldl_cons]
    have hs : ∀ out', out'.length ≤ out.length + 1 → Ev (fun k => flow_Succs.l0 k x out' l (l.length : Int) ((j + 1 : Nat) : Int)) ((l.drop (j + 1)).foldl (addT x.length) out') := fun out' h => ih (j + 1) out' (by omega) (by omega) (by omega)
    by_cases h0 : 0 ≤ l[j]
    · by_cases h1 : l[j] < x.length
      · have hc := contains_ev out l[j] (by omega)
        refine Ev.step (f := fun k => (slices_Contains_int_int.f k out l[j]).bind fun t => if t = true then flow_Succs.l0 k x out l (l.length : Int) ((j + 1 : Nat) : Int) else if out.length < 17592186044416 then flow_Succs.l0 k x (out ++ [l[j]]) l (l.length : Int) ((j + 1 : Nat) : Int) else none) (fun k => by
          simp only [flow_Succs.l0]; rw [if_pos (by omega), if_pos (by omega), if_pos (by omega), rd_get hlt, if_pos h0, if_pos h1, wrap_nat (by omega)]) ?_
        refine Ev.bind hc ?_
        by_cases hm : l[j] ∈ out
        · rw [show addT x.length out l[j] = out by unfold addT; rw [if_neg (by simp [hm])]]
          simp only [hm, decide_true, if_true]
          exact hs out (by omega)
        · rw [show addT x.length out l[j] = out ++ [l[j]] by unfold addT; rw [if_pos ⟨h0, h1, hm⟩]]
          simp only [hm, decide_false, Bool.false_eq_true, if_false, show out.length < 17592186044416 from by omega, if_true]
          exact hs _ (by simp)
      · rw [show addT x.length out l[j] = out by unfold addT; rw [if_neg (by omega)]]
        refine Ev.step (f := fun k => flow_Succs.l0 k x out l (l.length : Int) ((j + 1 : Nat) : Int)) (fun k => by
          simp only [flow_Succs.l0]; rw [if_pos (by omega), if_pos (by omega), if_pos (by omega), rd_get hlt, if_pos h0, if_neg h1, wrap_nat (by omega)]) (hs out (by omega))
    · rw [show addT x.length out l[j] = out by unfold addT; rw [if_neg (by omega)]]
      refine Ev.step (f := fun k => flow_Succs.l0 k x out l (l.length : Int) ((j + 1 : Nat) : Int)) (fun k => by
          simp only [flow_Succs.l0]; rw [if_pos (by omega), if_pos (by omega), if_pos (by omega), rd_get hlt, if_neg (by omega), wrap_nat (by omega)]) (hs out (by omega))
theorem refsuccs_loop (x : List (List SIns)) (l : List Int) (hl : l.length ≤ 1000) : ∀ (d j : Nat) (out : List Int), l.length - j = d → j ≤ l.length → out.length + d ≤ 1000 →
    Ev (fun k => cubbyref09_Succs.l0 k x out l (j : Int)) ((l.drop j).foldl (addT x.length) out) := by
  intro d
  induction d with
  | zero =>
    intro j out hd hj ho
    refine Ev.step (f := fun _ => some out) (fun k => by simp only [cubbyref09_Succs.l0]; rw [if_neg (by omega)]) ?_
    rw [List.drop_eq_nil_of_le (by omega)]
    exact Ev.now _
  | succ d ih =>
    intro j out hd hj ho
    have hlt : j < l.length := by omega
    rw [drop_cons hlt, List.foldl_cons]
    have hs : ∀ out', out'.length ≤ out.length + 1 → Ev (fun k => cubbyref09_Succs.l0 k x out' l ((j + 1 : Nat) : Int)) ((l.drop (j + 1)).foldl (addT x.length) out') := fun out' h => ih (j + 1) out' (by omega) (by omega) (by omega)
    by_cases h0 : 0 ≤ l[j]
    · by_cases h1 : l[j] < x.length
      · have hc := has_ev out l[j] (by omega)
        refine Ev.step (f := fun k => (cubbyref09_has.f k out l[j]).bind fun t => if t = true then cubbyref09_Succs.l0 k x out l ((j + 1 : Nat) : Int) else if out.length < 17592186044416 then cubbyref09_Succs.l0 k x (out ++ [l[j]]) l ((j + 1 : Nat) : Int) else none) (fun k => by
          simp only [cubbyref09_Succs.l0]; rw [if_pos (by omega), if_pos (by omega), rd_get hlt, if_pos h0, if_pos h1, wrap_nat (by omega)]) ?_
        refine Ev.bind hc ?_
        by_cases hm : l[j] ∈ out
        · rw [show addT x.length out l[j] = out by unfold addT; rw [if_neg (by simp [hm])]]
          simp only [hm, decide_true, if_true]
          exact hs out (by omega)
        · rw [show addT x.length out l[j] = out ++ [l[j]] by unfold addT; rw [if_pos ⟨h0, h1, hm⟩]]
          simp only [hm, decide_false, Bool.false_eq_true, if_false, show out.length < 17592186044416 from by omega, if_true]
          exact hs _ (by simp)
      · rw [show addT x.length out l[j] = out by unfold addT; rw [if_neg (by omega)]]
        refine Ev.step (f := fun k => cubbyref09_Succs.l0 k x out l ((j + 1 : Nat) : Int)) (fun k => by
          simp only [cubbyref09_Succs.l0]; rw [if_pos (by omega), if_pos (by omega), rd_get hlt, if_pos h0, if_neg h1, wrap_nat (by omega)]) (hs out (by omega))
    · rw [show addT x.length out l[j] = out by unfold addT; rw [if_neg (by omega)]]
      refine Ev.step (f := fun k => cubbyref09_Succs.l0 k x out l ((j + 1 : Nat) : Int)) (fun k => by
          simp only [cubbyref09_Succs.l0]; rw [if_pos (by omega), if_pos (by omega), rd_get hlt, if_neg (by omega), wrap_nat (by omega)]) (hs out (by omega))

theorem rd_last {b : List SIns} (hb : b ≠ []) (hl : b.length ≤ 4611686018427387904) : (0 ≤ wrap64 ((b.length : Int) - 1)) ∧ (wrap64 ((b.length : Int) - 1) < b.length) ∧ rd_TIns b (wrap64 ((b.length : Int) - 1)) = lastOf b := by
  have h0 : 0 < b.length := List.length_pos_iff.2 hb
  rw [wrap_pred h0 hl]
  refine ⟨by omega, by omega, ?_⟩
  rfl

/-- Every block is short enough for an int. -/
def Small (x : List (List SIns)) : Prop := x.length ≤ 4611686018427387904 ∧ ∀ b ∈ x, b.length ≤ 4611686018427387904
theorem small_at {x : List (List SIns)} (h : Small x) (i : Int) : (blockAt x i).length ≤ 4611686018427387904 := by
  unfold blockAt
  rw [List.getD_eq_getElem?_getD]
  cases e : x[i.toNat]? with
  | none => simp
  | some b => exact h.2 b (List.mem_of_getElem? e)

theorem succs_ev (x : List (List SIns)) (i : Int) (h : Small x) : Ev (fun k => flow_Succs.f k x i) (succs x i) := by
  have nil : Ev (fun k => flow_Succs.j0 k x i true) ([] : List Int) := Ev.step (f := fun _ => some []) (fun k => by simp only [flow_Succs.j0, if_true]) (Ev.now _)
  by_cases h0 : i < 0
  · refine Ev.congr (f := fun k => flow_Succs.j0 k x i true) (fun k => by unfold flow_Succs.f; rw [if_pos h0]) ?_
    rw [show succs x i = [] by unfold succs; rw [if_pos (Or.inl h0)]]
    exact nil
  · by_cases h1 : i < x.length
    · have hb := small_at h i
      by_cases h2 : blockAt x i = []
      · refine Ev.congr (f := fun k => flow_Succs.j0 k x i true) (fun k => by
          unfold flow_Succs.f; rw [if_neg h0, if_neg (by omega), if_pos (by omega), if_pos h1]
          rw [show (((rd_LIns x i).length : Int) == 0) = true from by rw [show rd_LIns x i = [] from h2]; rfl]) ?_
        rw [show succs x i = [] by unfold succs; rw [if_pos (Or.inr (Or.inr h2))]]
        exact nil
      · obtain ⟨p1, p2, p3⟩ := rd_last h2 hb
        refine Ev.congr (f := fun k => flow_Succs.j0 k x i false) (fun k => by
          unfold flow_Succs.f; rw [if_neg h0, if_neg (by omega), if_pos (by omega), if_pos h1]
          rw [show (((rd_LIns x i).length : Int) == 0) = false from by
            rw [beq_eq_false_iff_ne]
            intro e
            exact h2 (List.eq_nil_of_length_eq_zero (by exact Int.ofNat.inj e))]) ?_
        rw [show succs x i = (targets (lastOf (blockAt x i))).foldl (addT x.length) [] by unfold succs; rw [if_neg (by simp only [h2, or_false]; omega)]]
        have ht := targets_len (lastOf (blockAt x i))
        refine Ev.step (f := fun k => flow_Succs.l0 k x [] (targets (lastOf (blockAt x i))) ((targets (lastOf (blockAt x i))).length : Int) 0) (fun k => by
          simp only [flow_Succs.j0]
          rw [if_neg (by simp), if_pos (by omega), if_pos h1]
          show (if 0 ≤ wrap64 (((blockAt x i).length : Int) - 1) then _ else _) = _
          rw [if_pos p1]
          show (if wrap64 (((blockAt x i).length : Int) - 1) < ((blockAt x i).length : Int) then _ else _) = _
          rw [if_pos p2]
          show (ir_Targets.f (rd_TIns (blockAt x i) (wrap64 (((blockAt x i).length : Int) - 1))).f0 (rd_TIns (blockAt x i) (wrap64 (((blockAt x i).length : Int) - 1))).f1 (rd_TIns (blockAt x i) (wrap64 (((blockAt x i).length : Int) - 1))).f2 (rd_TIns (blockAt x i) (wrap64 (((blockAt x i).length : Int) - 1))).f3 (rd_TIns (blockAt x i) (wrap64 (((blockAt x i).length : Int) - 1))).f4 (rd_TIns (blockAt x i) (wrap64 (((blockAt x i).length : Int) - 1))).f5).bind _ = _
          rw [p3, ir_targets]
          rfl) ?_
        have := succs_loop x (targets (lastOf (blockAt x i))) (by omega) _ 0 [] rfl (by omega) (by simp; omega)
        simpa using this
    · refine Ev.congr (f := fun k => flow_Succs.j0 k x i true) (fun k => by unfold flow_Succs.f; rw [if_neg h0, if_pos (by omega)]) ?_
      rw [show succs x i = [] by unfold succs; rw [if_pos (Or.inr (Or.inl (by omega)))]]
      exact nil
theorem refsuccs_ev (x : List (List SIns)) (i : Int) (h : Small x) : Ev (fun k => cubbyref09_Succs.f k x i) (succs x i) := by
  have nil : Ev (fun k => cubbyref09_Succs.j0 k x i [] true) ([] : List Int) := Ev.step (f := fun _ => some []) (fun k => by simp only [cubbyref09_Succs.j0, if_true]) (Ev.now _)
  by_cases h0 : i < 0
  · refine Ev.congr (f := fun k => cubbyref09_Succs.j0 k x i [] true) (fun k => by unfold cubbyref09_Succs.f; simp only [Option.bind_some]; rw [if_pos h0]) ?_
    rw [show succs x i = [] by unfold succs; rw [if_pos (Or.inl h0)]]
    exact nil
  · by_cases h1 : i < x.length
    · have hb := small_at h i
      by_cases h2 : blockAt x i = []
      · refine Ev.congr (f := fun k => cubbyref09_Succs.j0 k x i [] true) (fun k => by
          unfold cubbyref09_Succs.f; simp only [Option.bind_some]; rw [if_neg h0, if_neg (by omega), if_pos (by omega), if_pos h1]
          rw [show (((rd_LIns x i).length : Int) == 0) = true from by rw [show rd_LIns x i = [] from h2]; rfl]) ?_
        rw [show succs x i = [] by unfold succs; rw [if_pos (Or.inr (Or.inr h2))]]
        exact nil
      · obtain ⟨p1, p2, p3⟩ := rd_last h2 hb
        refine Ev.congr (f := fun k => cubbyref09_Succs.j0 k x i [] false) (fun k => by
          unfold cubbyref09_Succs.f; simp only [Option.bind_some]; rw [if_neg h0, if_neg (by omega), if_pos (by omega), if_pos h1]
          rw [show (((rd_LIns x i).length : Int) == 0) = false from by
            rw [beq_eq_false_iff_ne]
            intro e
            exact h2 (List.eq_nil_of_length_eq_zero (by exact Int.ofNat.inj e))]) ?_
        rw [show succs x i = (targets (lastOf (blockAt x i))).foldl (addT x.length) [] by unfold succs; rw [if_neg (by simp only [h2, or_false]; omega)]]
        have ht := targets_len (lastOf (blockAt x i))
        refine Ev.step (f := fun k => cubbyref09_Succs.l0 k x [] (targets (lastOf (blockAt x i))) 0) (fun k => by
          simp only [cubbyref09_Succs.j0]
          rw [if_neg (by simp), if_pos (by omega), if_pos h1]
          show (if 0 ≤ wrap64 (((blockAt x i).length : Int) - 1) then _ else _) = _
          rw [if_pos p1]
          show (if wrap64 (((blockAt x i).length : Int) - 1) < ((blockAt x i).length : Int) then _ else _) = _
          rw [if_pos p2]
          show (cubbyref07_Targets.f (rd_TIns (blockAt x i) (wrap64 (((blockAt x i).length : Int) - 1))).f0 (rd_TIns (blockAt x i) (wrap64 (((blockAt x i).length : Int) - 1))).f1 (rd_TIns (blockAt x i) (wrap64 (((blockAt x i).length : Int) - 1))).f2 (rd_TIns (blockAt x i) (wrap64 (((blockAt x i).length : Int) - 1))).f3 (rd_TIns (blockAt x i) (wrap64 (((blockAt x i).length : Int) - 1))).f4 (rd_TIns (blockAt x i) (wrap64 (((blockAt x i).length : Int) - 1))).f5).bind _ = _
          rw [p3, ref_targets]
          rfl) ?_
        have := refsuccs_loop x (targets (lastOf (blockAt x i))) (by omega) _ 0 [] rfl (by omega) (by simp; omega)
        simpa using this
    · refine Ev.congr (f := fun k => cubbyref09_Succs.j0 k x i [] true) (fun k => by unfold cubbyref09_Succs.f; simp only [Option.bind_some]; rw [if_neg h0, if_pos (by omega)]) ?_
      rw [show succs x i = [] by unfold succs; rw [if_pos (Or.inr (Or.inl (by omega)))]]
      exact nil
end Go.Proofs.YtebnnknijbgekaaDoor.PlainSuccs
section

end
namespace Go.Proofs.YtebnnknijbgekaaDoor.PlainIr
open Go Go.RowKit Go.Proofs.YtebnnknijbgekaaDoorW.PrintWords Go.Proofs.YtebnnknijbgekaaDoorW.PrintMore Go.Proofs.YtebnnknijbgekaaDoor.Q Go.Proofs.YtebnnknijbgekaaDoor.Plain
set_option linter.unusedVariables false
set_option linter.unusedSimpArgs false

theorem op_cases {op : Int} (h : 1 ≤ op ∧ op ≤ 14) : op = 1 ∨ op = 2 ∨ op = 3 ∨ op = 4 ∨ op = 5 ∨ op = 6 ∨ op = 7 ∨ op = 8 ∨ op = 9 ∨ op = 10 ∨ op = 11 ∨ op = 12 ∨ op = 13 ∨ op = 14 := by omega
theorem shape_none {op : Int} (h : ¬ (1 ≤ op ∧ op ≤ 14)) : ir_shape.f op = some ⟨#[]⟩ := by
  unfold ir_shape.f
  split
  · have : op = 0 := by omega
    subst this
    rfl
  · rfl
theorem nil_toList : (⟨#[]⟩ : ByteArray).toList = [] := by decide +kernel
/-- What an instruction reads. -/
def uses (op a b : Int) (args : List Int) : List Int :=
  if op = 2 ∨ op = 8 ∨ op = 10 ∨ op = 13 ∨ op = 14 then [a] else if (3 ≤ op ∧ op ≤ 7) ∨ op = 9 then [a, b] else if op = 11 then args else []
/-- What it writes. -/
def defOf (op d : Int) : Int := if (1 ≤ op ∧ op ≤ 8) ∨ op = 11 then d else -1
/-- Is it a block's last one? -/
def lastOp (op : Int) : Bool := decide (12 ≤ op ∧ op ≤ 14)
def targets7 (op d a b : Int) : List Int := if op = 12 then [a] else if op = 13 then [b, d] else []

/-- An op's shape: is each of its three fields a register? -/
structure Sh (op : Int) (s : ByteArray) : Prop where
  ne : ¬ s.toList = []
  size : s.size = 3
  b0 : bt s 0 = 114 ↔ ((1 ≤ op ∧ op ≤ 8) ∨ op = 11)
  b1 : bt s 1 = 114 ↔ ((2 ≤ op ∧ op ≤ 10) ∨ op = 13 ∨ op = 14)
  b2 : bt s 2 = 114 ↔ ((3 ≤ op ∧ op ≤ 7) ∨ op = 9)
  f0 : bt s 0 = 32 ↔ (op = 9 ∨ op = 10 ∨ op = 12 ∨ op = 14)
  f1 : bt s 1 = 32 ↔ op = 11
  f2 : bt s 2 = 32 ↔ (op = 1 ∨ op = 2 ∨ op = 8 ∨ op = 10 ∨ op = 11 ∨ op = 12 ∨ op = 14)
  n0 : ¬ bt s 0 = 110
  n1 : bt s 1 = 110 ↔ op = 1
  n2 : ¬ bt s 2 = 110
theorem shape_some {op : Int} (h : 1 ≤ op ∧ op ≤ 14) : ∃ s, ir_shape.f op = some s ∧ Sh op s := by
  rcases op_cases h with rfl | rfl | rfl | rfl | rfl | rfl | rfl | rfl | rfl | rfl | rfl | rfl | rfl | rfl
  all_goals exact ⟨_, rfl, by decide +kernel, rfl, by decide +kernel, by decide +kernel, by decide +kernel, by decide +kernel, by decide +kernel, by decide +kernel, by decide +kernel, by decide +kernel, by decide +kernel⟩

theorem def_eq (op d a b : Int) (nm : ByteArray) (args : List Int) : ir_Def.f op d a b nm args = some (defOf op d) := by
  unfold ir_Def.f defOf
  by_cases h : 1 ≤ op ∧ op ≤ 14
  · obtain ⟨s, hs, S⟩ := shape_some h
    rw [hs, Option.bind_some, if_neg S.ne, if_pos (by rw [S.size]; decide)]
    by_cases h0 : (1 ≤ op ∧ op ≤ 8) ∨ op = 11
    · rw [if_pos (S.b0.2 h0), if_pos h0]
    · rw [if_neg (fun h => h0 (S.b0.1 h)), if_neg h0]
  · rw [shape_none h, Option.bind_some, if_pos nil_toList, if_neg (by omega)]
theorem refdef_eq (op d a b : Int) (nm : ByteArray) (args : List Int) : cubbyref07_Def.f op d a b nm args = some (defOf op d) := by
  unfold cubbyref07_Def.f defOf
  by_cases h : (1 ≤ op ∧ op ≤ 8) ∨ op = 11
  · rw [if_pos h]
    repeat' split
    all_goals first | rfl | omega
  · rw [if_neg h]
    repeat' split
    all_goals first | rfl | omega
theorem last_eq (op : Int) : ir_Last.f op = some (lastOp op) := by
  unfold ir_Last.f lastOp
  split
  · rw [Option.some.injEq, decide_eq_decide]
    omega
  · rw [decide_eq_false (by omega)]
theorem reflast_eq (op : Int) : cubbyref07_Last.f op = some (lastOp op) := by
  unfold cubbyref07_Last.f lastOp
  split
  · rw [decide_eq_true (by omega)]
  · split
    · rw [decide_eq_true (by omega)]
    · by_cases h : op = 14
      · rw [decide_eq_true (by omega), beq_iff_eq.2 h]
      · rw [decide_eq_false (by omega), beq_eq_false_iff_ne.2 h]
theorem targets_eq (op d a b : Int) (nm : ByteArray) (args : List Int) : ir_Targets.f op d a b nm args = some (targets7 op d a b) := by
  unfold ir_Targets.f targets7
  split
  · rfl
  · split <;> rfl
theorem reftargets_eq (op d a b : Int) (nm : ByteArray) (args : List Int) : cubbyref07_Targets.f op d a b nm args = some (targets7 op d a b) := by
  unfold cubbyref07_Targets.f targets7
  simp only [Option.bind_some]
  split
  · rw [if_pos (by simp)]; rfl
  · split
    · rw [if_pos (by simp)]; rfl
    · rfl

theorem uses_j (k : Nat) (out : List Int) (s : ByteArray) (op d a b : Int) (nm : ByteArray) (args : List Int) (ho : out.length ≤ 1) (ha : args.length ≤ 17592186043904) (hs : s.size = 3) :
    ir_Uses.j0 (k + 1) out s op d a b nm args = some (out ++ (if bt s 2 = 114 then [b] else []) ++ (if op = 11 then args else [])) := by
  simp only [ir_Uses.j0]
  rw [if_pos (by rw [hs]; decide)]
  split
  · rw [if_pos (by omega), Option.bind_some]
    split
    · rw [if_pos (by simp; omega)]
    · rw [List.append_nil]
  · split
    · rw [if_pos (by omega)]
      simp
    · simp
theorem uses_ev (op d a b : Int) (nm : ByteArray) (args : List Int) (ha : args.length ≤ 17592186043904) : Ev (fun k => ir_Uses.f k op d a b nm args) (uses op a b args) := by
  refine ⟨1, fun k hk => ?_⟩
  obtain ⟨k, rfl⟩ : ∃ m, k = m + 1 := ⟨k - 1, by omega⟩
  show ir_Uses.f (k + 1) op d a b nm args = some (uses op a b args)
  unfold ir_Uses.f
  by_cases h : 1 ≤ op ∧ op ≤ 14
  · obtain ⟨s, hs, S⟩ := shape_some h
    rw [hs, Option.bind_some, if_neg S.ne, if_pos (by rw [S.size]; decide)]
    have hb2 : (if bt s 2 = 114 then [b] else []) = if (3 ≤ op ∧ op ≤ 7) ∨ op = 9 then [b] else [] := by
      by_cases h2 : (3 ≤ op ∧ op ≤ 7) ∨ op = 9
      · rw [if_pos (S.b2.2 h2), if_pos h2]
      · rw [if_neg (fun h => h2 (S.b2.1 h)), if_neg h2]
    by_cases h1 : (2 ≤ op ∧ op ≤ 10) ∨ op = 13 ∨ op = 14
    · rw [if_pos (S.b1.2 h1), if_pos (by simp), uses_j k _ s op d a b nm args (by simp) ha S.size, hb2]
      unfold uses
      by_cases h2 : (3 ≤ op ∧ op ≤ 7) ∨ op = 9
      · rw [if_pos h2, if_neg (by omega), if_neg (by omega), if_pos h2]
        rfl
      · rw [if_neg h2, if_neg (by omega), if_pos (by omega)]
        rfl
    · rw [if_neg (fun h => h1 (S.b1.1 h)), uses_j k _ s op d a b nm args (by simp) ha S.size, hb2]
      unfold uses
      rw [if_neg (show ¬ ((3 ≤ op ∧ op ≤ 7) ∨ op = 9) by omega), if_neg (show ¬ (op = 2 ∨ op = 8 ∨ op = 10 ∨ op = 13 ∨ op = 14) by omega), if_neg (show ¬ ((3 ≤ op ∧ op ≤ 7) ∨ op = 9) by omega)]
      simp
  · rw [shape_none h, Option.bind_some, if_pos nil_toList]
    unfold uses
    rw [if_neg (by omega), if_neg (by omega), if_neg (by omega)]
theorem refuses_j1 (k : Nat) (op : Int) (c : Bool) (d a b : Int) (nm : ByteArray) (args : List Int) (ha : args.length ≤ 17592186043904) (hc : c = decide ((3 ≤ op ∧ op ≤ 7) ∨ op = 9)) (h : ¬ (op = 2 ∨ op = 8 ∨ op = 10 ∨ op = 13 ∨ op = 14)) :
    cubbyref07_Uses.j1 (k + 1) [] op c op d a b nm args = some (uses op a b args) := by
  simp only [cubbyref07_Uses.j1, Option.bind_some]
  unfold uses
  rw [if_neg h]
  by_cases h2 : (3 ≤ op ∧ op ≤ 7) ∨ op = 9
  · rw [if_pos (by rw [hc]; exact decide_eq_true h2), if_pos (by simp), if_pos h2]
    rfl
  · rw [if_neg (by rw [hc]; simpa using h2), if_neg h2]
    split
    · rw [if_pos (by simp; omega)]
      rfl
    · rfl
theorem refuses_ev (op d a b : Int) (nm : ByteArray) (args : List Int) (ha : args.length ≤ 17592186043904) : Ev (fun k => cubbyref07_Uses.f k op d a b nm args) (uses op a b args) := by
  refine ⟨2, fun k hk => ?_⟩
  obtain ⟨k, rfl⟩ : ∃ m, k = m + 2 := ⟨k - 2, by omega⟩
  show cubbyref07_Uses.f (k + 2) op d a b nm args = some (uses op a b args)
  unfold cubbyref07_Uses.f
  simp only [Option.bind_some]
  have yes : (op = 2 ∨ op = 8 ∨ op = 10 ∨ op = 13 ∨ op = 14) → cubbyref07_Uses.j0 (k + 2) [] op true op d a b nm args = some (uses op a b args) := fun h => by
    simp only [cubbyref07_Uses.j0, if_true]
    rw [if_pos (by simp)]
    unfold uses
    rw [if_pos h]
    rfl
  by_cases h1 : op = 2
  · rw [if_pos h1, beq_iff_eq.2 h1]
    exact yes (.inl h1)
  rw [if_neg h1]
  by_cases h2 : op = 8
  · rw [if_pos h2, beq_iff_eq.2 h2]
    exact yes (by omega)
  rw [if_neg h2]
  by_cases h3 : op = 10
  · rw [if_pos h3, beq_iff_eq.2 h3]
    exact yes (by omega)
  rw [if_neg h3]
  by_cases h4 : op = 14
  · rw [if_pos h4, beq_iff_eq.2 h4]
    exact yes (by omega)
  rw [if_neg h4]
  by_cases h5 : op = 13
  · rw [beq_iff_eq.2 h5]
    exact yes (by omega)
  rw [beq_eq_false_iff_ne.2 h5]
  simp only [cubbyref07_Uses.j0]
  rw [if_neg (by simp)]
  have g : ∀ c, c = decide ((3 ≤ op ∧ op ≤ 7) ∨ op = 9) → cubbyref07_Uses.j1 (k + 1) [] op c op d a b nm args = some (uses op a b args) := fun c hc => refuses_j1 k op c d a b nm args ha hc (by omega)
  repeat' split
  all_goals
    refine g _ ?_
    first
    | (rename_i h; rw [beq_iff_eq.2 h, decide_eq_true (by omega)])
    | (by_cases h9 : op = 9
       · rw [beq_iff_eq.2 h9, decide_eq_true (by omega)]
       · rw [beq_eq_false_iff_ne.2 h9, decide_eq_false (by omega)])
end Go.Proofs.YtebnnknijbgekaaDoor.PlainIr
namespace Go.Proofs.YtebnnknijbgekaaDoor.PlainName
open Go Go.RowKit Go.Proofs.YtebnnknijbgekaaDoorW.PrintWords Go.Proofs.YtebnnknijbgekaaDoorW.PrintMore Go.Proofs.YtebnnknijbgekaaDoor.Q Go.Proofs.YtebnnknijbgekaaDoor.Plain
set_option linter.unusedVariables false
set_option linter.unusedSimpArgs false

/-- A small letter or a digit. -/
def lowD (x : UInt8) : Bool := decide ((97 ≤ x.toNat ∧ x.toNat ≤ 122) ∨ (48 ≤ x.toNat ∧ x.toNat ≤ 57))
/-- A name. -/
def nameOk (s : ByteArray) : Bool := decide (1 ≤ s.size ∧ s.size ≤ 12 ∧ 97 ≤ bt s 0) && s.data.toList.all lowD

theorem cut_has (x : UInt8) : nameCut.data.toList.contains x = lowD x := by
  have h : ∀ n, n < 256 → nameCut.data.toList.contains (UInt8.ofNat n) = lowD (UInt8.ofNat n) := by decide +kernel
  have := h x.toNat x.toNat_lt
  rwa [UInt8.ofNat_toNat] at this
theorem dw_nil {p : UInt8 → Bool} : ∀ {l : List UInt8}, l.dropWhile p = [] ↔ ∀ x, x ∈ l → p x = true
  | [] => by simp
  | a :: t => by
    rw [List.dropWhile_cons]
    by_cases h : p a = true
    · rw [if_pos h, dw_nil (l := t)]
      constructor
      · intro g x hx
        rcases List.mem_cons.1 hx with rfl | hx
        · exact h
        · exact g x hx
      · exact fun g x hx => g x (List.mem_cons_of_mem _ hx)
    · rw [if_neg h]
      constructor
      · intro g
        exact absurd g (by simp)
      · intro g
        exact absurd (g a List.mem_cons_self) h
theorem trim_nil (l cs : List UInt8) : Lib.trimS l cs = [] ↔ l.all (cs.contains ·) = true := by
  unfold Lib.trimS Lib.trimLeftS Lib.trimRightS
  constructor
  · intro h
    rw [dw_nil] at h
    rw [List.all_eq_true]
    intro x hx
    have h2 : x ∈ l.reverse := List.mem_reverse.2 hx
    rw [← List.takeWhile_append_dropWhile (p := fun x => cs.contains x) (l := l.reverse)] at h2
    rcases List.mem_append.1 h2 with h3 | h3
    · exact (List.all_eq_true.1 (List.all_takeWhile (p := fun x => cs.contains x) (l := l.reverse))) x h3
    · exact h x (List.mem_reverse.2 h3)
  · intro h
    have h1 : l.reverse.dropWhile (cs.contains ·) = [] := by
      rw [dw_nil]
      intro x hx
      exact List.all_eq_true.1 h x (List.mem_reverse.1 hx)
    rw [h1]
    rfl
theorem size_list (s : ByteArray) : s.data.toList.length = s.size := by simp
theorem bt_get {s : ByteArray} {j : Nat} (h : j < s.data.toList.length) : bt s (j : Int) = ((s.data.toList[j]).toNat : Int) := by
  have hs := size_list s
  unfold bt
  rw [dif_pos (by omega)]
  rfl
theorem name_eq (s : ByteArray) : ir_Name.f s = some (nameOk s) := by
  have hs := size_list s
  unfold ir_Name.f
  rw [toList_data]
  by_cases h0 : s.data.toList = []
  · have : s.size = 0 := by
      rw [h0] at hs
      exact hs.symm
    rw [if_pos h0]
    unfold nameOk
    rw [decide_eq_false (by omega)]
    rfl
  · have h1 : 0 < s.size := by
      rw [← hs]
      exact List.length_pos_iff.2 h0
    rw [if_neg h0]
    by_cases h2 : (s.size : Int) > 12
    · rw [if_pos h2]
      unfold nameOk
      rw [decide_eq_false (by omega)]
      rfl
    · rw [if_neg h2, if_pos (by omega)]
      by_cases h3 : bt s 0 < 97
      · rw [if_pos h3]
        unfold nameOk
        rw [decide_eq_false (by omega)]
        rfl
      · rw [if_neg h3]
        unfold strings_Trim.f
        rw [if_pos ⟨by omega, rfl⟩]
        simp only [Option.bind_some]
        rw [toList_data]
        unfold nameOk
        rw [decide_eq_true (by omega), Bool.true_and, List.toList_toArray]
        congr 1
        have hc : s.data.toList.all (nameCut.data.toList.contains ·) = s.data.toList.all lowD := by
          congr 1
          funext x
          exact cut_has x
        have ht := trim_nil s.data.toList nameCut.data.toList
        rw [hc] at ht
        by_cases ha : s.data.toList.all lowD = true
        · rw [ha]
          exact beq_iff_eq.2 (ht.2 ha)
        · rw [Bool.not_eq_true _ |>.mp ha]
          exact beq_eq_false_iff_ne.2 fun e => ha (ht.1 e)

/-- What is left to look at, from the place j on. -/
def restOk (s : ByteArray) (j : Nat) : Bool := (s.data.toList.drop j).all lowD && decide (j = 0 → 97 ≤ bt s 0)
theorem refname_loop (s : ByteArray) (hl : s.size ≤ 12) : ∀ (d j : Nat), s.size - j = d → j ≤ s.size → (j = 0 → 0 < s.size) → Ev (fun k => cubbyref07_Name.l0 k s (j : Int)) (restOk s j) := by
  have hs := size_list s
  intro d
  induction d with
  | zero =>
    intro j hd hj h0
    have : restOk s j = true := by
      unfold restOk
      rw [List.drop_eq_nil_of_le (by omega)]
      simp
      omega
    rw [this]
    exact Ev.step (f := fun _ => some true) (fun k => by simp only [cubbyref07_Name.l0]; rw [if_neg (by omega)]) (Ev.now _)
  | succ d ih =>
    intro j hd hj h0
    have hlt : j < s.data.toList.length := by omega
    have hb := bt_get hlt
    have hR : restOk s j = (lowD (s.data.toList[j]) && decide (j = 0 → 97 ≤ bt s 0) && restOk s (j + 1)) := by
      unfold restOk
      rw [drop_cons hlt]
      simp
      cases lowD s.data.toList[j] <;> cases (List.drop (j + 1) s.data.toList).all lowD <;> simp
    have hlow : lowD (s.data.toList[j]) = decide ((97 ≤ bt s (j : Int) ∧ bt s (j : Int) ≤ 122) ∨ (48 ≤ bt s (j : Int) ∧ bt s (j : Int) ≤ 57)) := by
      unfold lowD
      rw [hb]
      apply decide_eq_decide.2
      omega
    have hj0 : j = 0 → bt s (j : Int) = bt s 0 := by
      rintro rfl
      rfl
    rw [hR, hlow]
    have hstep : ∀ k, cubbyref07_Name.l0 (k + 1) s (j : Int) = (if (97 ≤ bt s (j : Int) ∧ bt s (j : Int) ≤ 122) ∨ ((48 ≤ bt s (j : Int) ∧ bt s (j : Int) ≤ 57) ∧ j ≠ 0) then cubbyref07_Name.l0 k s ((j + 1 : Nat) : Int) else some false) := by
      intro k
      simp only [cubbyref07_Name.l0]
      rw [if_pos (by omega : (j : Int) < (s.size : Int)), if_pos (by omega : (0 : Int) ≤ (j : Int)), wrap_nat (by omega)]
      repeat' split
      all_goals first
        | rfl
        | omega
    by_cases c : (97 ≤ bt s (j : Int) ∧ bt s (j : Int) ≤ 122) ∨ ((48 ≤ bt s (j : Int) ∧ bt s (j : Int) ≤ 57) ∧ j ≠ 0)
    · refine Ev.step (fun k => (hstep k).trans (if_pos c)) ?_
      rw [decide_eq_true (by omega), decide_eq_true (by intro h; have := hj0 h; omega), Bool.true_and, Bool.true_and]
      exact ih (j + 1) (by omega) (by omega) (by omega)
    · refine Ev.step (f := fun _ => some false) (fun k => (hstep k).trans (if_neg c)) ?_
      have : (decide ((97 ≤ bt s (j : Int) ∧ bt s (j : Int) ≤ 122) ∨ (48 ≤ bt s (j : Int) ∧ bt s (j : Int) ≤ 57)) && decide (j = 0 → 97 ≤ bt s 0)) = false := by
        by_cases c1 : (97 ≤ bt s (j : Int) ∧ bt s (j : Int) ≤ 122) ∨ (48 ≤ bt s (j : Int) ∧ bt s (j : Int) ≤ 57)
        · rw [decide_eq_false (p := (j = 0 → 97 ≤ bt s 0)) (fun h => by
            have h9 : j = 0 := by omega
            have := hj0 h9
            have := h h9
            omega), Bool.and_false]
        · rw [decide_eq_false c1, Bool.false_and]
      rw [this, Bool.false_and]
      exact Ev.now _
theorem refname_ev (s : ByteArray) : Ev (fun k => cubbyref07_Name.f k s) (nameOk s) := by
  have hyes : (s.size < 1 ∨ 12 < s.size) → Ev (fun k => cubbyref07_Name.j0 k s true) (nameOk s) := fun h => by
    have : nameOk s = false := by
      unfold nameOk
      rw [decide_eq_false (by omega)]
      rfl
    rw [this]
    exact Ev.step (f := fun _ => some false) (fun k => by simp only [cubbyref07_Name.j0, if_true]) (Ev.now _)
  by_cases h1 : (s.size : Int) < 1
  · exact Ev.congr (fun k => by unfold cubbyref07_Name.f; rw [if_pos h1]) (hyes (by omega))
  refine Ev.congr (f := fun k => cubbyref07_Name.j0 k s (decide ((s.size : Int) > 12))) (fun k => by unfold cubbyref07_Name.f; rw [if_neg h1]) ?_
  by_cases h2 : (s.size : Int) > 12
  · rw [decide_eq_true h2]
    exact hyes (by omega)
  · rw [decide_eq_false h2]
    refine Ev.step (f := fun k => cubbyref07_Name.l0 k s ((0 : Nat) : Int)) (fun k => by simp only [cubbyref07_Name.j0]; rw [if_neg (by simp)]; rfl) ?_
    have := refname_loop s (by omega) s.size 0 (by omega) (by omega) (by omega)
    have hR : restOk s 0 = nameOk s := by
      unfold restOk nameOk
      rw [List.drop_zero, Bool.and_comm]
      congr 1
      apply decide_eq_decide.2
      constructor
      · intro h
        exact ⟨by omega, by omega, h rfl⟩
      · intro h _
        exact h.2.2
    rw [← hR]
    exact this
end Go.Proofs.YtebnnknijbgekaaDoor.PlainName
namespace Go.Proofs.YtebnnknijbgekaaDoor.PlainOne
open Go Go.RowKit Go.Proofs.YtebnnknijbgekaaDoorW.PrintWords Go.Proofs.YtebnnknijbgekaaDoorW.PrintMore Go.Proofs.YtebnnknijbgekaaDoor.Q Go.Proofs.YtebnnknijbgekaaDoor.Plain Go.Proofs.YtebnnknijbgekaaDoor.PlainIr Go.Proofs.YtebnnknijbgekaaDoor.PlainName
set_option linter.unusedVariables false
set_option linter.unusedSimpArgs false

/-- Does it write a register? -/
def hasD (op : Int) : Prop := (1 ≤ op ∧ op ≤ 8) ∨ op = 11
instance (op : Int) : Decidable (hasD op) := by unfold hasD; infer_instance
/-- Is what the op does not have 0, or empty? -/
def bareP (op d a b : Int) (nm : ByteArray) (args : List Int) : Prop :=
  (op = 11 ∨ (nm.toList = ([] : List UInt8) ∧ args.length = 0)) ∧ ((op = 9 ∨ op = 10 ∨ op = 12 ∨ op = 14) → d = 0) ∧ (op = 11 → a = 0) ∧ ((op = 1 ∨ op = 2 ∨ op = 8 ∨ op = 10 ∨ op = 11 ∨ op = 12 ∨ op = 14) → b = 0)
instance (op d a b : Int) (nm : ByteArray) (args : List Int) : Decidable (bareP op d a b nm args) := by unfold bareP; infer_instance
def e5 (op : Int) (args : List Int) : Int := if op = 11 ∧ 4 < args.length then 192 else 0
def e4 (op : Int) (nm : ByteArray) (args : List Int) : Int := if op = 11 ∧ nameOk nm = false then 70 else e5 op args
def e3 (blocks op d a b : Int) (nm : ByteArray) (args : List Int) : Int := if (targets7 op d a b).any (oddReg blocks) = true then 74 else e4 op nm args
def e2 (blocks op d a b : Int) (nm : ByteArray) (args : List Int) : Int := if op = 1 ∧ (a < 0 ∨ 65536 ≤ a) then 81 else e3 blocks op d a b nm args
def e1 (regs blocks op d a b : Int) (nm : ByteArray) (args : List Int) : Int := if (hasD op ∧ oddReg regs d = true) ∨ (uses op a b args).any (oddReg regs) = true then 73 else e2 blocks op d a b nm args
/-- One instruction's error, in a function of so many registers and blocks. -/
def oneE (regs blocks op d a b : Int) (nm : ByteArray) (args : List Int) (last : Bool) : Int := if (1 ≤ op ∧ op ≤ 14) ∧ lastOp op = last ∧ bareP op d a b nm args then e1 regs blocks op d a b nm args else 72

theorem odd_iff (m n : Int) : oddReg m n = true ↔ n < 0 ∨ m ≤ n := by
  unfold oddReg
  exact decide_eq_true_iff
theorem any_odd {m : Int} {l : List Int} : l.any (oddReg m) = true ↔ ∃ i : Nat, i < l.length ∧ oddReg m (rd l (i : Int)) = true := by
  rw [List.any_eq_true]
  constructor
  · rintro ⟨x, hx, h⟩
    obtain ⟨i, hi, rfl⟩ := List.mem_iff_getElem.1 hx
    exact ⟨i, hi, by rw [rd_get hi]; exact h⟩
  · rintro ⟨i, hi, h⟩
    rw [rd_get hi] at h
    exact ⟨_, List.getElem_mem hi, h⟩

/-! ### the reference -/
theorem refwithin_ev (l : List Int) (most : Int) (hl : l.length ≤ 4611686018427387904) : Ev (fun k => cubbyref07_within.f k l most) (!(l.any (oddReg most))) := by
  show Ev (fun k => cubbyref07_within.l0 k l most ((0 : Nat) : Int)) _
  refine seek (fun k i => cubbyref07_within.l0 k l most (i : Int)) l.length (fun i => oddReg most (rd l (i : Int)) = true) false _ ?_ ?_ ?_ ?_
  · intro i hi hb
    rw [odd_iff] at hb
    refine Ev.step (f := fun _ => some false) (fun k => ?_) (Ev.now _)
    simp only [cubbyref07_within.l0]
    rw [if_pos (by omega), if_pos (by omega)]
    split
    · rfl
    · rw [if_pos (by omega)]
  · intro i hi hb r' hE
    rw [odd_iff] at hb
    refine Ev.step (fun k => ?_) hE
    simp only [cubbyref07_within.l0]
    rw [if_pos (by omega), if_pos (by omega), if_neg (by omega), if_neg (by omega), wrap_nat (by omega)]
  · intro h
    rw [any_odd.2 h]
    rfl
  · intro h
    have : l.any (oddReg most) = false := by
      rw [← Bool.not_eq_true, any_odd]
      rintro ⟨i, hi, hb⟩
      exact h i hi hb
    rw [this]
    exact Ev.step (f := fun _ => some true) (fun k => by simp only [cubbyref07_within.l0]; rw [if_neg (by omega)]) (Ev.now _)

theorem refbare_ev (op d a b : Int) (nm : ByteArray) (args : List Int) (h : 1 ≤ op ∧ op ≤ 14) : Ev (fun k => cubbyref07_bare.f k op d a b nm args) (decide (bareP op d a b nm args)) := by
  have h3 : ∀ B, (B = true ↔ op = 10 ∨ op = 12 ∨ op = 14) → (op = 10 ∨ op = 11 ∨ op = 12 ∨ op = 14) → Ev (fun k => cubbyref07_bare.j3 k op B op d a b nm args) (if op = 11 then decide (a = 0 ∧ b = 0) else decide (d = 0 ∧ b = 0)) := by
    intro B hB ho
    refine Ev.step (f := fun _ => some _) (fun k => ?_) (Ev.now _)
    simp only [cubbyref07_bare.j3]
    by_cases c : op = 11
    · rw [if_neg (by rw [hB]; omega), if_pos c, if_pos c]
      by_cases c1 : a = 0
      · rw [if_pos c1]
        simp [c1]
        rfl
      · rw [if_neg c1]
        simp [c1]
    · rw [if_pos (by rw [hB]; omega), if_neg c]
      by_cases c1 : d = 0
      · rw [if_pos c1]
        simp [c1]
        rfl
      · rw [if_neg c1]
        simp [c1]
  have h2 : ∀ B, (B = true ↔ (3 ≤ op ∧ op ≤ 7) ∨ op = 13) → ¬ (op = 1 ∨ op = 2 ∨ op = 8) → Ev (fun k => cubbyref07_bare.j2 k op B op d a b nm args) (if (3 ≤ op ∧ op ≤ 7) ∨ op = 13 then true else if op = 9 then decide (d = 0) else if op = 11 then decide (a = 0 ∧ b = 0) else decide (d = 0 ∧ b = 0)) := by
    intro B hB ho
    by_cases c : (3 ≤ op ∧ op ≤ 7) ∨ op = 13
    · rw [if_pos c]
      exact Ev.step (f := fun _ => some true) (fun k => by simp only [cubbyref07_bare.j2]; rw [if_pos (hB.2 c)]) (Ev.now _)
    · rw [if_neg c]
      by_cases c1 : op = 9
      · rw [if_pos c1]
        exact Ev.step (f := fun _ => some (d == 0)) (fun k => by simp only [cubbyref07_bare.j2]; rw [if_neg (by rw [hB]; exact c), if_pos c1]) (Ev.now _)
      · rw [if_neg c1]
        by_cases c2 : op = 10
        · exact Ev.step (fun k => by simp only [cubbyref07_bare.j2]; rw [if_neg (by rw [hB]; exact c), if_neg c1, if_pos c2]) (h3 (op == 10) (by rw [beq_iff_eq]; omega) (by omega))
        · by_cases c3 : op = 14
          · exact Ev.step (fun k => by simp only [cubbyref07_bare.j2]; rw [if_neg (by rw [hB]; exact c), if_neg c1, if_neg c2, if_pos c3]) (h3 (op == 14) (by rw [beq_iff_eq]; omega) (by omega))
          · exact Ev.step (fun k => by simp only [cubbyref07_bare.j2]; rw [if_neg (by rw [hB]; exact c), if_neg c1, if_neg c2, if_neg c3]) (h3 (op == 12) (by rw [beq_iff_eq]; omega) (by omega))
  have h1 : ∀ B, (B = true ↔ op = 1 ∨ op = 2 ∨ op = 8) → Ev (fun k => cubbyref07_bare.j1 k op B op d a b nm args) (if op = 1 ∨ op = 2 ∨ op = 8 then decide (b = 0) else if (3 ≤ op ∧ op ≤ 7) ∨ op = 13 then true else if op = 9 then decide (d = 0) else if op = 11 then decide (a = 0 ∧ b = 0) else decide (d = 0 ∧ b = 0)) := by
    intro B hB
    by_cases c : op = 1 ∨ op = 2 ∨ op = 8
    · rw [if_pos c]
      exact Ev.step (f := fun _ => some (b == 0)) (fun k => by simp only [cubbyref07_bare.j1]; rw [if_pos (hB.2 c)]) (Ev.now _)
    · rw [if_neg c]
      have hn : ¬ B = true := by rw [hB]; exact c
      by_cases c3 : op = 3
      · exact Ev.step (fun k => by simp only [cubbyref07_bare.j1]; rw [if_neg hn, if_pos c3]) (h2 (op == 3) (by rw [beq_iff_eq]; omega) c)
      by_cases c4 : op = 4
      · exact Ev.step (fun k => by simp only [cubbyref07_bare.j1]; rw [if_neg hn, if_neg c3, if_pos c4]) (h2 (op == 4) (by rw [beq_iff_eq]; omega) c)
      by_cases c5 : op = 5
      · exact Ev.step (fun k => by simp only [cubbyref07_bare.j1]; rw [if_neg hn, if_neg c3, if_neg c4, if_pos c5]) (h2 (op == 5) (by rw [beq_iff_eq]; omega) c)
      by_cases c6 : op = 6
      · exact Ev.step (fun k => by simp only [cubbyref07_bare.j1]; rw [if_neg hn, if_neg c3, if_neg c4, if_neg c5, if_pos c6]) (h2 (op == 6) (by rw [beq_iff_eq]; omega) c)
      by_cases c7 : op = 7
      · exact Ev.step (fun k => by simp only [cubbyref07_bare.j1]; rw [if_neg hn, if_neg c3, if_neg c4, if_neg c5, if_neg c6, if_pos c7]) (h2 (op == 7) (by rw [beq_iff_eq]; omega) c)
      · exact Ev.step (fun k => by simp only [cubbyref07_bare.j1]; rw [if_neg hn, if_neg c3, if_neg c4, if_neg c5, if_neg c6, if_neg c7]) (h2 (op == 13) (by rw [beq_iff_eq]; omega) c)
  have h0 : Ev (fun k => cubbyref07_bare.j0 k false op d a b nm args) (if op = 1 ∨ op = 2 ∨ op = 8 then decide (b = 0) else if (3 ≤ op ∧ op ≤ 7) ∨ op = 13 then true else if op = 9 then decide (d = 0) else if op = 11 then decide (a = 0 ∧ b = 0) else decide (d = 0 ∧ b = 0)) := by
    by_cases c1 : op = 1
    · exact Ev.step (fun k => by simp only [cubbyref07_bare.j0]; rw [if_neg Bool.false_ne_true, if_pos c1]) (h1 (op == 1) (by rw [beq_iff_eq]; omega))
    by_cases c2 : op = 2
    · exact Ev.step (fun k => by simp only [cubbyref07_bare.j0]; rw [if_neg Bool.false_ne_true, if_neg c1, if_pos c2]) (h1 (op == 2) (by rw [beq_iff_eq]; omega))
    · exact Ev.step (fun k => by simp only [cubbyref07_bare.j0]; rw [if_neg Bool.false_ne_true, if_neg c1, if_neg c2]) (h1 (op == 8) (by rw [beq_iff_eq]; omega))
  have hsame : (op = 11 ∨ (nm.toList = ([] : List UInt8) ∧ args.length = 0)) → (if op = 1 ∨ op = 2 ∨ op = 8 then decide (b = 0) else if (3 ≤ op ∧ op ≤ 7) ∨ op = 13 then true else if op = 9 then decide (d = 0) else if op = 11 then decide (a = 0 ∧ b = 0) else decide (d = 0 ∧ b = 0)) = decide (bareP op d a b nm args) := by
    intro hb
    unfold bareP
    repeat' split
    all_goals first
      | (apply decide_eq_decide.2; constructor <;> intro hx <;> first | omega | (refine ⟨hb, ?_, ?_, ?_⟩ <;> omega))
      | (symm; apply decide_eq_true; refine ⟨hb, ?_, ?_, ?_⟩ <;> omega)
  by_cases c : op = 11
  · rw [← hsame (.inl c)]
    exact Ev.congr (fun k => by unfold cubbyref07_bare.f; rw [if_pos c]) h0
  · by_cases c1 : nm.toList = ([] : List UInt8)
    · refine Ev.congr (fun k => by unfold cubbyref07_bare.f; rw [if_neg c, if_pos c1]) ?_
      by_cases c2 : (args.length : Int) > 0
      · rw [decide_eq_true c2, decide_eq_false (by unfold bareP; omega)]
        exact Ev.step (f := fun _ => some false) (fun k => by simp only [cubbyref07_bare.j0]; rw [if_pos trivial]) (Ev.now _)
      · rw [decide_eq_false c2, ← hsame (.inr ⟨c1, by omega⟩)]
        exact h0
    · refine Ev.congr (fun k => by unfold cubbyref07_bare.f; rw [if_neg c, if_neg c1]) ?_
      rw [decide_eq_false (p := bareP op d a b nm args) (by
        unfold bareP
        rintro ⟨h4 | h4, _⟩
        · exact c h4
        · exact c1 h4.1)]
      exact Ev.step (f := fun _ => some false) (fun k => by simp only [cubbyref07_bare.j0]; rw [if_pos trivial]) (Ev.now _)
theorem uses_short {op a b : Int} {args : List Int} (ha : args.length ≤ 17592186043904) : (uses op a b args).length ≤ 4611686018427387904 := by
  unfold uses
  repeat' split
  all_goals first | omega | simp
theorem targets_short (op d a b : Int) : (targets7 op d a b).length ≤ 4611686018427387904 := by
  unfold targets7
  repeat' split
  all_goals simp
theorem defOf_iff {op d : Int} : (defOf op d = -1 ↔ ¬ hasD op ∨ d = -1) ∧ (hasD op → defOf op d = d) := by
  unfold defOf hasD
  constructor
  · split <;> omega
  · intro h
    rw [if_pos h]
section
variable (op d a b : Int) (nm : ByteArray) (args : List Int)
theorem r4 (B : Bool) : Ev (fun k => cubbyref07_One.j4 k B op d a b nm args) (if B = true then 70 else e5 op args) := by
  refine Ev.step (f := fun _ => some _) (fun k => ?_) (Ev.now _)
  simp only [cubbyref07_One.j4]
  unfold e5
  repeat' split
  all_goals first | rfl | omega
theorem r3 (blocks : Int) (B : Bool) : Ev (fun k => cubbyref07_One.j3 k blocks B op d a b nm args) (if B = true then 81 else e3 blocks op d a b nm args) := by
  cases B
  · rw [if_neg Bool.false_ne_true]
    refine Ev.step (fun k => by simp only [cubbyref07_One.j3]; rw [if_neg Bool.false_ne_true, reftargets_eq, Option.bind_some]) (Ev.bind (refwithin_ev (targets7 op d a b) blocks (targets_short op d a b)) ?_)
    unfold e3
    by_cases c : (targets7 op d a b).any (oddReg blocks) = true
    · rw [if_pos c, c]
      exact Ev.congr (f := fun _ => some 74) (fun k => by rw [if_neg (by decide)]) (Ev.now _)
    · rw [if_neg c, (Bool.not_eq_true _).mp c]
      unfold e4
      by_cases c1 : op = 11
      · refine Ev.congr (fun k => by rw [if_pos (by decide), if_pos c1]) (Ev.bind (refname_ev nm) ?_)
        have := r4 op d a b nm args (!nameOk nm)
        cases hn : nameOk nm
        · rw [hn] at this
          rw [if_pos ⟨c1, rfl⟩]
          exact this
        · rw [hn] at this
          rw [if_neg (by simp)]
          exact this
      · rw [if_neg (fun h => c1 h.1)]
        exact Ev.congr (fun k => by rw [if_pos (by decide), if_neg c1]) (r4 op d a b nm args false)
  · exact Ev.step (f := fun _ => some 81) (fun k => by simp only [cubbyref07_One.j3]; rw [if_pos trivial]) (Ev.now _)
theorem r2 (blocks : Int) (B : Bool) : Ev (fun k => cubbyref07_One.j2 k blocks B op d a b nm args) (if B = true then 73 else e2 blocks op d a b nm args) := by
  cases B
  · rw [if_neg Bool.false_ne_true]
    unfold e2
    by_cases c : op = 1
    · by_cases c1 : a < 0
      · rw [if_pos ⟨c, .inl c1⟩]
        exact Ev.step (fun k => by simp only [cubbyref07_One.j2]; rw [if_neg Bool.false_ne_true, if_pos c, if_pos c1]) (r3 op d a b nm args blocks true)
      · refine Ev.step (fun k => by simp only [cubbyref07_One.j2]; rw [if_neg Bool.false_ne_true, if_pos c, if_neg c1]) ?_
        have := r3 op d a b nm args blocks (decide (a ≥ 65536))
        by_cases c2 : a ≥ 65536
        · rw [if_pos ⟨c, .inr c2⟩]
          rw [decide_eq_true c2] at this ⊢
          exact this
        · rw [if_neg (by omega)]
          rw [decide_eq_false c2] at this ⊢
          exact this
    · rw [if_neg (by omega)]
      exact Ev.step (fun k => by simp only [cubbyref07_One.j2]; rw [if_neg Bool.false_ne_true, if_neg c]) (r3 op d a b nm args blocks false)
  · exact Ev.step (f := fun _ => some 73) (fun k => by simp only [cubbyref07_One.j2]; rw [if_pos trivial]) (Ev.now _)
theorem r1 (h : 1 ≤ op ∧ op ≤ 14) (blocks : Int) (B : Bool) : Ev (fun k => cubbyref07_One.j1 k blocks B op d a b nm args) (if B = true ∨ (hasD op ∧ d = -1) then 73 else e2 blocks op d a b nm args) := by
  cases B
  · have hd := (defOf_iff (op := op) (d := d)).1
    by_cases c : defOf op d = -1
    · by_cases c9 : op = 9
      · rw [if_neg (by unfold hasD; rintro (x | x) <;> first | exact absurd x (by decide) | omega)]
        exact Ev.step (fun k => by simp only [cubbyref07_One.j1]; rw [if_neg Bool.false_ne_true, refdef_eq, Option.bind_some, if_pos c, if_pos c9]) (r2 op d a b nm args blocks false)
      · by_cases c10 : op = 10
        · rw [if_neg (by unfold hasD; rintro (x | x) <;> first | exact absurd x (by decide) | omega)]
          exact Ev.step (fun k => by simp only [cubbyref07_One.j1]; rw [if_neg Bool.false_ne_true, refdef_eq, Option.bind_some, if_pos c, if_neg c9, if_pos c10]) (r2 op d a b nm args blocks false)
        · refine Ev.step (fun k => by simp only [cubbyref07_One.j1]; rw [if_neg Bool.false_ne_true, refdef_eq, Option.bind_some, if_pos c, if_neg c9, if_neg c10, reflast_eq, Option.bind_some]) ?_
          have := r2 op d a b nm args blocks (!lastOp op)
          by_cases cl : 12 ≤ op ∧ op ≤ 14
          · rw [if_neg (by unfold hasD; rintro (x | x) <;> first | exact absurd x (by decide) | omega)]
            rw [show lastOp op = true from decide_eq_true cl] at this ⊢
            exact this
          · rw [if_pos (.inr ⟨by unfold hasD; omega, by unfold hasD at hd; omega⟩)]
            rw [show lastOp op = false from decide_eq_false cl] at this ⊢
            exact this
    · rw [if_neg (by
        rintro (x | x)
        · exact absurd x (by decide)
        · exact c (hd.2 (.inr x.2)))]
      exact Ev.step (fun k => by simp only [cubbyref07_One.j1]; rw [if_neg Bool.false_ne_true, refdef_eq, Option.bind_some, if_neg c]) (r2 op d a b nm args blocks false)
  · rw [if_pos (.inl rfl)]
    exact Ev.step (f := fun _ => some 73) (fun k => by simp only [cubbyref07_One.j1]; rw [if_pos trivial]) (Ev.now _)
theorem r0 (h : 1 ≤ op ∧ op ≤ 14) (ha : args.length ≤ 17592186043904) (regs blocks : Int) (B : Bool) : Ev (fun k => cubbyref07_One.j0 k regs blocks B op d a b nm args) (if B = true then 72 else e1 regs blocks op d a b nm args) := by
  cases B
  · rw [if_neg Bool.false_ne_true]
    have hd := (defOf_iff (op := op) (d := d))
    have hj : Ev (fun k => (cubbyref07_Uses.f k op d a b nm args).bind fun t273 => (cubbyref07_within.f k t273 regs).bind fun t276 => cubbyref07_One.j1 k blocks (!t276) op d a b nm args) (if (uses op a b args).any (oddReg regs) = true ∨ (hasD op ∧ d = -1) then 73 else e2 blocks op d a b nm args) := by
      refine Ev.bind (refuses_ev op d a b nm args ha) (Ev.bind (refwithin_ev _ regs (uses_short ha)) ?_)
      have := r1 op d a b nm args h blocks ((uses op a b args).any (oddReg regs))
      rw [Bool.not_not]
      exact this
    by_cases c : defOf op d = -1
    · refine Ev.step (fun k => by simp only [cubbyref07_One.j0]; rw [if_neg Bool.false_ne_true, refdef_eq, Option.bind_some, if_pos c]) ?_
      have e : e1 regs blocks op d a b nm args = (if (uses op a b args).any (oddReg regs) = true ∨ (hasD op ∧ d = -1) then 73 else e2 blocks op d a b nm args) := by
        unfold e1
        have h1 : ((hasD op ∧ oddReg regs d = true) ∨ (uses op a b args).any (oddReg regs) = true) ↔ ((uses op a b args).any (oddReg regs) = true ∨ (hasD op ∧ d = -1)) := by
          rw [odd_iff]
          have h2 := hd.1.1 c
          constructor
          · rintro (⟨x, _⟩ | x)
            · exact .inr ⟨x, by rcases h2 with h2 | h2; exact absurd x h2; exact h2⟩
            · exact .inl x
          · rintro (x | ⟨x, y⟩)
            · exact .inr x
            · exact .inl ⟨x, .inl (by omega)⟩
        simp only [h1]
      rw [e]
      exact hj
    · have hh : hasD op := Decidable.byContradiction fun x => c (hd.1.2 (.inl x))
      have hdd := hd.2 hh
      have hne : d ≠ -1 := fun x => c (hd.1.2 (.inr x))
      by_cases c1 : d < 0
      · have e : e1 regs blocks op d a b nm args = 73 := by
          unfold e1
          rw [if_pos (.inl ⟨hh, (odd_iff _ _).2 (.inl c1)⟩)]
        rw [e]
        have := r1 op d a b nm args h blocks true
        rw [if_pos (.inl rfl)] at this
        exact Ev.step (fun k => by simp only [cubbyref07_One.j0]; rw [if_neg Bool.false_ne_true, refdef_eq, Option.bind_some, if_neg c, Option.bind_some, if_pos (by omega)]) this
      · by_cases c2 : d ≥ regs
        · have e : e1 regs blocks op d a b nm args = 73 := by
            unfold e1
            rw [if_pos (.inl ⟨hh, (odd_iff _ _).2 (.inr c2)⟩)]
          rw [e]
          have := r1 op d a b nm args h blocks true
          rw [if_pos (.inl rfl)] at this
          exact Ev.step (fun k => by simp only [cubbyref07_One.j0]; rw [if_neg Bool.false_ne_true, refdef_eq, Option.bind_some, if_neg c, Option.bind_some, if_neg (by omega), Option.bind_some, if_pos (by omega)]) this
        · have e : e1 regs blocks op d a b nm args = (if (uses op a b args).any (oddReg regs) = true ∨ (hasD op ∧ d = -1) then 73 else e2 blocks op d a b nm args) := by
            unfold e1
            have h1 : ((hasD op ∧ oddReg regs d = true) ∨ (uses op a b args).any (oddReg regs) = true) ↔ ((uses op a b args).any (oddReg regs) = true ∨ (hasD op ∧ d = -1)) := by
              rw [odd_iff]
              constructor
              · rintro (⟨_, x⟩ | x)
                · omega
                · exact .inl x
              · rintro (x | ⟨_, y⟩)
                · exact .inr x
                · exact absurd y hne
            simp only [h1]
          rw [e]
          exact Ev.step (fun k => by simp only [cubbyref07_One.j0]; rw [if_neg Bool.false_ne_true, refdef_eq, Option.bind_some, if_neg c, Option.bind_some, if_neg (by omega), Option.bind_some, if_neg (by omega)]) hj
  · exact Ev.step (f := fun _ => some 72) (fun k => by simp only [cubbyref07_One.j0]; rw [if_pos trivial]) (Ev.now _)
theorem refone_ev (ha : args.length ≤ 17592186043904) (regs blocks : Int) (last : Bool) : Ev (fun k => cubbyref07_One.f k op d a b nm args regs blocks last) (oneE regs blocks op d a b nm args last) := by
  unfold oneE
  have hyes : Ev (fun k => cubbyref07_One.j0 k regs blocks true op d a b nm args) 72 := Ev.step (f := fun _ => some 72) (fun k => by simp only [cubbyref07_One.j0]; rw [if_pos trivial]) (Ev.now _)
  by_cases c0 : op < 1
  · rw [if_neg (by omega)]
    exact Ev.congr (fun k => by unfold cubbyref07_One.f; rw [if_pos c0]) hyes
  by_cases c1 : op > 14
  · rw [if_neg (by omega)]
    exact Ev.congr (fun k => by unfold cubbyref07_One.f; rw [if_neg c0, if_pos c1]) hyes
  have h : 1 ≤ op ∧ op ≤ 14 := by omega
  by_cases c2 : lastOp op = last
  · refine Ev.congr (fun k => by unfold cubbyref07_One.f; rw [if_neg c0, if_neg c1, reflast_eq, Option.bind_some, if_neg (by simp [c2])]) (Ev.bind (refbare_ev op d a b nm args h) ?_)
    have := r0 op d a b nm args h ha regs blocks (!decide (bareP op d a b nm args))
    by_cases c3 : bareP op d a b nm args
    · rw [if_pos ⟨h, c2, c3⟩]
      rw [decide_eq_true c3] at this ⊢
      exact this
    · rw [if_neg (fun x => c3 x.2.2)]
      rw [decide_eq_false c3] at this ⊢
      exact this
  · rw [if_neg (fun x => c2 x.2.1)]
    exact Ev.congr (fun k => by unfold cubbyref07_One.f; rw [if_neg c0, if_neg c1, reflast_eq, Option.bind_some, if_pos (by simpa using c2)]) hyes
end
end Go.Proofs.YtebnnknijbgekaaDoor.PlainOne
namespace Go.Proofs.YtebnnknijbgekaaDoor.PlainLive
open Go Go.RowKit Go.Proofs.YtebnnknijbgekaaDoorW.PrintWords Go.Proofs.YtebnnknijbgekaaDoorW.PrintMore Go.Proofs.YtebnnknijbgekaaDoor.Q Go.Proofs.YtebnnknijbgekaaDoor.Plain Go.Proofs.YtebnnknijbgekaaDoor.PlainIr Go.Proofs.YtebnnknijbgekaaDoor.PlainBits Go.Proofs.YtebnnknijbgekaaDoor.PlainFix Go.Proofs.YtebnnknijbgekaaDoor.PlainSuccs Go.Proofs.YtebnnknijbgekaaDoor.PlainOne
set_option linter.unusedVariables false
set_option linter.unusedSimpArgs false

theorem mem_toL {R s r : Nat} : (r : Int) ∈ toL R s ↔ r < R ∧ s.testBit r = true := by
  unfold toL
  rw [List.mem_map]
  constructor
  · rintro ⟨q, hq, e⟩
    have : q = r := by omega
    subst this
    exact mem_toN.1 hq
  · intro h
    exact ⟨r, mem_toN.2 h, rfl⟩
theorem toL_nat {R s : Nat} {n : Int} (h : n ∈ toL R s) : ∃ r : Nat, n = r ∧ r < R ∧ s.testBit r = true := by
  unfold toL at h
  obtain ⟨q, hq, rfl⟩ := List.mem_map.1 h
  exact ⟨q, rfl, mem_toN.1 hq⟩
theorem toL_len (R s : Nat) : (toL R s).length ≤ R := by
  unfold toL
  rw [List.length_map]
  exact toN_len R s

/-! ### sets of numbers as bits -/
theorem foldB_bit (r : Nat) : ∀ (l : List Int) (s : Nat), (∀ n ∈ l, 0 ≤ n) → (l.foldl (fun s n => withB s n.toNat) s).testBit r = (s.testBit r || decide ((r : Int) ∈ l))
  | [], s, _ => by simp
  | n :: l, s, h => by
    have h0 := h n List.mem_cons_self
    rw [List.foldl_cons, foldB_bit r l _ (fun m hm => h m (List.mem_cons_of_mem _ hm)), withB_bit, Bool.or_assoc]
    congr 1
    rw [← Bool.decide_or]
    apply decide_eq_decide.2
    rw [List.mem_cons]
    constructor
    · rintro (e | e)
      · left
        omega
      · exact .inr e
    · rintro (e | e)
      · left
        omega
      · exact .inr e
theorem foldB_lt {R : Nat} : ∀ (l : List Int) (s : Nat), (∀ n ∈ l, 0 ≤ n ∧ n < R) → s < 2 ^ R → l.foldl (fun s n => withB s n.toNat) s < 2 ^ R
  | [], s, _, hs => hs
  | n :: l, s, h, hs => by
    have h0 := h n List.mem_cons_self
    exact foldB_lt l _ (fun m hm => h m (List.mem_cons_of_mem _ hm)) (withB_lt (by omega) hs)
theorem foldB_mono : ∀ (l : List Int) (s t : Nat), Sub s t → Sub (l.foldl (fun s n => withB s n.toNat) s) (l.foldl (fun s n => withB s n.toNat) t)
  | [], s, t, h => h
  | n :: l, s, t, h => by
    refine foldB_mono l _ _ fun r hr => ?_
    rw [withB_bit, Bool.or_eq_true] at hr ⊢
    rcases hr with hr | hr
    · exact .inl (h r hr)
    · exact .inr hr
/-- What is live ahead of an instruction, of what is behind. -/
def thrN (x : SIns) (s : Nat) : Nat := (uses x.f0 x.f2 x.f3 x.f5).foldl (fun s n => withB s n.toNat) (if 0 ≤ defOf x.f0 x.f1 then withoutB s (defOf x.f0 x.f1).toNat else s)
theorem thrN_mono (x : SIns) (s t : Nat) (h : Sub s t) : Sub (thrN x s) (thrN x t) := by
  unfold thrN
  apply foldB_mono
  split
  · intro r hr
    unfold withoutB at hr ⊢
    rw [Nat.testBit_and, Bool.and_eq_true] at hr ⊢
    exact ⟨h r hr.1, hr.2⟩
  · exact h
/-- The registers of an instruction are below R. -/
structure RegsOk (R : Nat) (x : SIns) : Prop where
  le : R ≤ 64
  use : ∀ n ∈ uses x.f0 x.f2 x.f3 x.f5, 0 ≤ n ∧ n < R
  def_ : defOf x.f0 x.f1 < R ∧ (0 ≤ defOf x.f0 x.f1 ∨ defOf x.f0 x.f1 = -1)
theorem thrN_lt {R : Nat} {x : SIns} (O : RegsOk R x) {s : Nat} (hs : s < 2 ^ R) : thrN x s < 2 ^ R := by
  unfold thrN
  apply foldB_lt _ _ O.use
  split
  · exact withoutB_lt hs
  · exact hs
theorem lt64 {R s : Nat} (hR : R ≤ 64) (hs : s < 2 ^ R) : s < 2 ^ 64 := Nat.lt_of_lt_of_le hs (Nat.pow_le_pow_right (by omega) hR)
theorem thrN_bit {R : Nat} {x : SIns} (O : RegsOk R x) {s : Nat} (hs : s < 2 ^ R) (r : Nat) : (thrN x s).testBit r = ((s.testBit r && decide ((r : Int) ≠ defOf x.f0 x.f1)) || decide ((r : Int) ∈ uses x.f0 x.f2 x.f3 x.f5)) := by
  have hd := O.def_
  have hR := O.le
  unfold thrN
  rw [foldB_bit r _ _ (fun n hn => (O.use n hn).1)]
  congr 1
  split
  · next h =>
    rw [withoutB_bit (by omega) (lt64 hR hs)]
    congr 1
    apply decide_eq_decide.2
    omega
  · next h =>
    rw [decide_eq_true (by omega), Bool.and_true]
def orN (inn : List Nat) (l : List Int) : Nat := l.foldl (fun s k => s ||| at_ inn k.toNat) 0
theorem foldO_mono {x y : List Nat} (h : LE x y) : ∀ (l : List Int) (s t : Nat), Sub s t → Sub (l.foldl (fun s k => s ||| at_ x k.toNat) s) (l.foldl (fun s k => s ||| at_ y k.toNat) t)
  | [], s, t, hs => hs
  | k :: l, s, t, hs => by
    refine foldO_mono h l _ _ fun r hr => ?_
    rw [Nat.testBit_or, Bool.or_eq_true] at hr ⊢
    rcases hr with hr | hr
    · exact .inl (hs r hr)
    · exact .inr (h _ r hr)
theorem foldO_lt {R : Nat} {x : List Nat} (h : ∀ b, at_ x b < 2 ^ R) : ∀ (l : List Int) (s : Nat), s < 2 ^ R → l.foldl (fun s k => s ||| at_ x k.toNat) s < 2 ^ R
  | [], s, hs => hs
  | k :: l, s, hs => foldO_lt h l _ (Nat.or_lt_two_pow hs (h _))
/-- What is live ahead of a block's instruction i, of what is live ahead of the blocks. -/
def aheadN (bs : List (List SIns)) (inn : List Nat) (b i : Nat) : Nat := ((bs.getD b []).drop i).foldr thrN (orN inn (succs bs (b : Int)))
theorem foldr_mono : ∀ (l : List SIns) (s t : Nat), Sub s t → Sub (l.foldr thrN s) (l.foldr thrN t)
  | [], s, t, h => h
  | x :: l, s, t, h => thrN_mono x _ _ (foldr_mono l s t h)
theorem foldr_lt {R : Nat} : ∀ (l : List SIns) (s : Nat), (∀ x ∈ l, RegsOk R x) → s < 2 ^ R → l.foldr thrN s < 2 ^ R
  | [], s, _, h => h
  | x :: l, s, hO, h => thrN_lt (hO x List.mem_cons_self) (foldr_lt l s (fun y hy => hO y (List.mem_cons_of_mem _ hy)) h)
theorem aheadN_eqs (bs : List (List SIns)) (R : Nat) (hO : ∀ b ∈ bs, ∀ x ∈ b, RegsOk R x) : Eqs bs.length R (fun x b => aheadN bs x b 0) := by
  refine ⟨fun x y h b _ => foldr_mono _ _ _ (foldO_mono h _ _ _ (fun _ h => h)), fun x h b hb => ?_⟩
  unfold aheadN
  refine foldr_lt _ _ (fun z hz => ?_) (foldO_lt h _ _ (Nat.pos_of_ne_zero (by simp)))
  have hz := List.mem_of_mem_drop hz
  rw [List.getD_eq_getElem?_getD, List.getElem?_eq_getElem hb] at hz
  exact hO _ (List.getElem_mem hb) z hz

/-! ### the reference's lists -/
theorem refhas_ev (l : List Int) (x : Int) (hl : l.length ≤ 4611686018427387904) : Ev (fun k => cubbyref11_has.f k l x) (decide (x ∈ l)) := by
  show Ev (fun k => cubbyref11_has.l0 k l x ((0 : Nat) : Int)) _
  refine seek (fun k i => cubbyref11_has.l0 k l x (i : Int)) l.length (fun i => rd l (i : Int) = x) true _ ?_ ?_ ?_ ?_
  · intro i hi hb
    exact Ev.step (f := fun _ => some true) (fun k => by simp only [cubbyref11_has.l0]; rw [if_pos (by omega), if_pos (by omega), if_pos hb]) (Ev.now _)
  · intro i hi hb r' hE
    exact Ev.step (fun k => by simp only [cubbyref11_has.l0]; rw [if_pos (by omega), if_pos (by omega), if_neg hb, wrap_nat (by omega)]) hE
  · rintro ⟨i, hi, hb⟩
    rw [rd_get hi] at hb
    exact decide_eq_true (hb ▸ List.getElem_mem hi)
  · intro h
    rw [decide_eq_false (fun hx => by
      obtain ⟨i, hi, e⟩ := List.mem_iff_getElem.1 hx
      exact h i hi ((rd_get hi).trans e))]
    exact Ev.step (f := fun _ => some false) (fun k => by simp only [cubbyref11_has.l0]; rw [if_neg (by omega)]) (Ev.now _)
/-- Of the numbers below R those in either list. -/
def unionL (R : Nat) (a b : List Int) : List Int := ((List.range R).filter (fun r : Nat => decide ((r : Int) ∈ a) || decide ((r : Int) ∈ b))).map (fun n : Nat => (n : Int))
theorem refunion_ev (a b : List Int) (R : Nat) (hR : R ≤ 1000) (ha : a.length ≤ 4611686018427387904) (hb : b.length ≤ 4611686018427387904) : Ev (fun k => cubbyref11_union.f k a b (R : Int)) (unionL R a b) := by
  have h : ∀ (d r : Nat) (out : List Int), r + d = R → out.length ≤ r → Ev (fun k => cubbyref11_union.l0 k a b (R : Int) out (r : Int)) (out ++ ((List.range' r d).filter (fun r : Nat => decide ((r : Int) ∈ a) || decide ((r : Int) ∈ b))).map (fun n : Nat => (n : Int))) := by
    intro d
    induction d with
    | zero =>
      intro r out hr ho
      rw [List.range'_zero, List.filter_nil, List.map_nil, List.append_nil]
      exact Ev.step (f := fun _ => some out) (fun k => by simp only [cubbyref11_union.l0]; rw [if_neg (by omega)]) (Ev.now _)
    | succ d ih =>
      intro r out hr ho
      rw [List.range'_succ]
      refine Ev.step (fun k => by simp only [cubbyref11_union.l0]; rw [if_pos (by omega)]) (Ev.bind (refhas_ev a (r : Int) ha) ?_)
      by_cases c : (r : Int) ∈ a
      · rw [List.filter_cons_of_pos (by simp [c]), List.map_cons]
        have := ih (r + 1) (out ++ [(r : Int)]) (by omega) (by simp; omega)
        rw [List.append_assoc, List.singleton_append] at this
        exact Ev.congr (fun k => by rw [decide_eq_true c, if_pos rfl, if_pos (by omega), wrap_nat (by omega)]) this
      · refine Ev.congr (fun k => by rw [decide_eq_false c, if_neg Bool.false_ne_true]) (Ev.bind (refhas_ev b (r : Int) hb) ?_)
        by_cases c1 : (r : Int) ∈ b
        · rw [List.filter_cons_of_pos (by simp [c1]), List.map_cons]
          have := ih (r + 1) (out ++ [(r : Int)]) (by omega) (by simp; omega)
          rw [List.append_assoc, List.singleton_append] at this
          exact Ev.congr (fun k => by rw [decide_eq_true c1, if_pos rfl, if_pos (by omega), wrap_nat (by omega)]) this
        · rw [List.filter_cons_of_neg (by simp [c, c1])]
          exact Ev.congr (fun k => by rw [decide_eq_false c1, if_neg Bool.false_ne_true, wrap_nat (by omega)]) (ih (r + 1) out (by omega) (by omega))
  have := h R 0 [] (by omega) (by simp)
  rw [List.nil_append, ← List.range_eq_range'] at this
  exact this
theorem unionL_toL {R s t : Nat} : unionL R (toL R s) (toL R t) = toL R (s ||| t) := by
  unfold unionL
  show _ = (toN R (s ||| t)).map _
  unfold toN
  congr 1
  apply List.filter_congr
  intro r hr
  have hr := List.mem_range.1 hr
  rw [Nat.testBit_or, Bool.eq_iff_iff, Bool.or_eq_true, Bool.or_eq_true, decide_eq_true_iff, decide_eq_true_iff, mem_toL, mem_toL]
  simp [hr]
theorem unionL_nil {R t : Nat} : unionL R [] (toL R t) = toL R t := by
  have h := unionL_toL (R := R) (s := 0) (t := t)
  rw [Nat.zero_or] at h
  rw [show toL R 0 = [] by unfold toL; rw [toN_zero]; rfl] at h
  exact h
theorem refthrough_ev {R : Nat} {x : SIns} (O : RegsOk R x) (hx : x.f5.length ≤ 17592186043904) {s : Nat} (hs : s < 2 ^ R) : Ev (fun k => cubbyref11_through.f k x.f0 x.f1 x.f2 x.f3 x.f4 x.f5 (toL R s) (R : Int)) (toL R (thrN x s)) := by
  have hR := O.le
  have hlen := toL_len R s
  have h : ∀ (d j : Nat) (out : List Int), j + d = (toL R s).length → out.length ≤ j → Ev (fun k => cubbyref11_through.l0 k (toL R s) (R : Int) out (j : Int) x.f0 x.f1 x.f2 x.f3 x.f4 x.f5) (unionL R (out ++ ((toL R s).drop j).filter (fun n => decide (n ≠ defOf x.f0 x.f1))) (uses x.f0 x.f2 x.f3 x.f5)) := by
    intro d
    induction d with
    | zero =>
      intro j out hj ho
      rw [List.drop_eq_nil_of_le (by omega), List.filter_nil, List.append_nil]
      refine Ev.step (fun k => by simp only [cubbyref11_through.l0]; rw [if_neg (by omega)]) (Ev.bind (refuses_ev x.f0 x.f1 x.f2 x.f3 x.f4 x.f5 (by omega)) ?_)
      refine Ev.bind (refunion_ev out _ R (by omega) (by omega) (uses_short (by omega))) (Ev.now _)
    | succ d ih =>
      intro j out hj ho
      have hlt : j < (toL R s).length := by omega
      rw [drop_cons hlt]
      by_cases c : (toL R s)[j] = defOf x.f0 x.f1
      · rw [List.filter_cons_of_neg (by simp [c])]
        exact Ev.step (fun k => by simp only [cubbyref11_through.l0]; rw [if_pos (by omega), if_pos (by omega), refdef_eq, Option.bind_some, rd_get hlt, if_pos c, wrap_nat (by omega)]) (ih (j + 1) out (by omega) (by omega))
      · rw [List.filter_cons_of_pos (by simp [c])]
        have := ih (j + 1) (out ++ [(toL R s)[j]]) (by omega) (by simp; omega)
        rw [List.append_assoc, List.singleton_append] at this
        exact Ev.step (fun k => by simp only [cubbyref11_through.l0]; rw [if_pos (by omega), if_pos (by omega), refdef_eq, Option.bind_some, rd_get hlt, if_neg c, if_pos (by omega), wrap_nat (by omega)]) this
  have := h (toL R s).length 0 [] (by omega) (by simp)
  rw [List.nil_append, List.drop_zero] at this
  have e : unionL R ((toL R s).filter (fun n => decide (n ≠ defOf x.f0 x.f1))) (uses x.f0 x.f2 x.f3 x.f5) = toL R (thrN x s) := by
    unfold unionL
    show _ = (toN R (thrN x s)).map _
    unfold toN
    congr 1
    apply List.filter_congr
    intro r hr
    have hr := List.mem_range.1 hr
    rw [thrN_bit O hs, Bool.eq_iff_iff, Bool.or_eq_true, Bool.or_eq_true, Bool.and_eq_true, decide_eq_true_iff, decide_eq_true_iff, decide_eq_true_iff, List.mem_filter, mem_toL, decide_eq_true_iff]
    simp [hr]
  rw [e] at this
  exact this
end Go.Proofs.YtebnnknijbgekaaDoor.PlainLive
namespace Go.Proofs.YtebnnknijbgekaaDoor.PlainLive
open Go Go.RowKit Go.Proofs.YtebnnknijbgekaaDoorW.PrintWords Go.Proofs.YtebnnknijbgekaaDoorW.PrintMore Go.Proofs.YtebnnknijbgekaaDoor.Q Go.Proofs.YtebnnknijbgekaaDoor.Plain Go.Proofs.YtebnnknijbgekaaDoor.PlainIr Go.Proofs.YtebnnknijbgekaaDoor.PlainBits Go.Proofs.YtebnnknijbgekaaDoor.PlainFix Go.Proofs.YtebnnknijbgekaaDoor.PlainSuccs Go.Proofs.YtebnnknijbgekaaDoor.PlainOne
set_option linter.unusedVariables false
set_option linter.unusedSimpArgs false

theorem toL_zero (R : Nat) : toL R 0 = [] := by
  unfold toL
  rw [toN_zero]
  rfl
theorem rdL_map {R : Nat} {inn : List Nat} {b : Int} (h0 : 0 ≤ b) (h : b < inn.length) : rd_LInt (inn.map (toL R)) b = toL R (at_ inn b.toNat) := by
  show (inn.map (toL R)).getD b.toNat [] = _
  unfold at_
  rw [List.getD_eq_getElem?_getD, List.getD_eq_getElem?_getD, List.getElem?_map, List.getElem?_eq_getElem (by omega : b.toNat < inn.length)]
  rfl
/-- A function's blocks whose registers are below R, and which are no longer than numbers allow. -/
structure BlocksOk (R : Nat) (bs : List (List SIns)) : Prop where
  le : R ≤ 64
  len : bs.length ≤ 1000
  row : ∀ b ∈ bs, b.length ≤ 1000
  regs : ∀ b ∈ bs, ∀ x ∈ b, RegsOk R x
  args : ∀ b ∈ bs, ∀ x ∈ b, x.f5.length ≤ 17592186043904
theorem BlocksOk.small {R : Nat} {bs : List (List SIns)} (h : BlocksOk R bs) : Small bs := ⟨by have := h.len; omega, fun b hb => by have := h.row b hb; omega⟩
theorem getD_get {bs : List (List SIns)} {b : Nat} (h : b < bs.length) : bs.getD b [] = bs[b] := by
  rw [List.getD_eq_getElem?_getD, List.getElem?_eq_getElem h]
  rfl
theorem rd_row {bs : List (List SIns)} {b : Nat} (h : b < bs.length) : rd_LIns bs (b : Int) = bs.getD b [] := rfl
theorem rd_ins {l : List SIns} {j : Nat} (h : j < l.length) : rd_TIns l (j : Int) = l[j] := by
  show l.getD j zIns = _
  rw [List.getD_eq_getElem?_getD, List.getElem?_eq_getElem h]
  rfl
theorem row_fold {row : List SIns} {i m : Nat} (hi : i ≤ m) (hm : m < row.length) (s : Nat) : ((row.take (m + 1)).drop i).foldr thrN s = ((row.take m).drop i).foldr thrN (thrN row[m] s) := by
  rw [List.take_succ_eq_append_getElem hm, List.drop_append_of_le_length (by rw [List.length_take]; omega), List.foldr_append]
  rfl
section
variable (pn : ByteArray) (pp : Int) {R : Nat} {bs : List (List SIns)} (O : BlocksOk R bs) {inn : List Nat} (hlen : inn.length = bs.length)
include O hlen
theorem refbehind_ev (b : Int) : Ev (fun k => cubbyref11_behind.f k pn pp (R : Int) bs (inn.map (toL R)) b) (toL R (orN inn (succs bs b))) := by
  have hle := O.le
  refine Ev.bind (refsuccs_ev bs b O.small) ?_
  have hm := succs_mem bs b
  have hl := succs_len bs b
  generalize succs bs b = l at *
  have h : ∀ (d j s : Nat), j + d = l.length → Ev (fun k => cubbyref11_behind.l0 k (inn.map (toL R)) (toL R s) l (j : Int) pn pp (R : Int) bs) (toL R ((l.drop j).foldl (fun s k => s ||| at_ inn k.toNat) s)) := by
    intro d
    induction d with
    | zero =>
      intro j s hj
      rw [List.drop_eq_nil_of_le (by omega)]
      exact Ev.step (f := fun _ => some (toL R s)) (fun k => by simp only [cubbyref11_behind.l0]; rw [if_neg (by omega)]) (Ev.now _)
    | succ d ih =>
      intro j s hj
      have hjl : j < l.length := by omega
      have h1 := hm _ (List.getElem_mem hjl)
      rw [drop_cons hjl, List.foldl_cons]
      have hu := refunion_ev (toL R s) (toL R (at_ inn (l[j]).toNat)) R (by omega) (by have := toL_len R s; omega) (by have := toL_len R (at_ inn (l[j]).toNat); omega)
      rw [unionL_toL] at hu
      refine Ev.step (fun k => by simp only [cubbyref11_behind.l0]; rw [if_pos (by omega), if_pos (by omega), rd_get hjl, if_pos (by omega), if_pos (by rw [List.length_map]; omega), rdL_map (by omega) (by omega)]) (Ev.bind hu ?_)
      exact Ev.congr (fun k => by rw [wrap_nat (by omega)]) (ih (j + 1) _ (by omega))
  have := h l.length 0 0 (by omega)
  rw [toL_zero, List.drop_zero] at this
  exact this
end
theorem or_lt {R : Nat} (bs : List (List SIns)) {inn : List Nat} (hlt : ∀ b, at_ inn b < 2 ^ R) (b : Int) : orN inn (succs bs b) < 2 ^ R := foldO_lt hlt _ _ (Nat.pos_of_ne_zero (by simp))
section
variable (pn : ByteArray) (pp : Int) {R : Nat} {bs : List (List SIns)} (O : BlocksOk R bs) {inn : List Nat} (hlen : inn.length = bs.length) (hlt : ∀ b, at_ inn b < 2 ^ R)
include O hlen hlt
theorem refahead_ev {b i : Nat} (hb : b < bs.length) (hi : i ≤ (bs.getD b []).length) : Ev (fun k => cubbyref11_ahead.f k pn pp (R : Int) bs (inn.map (toL R)) (b : Int) (i : Int)) (toL R (aheadN bs inn b i)) := by
  have hbl := O.len
  refine Ev.bind (refbehind_ev pn pp O hlen (b : Int)) ?_
  have hs0 := or_lt bs hlt (b : Int)
  unfold aheadN
  generalize orN inn (succs bs (b : Int)) = s0 at *
  have hrow := getD_get hb
  have hr := O.row _ (List.getElem_mem hb)
  have hregs := O.regs _ (List.getElem_mem hb)
  have hargs := O.args _ (List.getElem_mem hb)
  rw [← hrow] at hr hregs hargs
  generalize hg : bs.getD b [] = row at *
  have h : ∀ (d m s : Nat), i + d = m → m ≤ row.length → s < 2 ^ R → Ev (fun k => cubbyref11_ahead.l0 k (b : Int) (i : Int) (toL R s) ((m : Int) - 1) pn pp (R : Int) bs) (toL R (((row.take m).drop i).foldr thrN s)) := by
    intro d
    induction d with
    | zero =>
      intro m s hm hml hs
      rw [List.drop_eq_nil_of_le (by rw [List.length_take]; omega)]
      exact Ev.step (f := fun _ => some (toL R s)) (fun k => by simp only [cubbyref11_ahead.l0]; rw [if_neg (by omega)]) (Ev.now _)
    | succ d ih =>
      intro m s hm hml hs
      obtain ⟨m', rfl⟩ : ∃ m', m = m' + 1 := ⟨m - 1, by omega⟩
      have hm' : m' < row.length := by omega
      rw [row_fold (by omega) hm']
      have hx := hregs _ (List.getElem_mem hm')
      rw [show (((m' + 1 : Nat) : Int) - 1) = (m' : Int) by omega]
      refine Ev.step (fun k => by simp only [cubbyref11_ahead.l0]; rw [if_pos (by omega), if_pos (by omega), if_pos (by omega), if_pos (by omega), rd_row hb, hg, if_pos (by omega), rd_ins hm']) (Ev.bind (refthrough_ev hx (hargs _ (List.getElem_mem hm')) hs) ?_)
      exact Ev.congr (fun k => by rw [wrap_id (by omega) (by omega)]) (ih m' _ (by omega) (by omega) (thrN_lt hx hs))
  have := h (row.length - i) row.length s0 (by omega) (Nat.le_refl _) hs0
  rw [List.take_length] at this
  exact Ev.congr (fun k => by rw [if_pos (by omega), if_pos (by omega), rd_row hb, hg, wrap_id (by omega) (by omega)]) this
end
end Go.Proofs.YtebnnknijbgekaaDoor.PlainLive
namespace Go.Proofs.YtebnnknijbgekaaDoor.PlainOne
open Go Go.RowKit Go.Proofs.YtebnnknijbgekaaDoorW.PrintWords Go.Proofs.YtebnnknijbgekaaDoorW.PrintMore Go.Proofs.YtebnnknijbgekaaDoor.Q Go.Proofs.YtebnnknijbgekaaDoor.Plain Go.Proofs.YtebnnknijbgekaaDoor.PlainIr Go.Proofs.YtebnnknijbgekaaDoor.PlainName
set_option linter.unusedVariables false
set_option linter.unusedSimpArgs false

theorem lt3 {i : Nat} (h : i < 3) : i = 0 ∨ i = 1 ∨ i = 2 := by omega
section
variable (pn : ByteArray) (pp regs : Int) (bs : List (List SIns)) (op d a b : Int) (nm : ByteArray) (args : List Int)
theorem o5 (B : Bool) (hb : op = 11 ∨ (nm.toList = ([] : List UInt8) ∧ args.length = 0)) : Ev (fun k => ir_one.j5 k B op d a b nm args) (if B = true then 70 else e5 op args) := by
  refine Ev.step (f := fun _ => some _) (fun k => ?_) (Ev.now _)
  simp only [ir_one.j5]
  unfold e5
  repeat' split
  all_goals first | rfl | omega
theorem o3 (hb : op = 11 ∨ (nm.toList = ([] : List UInt8) ∧ args.length = 0)) : Ev (fun k => ir_one.l3 k (targets7 op d a b) ((targets7 op d a b).length : Int) 0 pn pp regs bs op d a b nm args) (e3 (bs.length : Int) op d a b nm args) := by
  have hl := targets_short op d a b
  unfold e3
  refine seek (fun k i => ir_one.l3 k (targets7 op d a b) ((targets7 op d a b).length : Int) (i : Int) pn pp regs bs op d a b nm args) (targets7 op d a b).length (fun i => oddReg (bs.length : Int) (rd (targets7 op d a b) (i : Int)) = true) 74 _ ?_ ?_ ?_ ?_
  · intro i hi hx
    rw [odd_iff] at hx
    refine Ev.step (f := fun _ => some 74) (fun k => ?_) (Ev.now _)
    simp only [ir_one.l3]
    rw [if_pos (by omega), if_pos (by omega), if_pos (by omega)]
    split
    · rfl
    · rw [if_pos (by omega)]
  · intro i hi hx r' hE
    rw [odd_iff] at hx
    refine Ev.step (fun k => ?_) hE
    simp only [ir_one.l3]
    rw [if_pos (by omega), if_pos (by omega), if_pos (by omega), if_neg (by omega), if_neg (by omega), wrap_nat (by omega)]
  · intro h
    rw [if_pos (any_odd.2 h)]
  · intro h
    rw [if_neg (fun x => by
      obtain ⟨i, hi, hx⟩ := any_odd.1 x
      exact h i hi hx)]
    unfold e4
    by_cases c : op = 11
    · refine Ev.step (fun k => by simp only [ir_one.l3]; rw [if_neg (by omega), if_pos c, name_eq, Option.bind_some]) ?_
      have := o5 op d a b nm args (!nameOk nm) hb
      cases hn : nameOk nm
      · rw [hn] at this
        rw [if_pos ⟨c, rfl⟩]
        exact this
      · rw [hn] at this
        rw [if_neg (by simp)]
        exact this
    · rw [if_neg (fun x => c x.1)]
      exact Ev.step (fun k => by simp only [ir_one.l3]; rw [if_neg (by omega), if_neg c]) (o5 op d a b nm args false hb)
theorem o2 (s : ByteArray) (S : Sh op s) (hb : op = 11 ∨ (nm.toList = ([] : List UInt8) ∧ args.length = 0)) : Ev (fun k => ir_one.l2 k s [d, a, b] (([d, a, b] : List Int).length : Int) 0 pn pp regs bs op d a b nm args) (e2 (bs.length : Int) op d a b nm args) := by
  have hs := S.size
  have hl : ([d, a, b] : List Int).length = 3 := rfl
  have h0 := S.n0
  have h1 := S.n1
  have h2 := S.n2
  unfold e2
  refine seek (fun k i => ir_one.l2 k s [d, a, b] (([d, a, b] : List Int).length : Int) (i : Int) pn pp regs bs op d a b nm args) 3 (fun i => bt s (i : Int) = 110 ∧ (rd [d, a, b] (i : Int) < 0 ∨ rd [d, a, b] (i : Int) ≥ 65536)) 81 _ ?_ ?_ ?_ ?_
  · rintro i hi ⟨hx, hy⟩
    refine Ev.step (f := fun _ => some 81) (fun k => ?_) (Ev.now _)
    simp only [ir_one.l2]
    rw [if_pos (by omega), if_pos (by omega), if_pos (by omega), if_pos (by omega), if_pos hx]
    split
    · rfl
    · rw [if_pos (by omega)]
  · intro i hi hx r' hE
    refine Ev.step (fun k => ?_) hE
    simp only [ir_one.l2]
    rw [if_pos (by omega), if_pos (by omega), if_pos (by omega), if_pos (by omega), wrap_nat (by omega)]
    repeat' split
    all_goals first
      | rfl
      | (exfalso; apply hx; constructor <;> first | assumption | omega)
  · rintro ⟨i, hi, hx, hy⟩
    rcases lt3 hi with rfl | rfl | rfl
    · exact absurd hx h0
    · exact if_pos ⟨h1.1 hx, hy⟩
    · exact absurd hx h2
  · intro h
    rw [if_neg (fun x => h 1 (by omega) ⟨h1.2 x.1, x.2⟩)]
    refine Ev.step (fun k => by simp only [ir_one.l2]; rw [if_neg (by omega), targets_eq, Option.bind_some]) (o3 pn pp regs bs op d a b nm args hb)
theorem o1 (s : ByteArray) (S : Sh op s) (hop : 1 ≤ op ∧ op ≤ 14) (hb : op = 11 ∨ (nm.toList = ([] : List UInt8) ∧ args.length = 0)) : Ev (fun k => ir_one.l1 k s [d, a, b] [d, a, b] (([d, a, b] : List Int).length : Int) 0 pn pp regs bs op d a b nm args) (e1 regs (bs.length : Int) op d a b nm args) := by
  have hs := S.size
  have hl : ([d, a, b] : List Int).length = 3 := rfl
  have h0 := S.b0
  have h1 := S.b1
  have h2 := S.b2
  have hargs : ¬ op = 11 → args = [] := fun h => by
    rcases hb with hb | hb
    · exact absurd hb h
    · exact List.length_eq_zero_iff.1 hb.2
  unfold e1
  have hC : ((hasD op ∧ oddReg regs d = true) ∨ (uses op a b args).any (oddReg regs) = true) ↔ ((∃ i : Nat, i < 3 ∧ bt s (i : Int) = 114 ∧ oddReg regs (rd [d, a, b] (i : Int)) = true) ∨ args.any (oddReg regs) = true) := by
    constructor
    · rintro (⟨x, y⟩ | x)
      · exact .inl ⟨0, by omega, h0.2 x, y⟩
      · by_cases c : op = 11
        · right
          unfold uses at x
          rwa [if_neg (by omega), if_neg (by omega), if_pos c] at x
        · left
          unfold uses at x
          split at x
          · simp at x
            exact ⟨1, by omega, h1.2 (by omega), x⟩
          · split at x
            · simp at x
              rcases x with x | x
              · exact ⟨1, by omega, h1.2 (by omega), x⟩
              · exact ⟨2, by omega, h2.2 (by omega), x⟩
            · exact absurd x (by simp)
    · rintro (⟨i, hi, hx, hy⟩ | x)
      · rcases lt3 hi with rfl | rfl | rfl
        · exact .inl ⟨h0.1 hx, hy⟩
        · right
          have := h1.1 hx
          have hy' : oddReg regs a = true := hy
          unfold uses
          split
          · simp [hy']
          · split
            · simp [hy']
            · omega
        · right
          have := h2.1 hx
          have hy' : oddReg regs b = true := hy
          unfold uses
          rw [if_neg (by omega), if_pos (by omega)]
          simp [hy']
      · by_cases c : op = 11
        · right
          unfold uses
          rw [if_neg (by omega), if_neg (by omega), if_pos c]
          exact x
        · rw [hargs c] at x
          exact absurd x (by simp)
  refine seek (fun k i => ir_one.l1 k s [d, a, b] [d, a, b] (([d, a, b] : List Int).length : Int) (i : Int) pn pp regs bs op d a b nm args) 3 (fun i => bt s (i : Int) = 114 ∧ oddReg regs (rd [d, a, b] (i : Int)) = true) 73 _ ?_ ?_ ?_ ?_
  · rintro i hi ⟨hx, hy⟩
    refine Ev.step (f := fun _ => some 73) (fun k => ?_) (Ev.now _)
    simp only [ir_one.l1]
    rw [if_pos (by omega), if_pos (by omega), if_pos (by omega), if_pos (by omega), if_pos hx]
    simp only [ir_one_1.f, Option.bind_some, hy, if_true]
  · intro i hi hx r' hE
    refine Ev.step (fun k => ?_) hE
    simp only [ir_one.l1]
    rw [if_pos (by omega), if_pos (by omega), if_pos (by omega), if_pos (by omega), wrap_nat (by omega)]
    by_cases c : bt s (i : Int) = 114
    · rw [if_pos c]
      simp only [ir_one_1.f, Option.bind_some]
      rw [if_neg (fun y => hx ⟨c, y⟩)]
    · rw [if_neg c]
  · rintro ⟨i, hi, hx⟩
    exact if_pos (hC.2 (.inl ⟨i, hi, hx⟩))
  · intro h
    by_cases c : args.any (oddReg regs) = true
    · rw [if_pos (hC.2 (.inr c))]
      exact Ev.step (f := fun _ => some 73) (fun k => by simp only [ir_one.l1]; rw [if_neg (by omega)]; simp only [slices_ContainsFunc_int_int.f, Option.bind_some]; rw [if_pos c]) (Ev.now _)
    · rw [if_neg (fun x => by
        rcases hC.1 x with ⟨i, hi, hy⟩ | y
        · exact h i hi hy
        · exact c y)]
      exact Ev.step (fun k => by simp only [ir_one.l1]; rw [if_neg (by omega)]; simp only [slices_ContainsFunc_int_int.f, Option.bind_some]; rw [if_neg c]) (o2 pn pp regs bs op d a b nm args s S hb)
theorem o0 (s : ByteArray) (S : Sh op s) (hop : 1 ≤ op ∧ op ≤ 14) (hb : op = 11 ∨ (nm.toList = ([] : List UInt8) ∧ args.length = 0)) : Ev (fun k => ir_one.l0 k s [d, a, b] [d, a, b] (([d, a, b] : List Int).length : Int) 0 pn pp regs bs op d a b nm args) (if bareP op d a b nm args then e1 regs (bs.length : Int) op d a b nm args else 72) := by
  have hs := S.size
  have hl : ([d, a, b] : List Int).length = 3 := rfl
  have h0 := S.f0
  have h1 := S.f1
  have h2 := S.f2
  refine seek (fun k i => ir_one.l0 k s [d, a, b] [d, a, b] (([d, a, b] : List Int).length : Int) (i : Int) pn pp regs bs op d a b nm args) 3 (fun i => bt s (i : Int) = 32 ∧ ¬ rd [d, a, b] (i : Int) = 0) 72 _ ?_ ?_ ?_ ?_
  · rintro i hi ⟨hx, hy⟩
    refine Ev.step (f := fun _ => some 72) (fun k => ?_) (Ev.now _)
    simp only [ir_one.l0]
    rw [if_pos (by omega), if_pos (by omega), if_pos (by omega), if_pos (by omega), if_pos hx, if_neg hy]
  · intro i hi hx r' hE
    refine Ev.step (fun k => ?_) hE
    simp only [ir_one.l0]
    rw [if_pos (by omega), if_pos (by omega), if_pos (by omega), if_pos (by omega), wrap_nat (by omega)]
    by_cases c : bt s (i : Int) = 32
    · rw [if_pos c, if_pos (Decidable.byContradiction fun y => hx ⟨c, y⟩)]
    · rw [if_neg c]
  · rintro ⟨i, hi, hx, hy⟩
    refine if_neg (fun hB => ?_)
    obtain ⟨_, f0, f1, f2⟩ := hB
    rcases lt3 hi with rfl | rfl | rfl
    · exact hy (f0 (h0.1 hx))
    · exact hy (f1 (h1.1 hx))
    · exact hy (f2 (h2.1 hx))
  · intro h
    rw [if_pos ⟨hb, fun x => Decidable.byContradiction fun y => h 0 (by omega) ⟨h0.2 x, y⟩, fun x => Decidable.byContradiction fun y => h 1 (by omega) ⟨h1.2 x, y⟩, fun x => Decidable.byContradiction fun y => h 2 (by omega) ⟨h2.2 x, y⟩⟩]
    exact Ev.step (fun k => by simp only [ir_one.l0]; rw [if_neg (by omega)]) (o1 pn pp regs bs op d a b nm args s S hop hb)
theorem one_ev (last : Bool) : Ev (fun k => ir_one.f k pn pp regs bs op d a b nm args last) (oneE regs (bs.length : Int) op d a b nm args last) := by
  unfold oneE
  by_cases hop : 1 ≤ op ∧ op ≤ 14
  · obtain ⟨s, hs, S⟩ := shape_some hop
    have hyes : Ev (fun k => ir_one.j0 k s true pn pp regs bs op d a b nm args) 72 := Ev.step (f := fun _ => some 72) (fun k => by simp only [ir_one.j0]; rw [if_pos trivial]) (Ev.now _)
    by_cases c2 : lastOp op = last
    · have hgo : (op = 11 ∨ (nm.toList = ([] : List UInt8) ∧ args.length = 0)) → Ev (fun k => ir_one.j0 k s false pn pp regs bs op d a b nm args) (if (1 ≤ op ∧ op ≤ 14) ∧ lastOp op = last ∧ bareP op d a b nm args then e1 regs (bs.length : Int) op d a b nm args else 72) := fun hb => by
        refine Ev.step (fun k => by simp only [ir_one.j0]; rw [if_neg Bool.false_ne_true, Option.bind_some]) ?_
        have := o0 pn pp regs bs op d a b nm args s S hop hb
        by_cases c3 : bareP op d a b nm args
        · rw [if_pos ⟨hop, c2, c3⟩]
          rw [if_pos c3] at this
          exact this
        · rw [if_neg (fun x => c3 x.2.2)]
          rw [if_neg c3] at this
          exact this
      by_cases c : op = 11
      · exact Ev.congr (fun k => by unfold ir_one.f; rw [hs, Option.bind_some, if_neg S.ne, last_eq, Option.bind_some, if_neg (by simp [c2]), if_pos c]) (hgo (.inl c))
      · by_cases c1 : nm.toList = ([] : List UInt8)
        · refine Ev.congr (fun k => by unfold ir_one.f; rw [hs, Option.bind_some, if_neg S.ne, last_eq, Option.bind_some, if_neg (by simp [c2]), if_neg c, if_pos c1]) ?_
          by_cases c4 : (args.length : Int) > 0
          · rw [decide_eq_true c4, if_neg (fun x => by have := x.2.2.1; omega)]
            exact hyes
          · rw [decide_eq_false c4]
            exact hgo (.inr ⟨c1, by omega⟩)
        · rw [if_neg (fun x => by
            rcases x.2.2.1 with y | y
            · exact c y
            · exact c1 y.1)]
          exact Ev.congr (fun k => by unfold ir_one.f; rw [hs, Option.bind_some, if_neg S.ne, last_eq, Option.bind_some, if_neg (by simp [c2]), if_neg c, if_neg c1]) hyes
    · rw [if_neg (fun x => c2 x.2.1)]
      exact Ev.congr (fun k => by unfold ir_one.f; rw [hs, Option.bind_some, if_neg S.ne, last_eq, Option.bind_some, if_pos (by simpa using c2)]) hyes
  · rw [if_neg (fun x => hop x.1)]
    refine Ev.congr (fun k => by unfold ir_one.f; rw [shape_none hop, Option.bind_some, if_pos nil_toList]) ?_
    exact Ev.step (f := fun _ => some 72) (fun k => by simp only [ir_one.j0]; rw [if_pos trivial]) (Ev.now _)
end
end Go.Proofs.YtebnnknijbgekaaDoor.PlainOne
namespace Go.Proofs.YtebnnknijbgekaaDoor.PlainHeavy
open Go Go.RowKit Go.Proofs.YtebnnknijbgekaaDoorW.PrintWords Go.Proofs.YtebnnknijbgekaaDoorW.PrintMore Go.Proofs.YtebnnknijbgekaaDoor.Q Go.Proofs.YtebnnknijbgekaaDoor.Plain
set_option linter.unusedVariables false
set_option linter.unusedSimpArgs false

theorem rdL_get {l : List (List SIns)} {j : Nat} (h : j < l.length) : rd_LIns l (j : Int) = l[j] := by
  show l.getD j [] = _
  rw [List.getD_eq_getElem?_getD, List.getElem?_eq_getElem h]
  rfl
theorem rdT_get {l : List SIns} {j : Nat} (h : j < l.length) : rd_TIns l (j : Int) = l[j] := by
  show l.getD j zIns = _
  rw [List.getD_eq_getElem?_getD, List.getElem?_eq_getElem h]
  rfl
/-- Blocks that are short enough. -/
structure FairB (x : List (List SIns)) : Prop where
  len : x.length ≤ 1000000000000000
  row : ∀ b ∈ x, b.length ≤ 1000000000000000
  ins : ∀ b ∈ x, ∀ y ∈ b, y.f5.length ≤ 17592186043904
end Go.Proofs.YtebnnknijbgekaaDoor.PlainHeavy
namespace Go.Proofs.YtebnnknijbgekaaDoor.PlainCheck
open Go Go.RowKit Go.Proofs.YtebnnknijbgekaaDoorW.PrintWords Go.Proofs.YtebnnknijbgekaaDoorW.PrintMore Go.Proofs.YtebnnknijbgekaaDoor.Q Go.Proofs.YtebnnknijbgekaaDoor.Plain Go.Proofs.YtebnnknijbgekaaDoor.PlainName Go.Proofs.YtebnnknijbgekaaDoor.PlainOne Go.Proofs.YtebnnknijbgekaaDoor.PlainHeavy
set_option linter.unusedVariables false
set_option linter.unusedSimpArgs false

def insE (regs nb : Int) (x : SIns) (last : Bool) : Int := oneE regs nb x.f0 x.f1 x.f2 x.f3 x.f4 x.f5 last
/-- A block's first error. -/
def rowE (regs nb : Int) : List SIns → Int
  | [] => 0
  | x :: xs => if insE regs nb x xs.isEmpty = 0 then rowE regs nb xs else insE regs nb x xs.isEmpty
/-- All blocks' first error. -/
def allE (regs nb : Int) : List (List SIns) → Int
  | [] => 0
  | b :: bs => if rowE regs nb b = 0 then allE regs nb bs else rowE regs nb b
def total : List (List SIns) → Nat
  | [] => 0
  | b :: bs => b.length + total bs
def fits (left : Int) (l : List (List SIns)) : Bool := decide ((∀ b ∈ l, b.length ≠ 0) ∧ (total l : Int) ≤ left)
def shapeP (params regs : Int) (bs : List (List SIns)) : Prop := 0 ≤ params ∧ params ≤ 4 ∧ params ≤ regs ∧ regs ≤ 64 ∧ 1 ≤ bs.length ∧ bs.length ≤ 32 ∧ fits 200 bs = true
instance (params regs : Int) (bs : List (List SIns)) : Decidable (shapeP params regs bs) := by unfold shapeP; infer_instance
def checkE (nm : ByteArray) (params regs : Int) (bs : List (List SIns)) : Int := if nameOk nm = true then (if shapeP params regs bs then allE regs (bs.length : Int) bs else 71) else 70

theorem fits_nil {left : Int} (h : 0 ≤ left) : fits left [] = true := by
  unfold fits
  apply decide_eq_true
  exact ⟨by simp, by unfold total; omega⟩
theorem fits_cons (left : Int) (b : List SIns) (bs : List (List SIns)) : fits left (b :: bs) = (decide (b.length ≠ 0) && fits (left - b.length) bs) := by
  unfold fits
  rw [← Bool.decide_and]
  apply decide_eq_decide.2
  simp only [List.mem_cons, forall_eq_or_imp, total]
  constructor
  · rintro ⟨⟨h1, h2⟩, h3⟩
    exact ⟨h1, h2, by omega⟩
  · rintro ⟨h1, h2, h3⟩
    exact ⟨⟨h1, h2⟩, by omega⟩
theorem fits_neg {left : Int} {bs : List (List SIns)} (h : left < 0) : fits left bs = false := by
  unfold fits
  apply decide_eq_false
  rintro ⟨_, h2⟩
  omega
theorem last_eq' {b : List SIns} {j : Nat} (hj : j < b.length) (hl : b.length ≤ 4611686018427387904) : ((j : Int) == wrap64 ((b.length : Int) - 1)) = (b.drop (j + 1)).isEmpty := by
  rw [wrap_pred (by omega) hl]
  by_cases c : j + 1 = b.length
  · rw [List.drop_eq_nil_of_le (by omega)]
    simp
    omega
  · have : b.drop (j + 1) ≠ [] := fun h => by
      have := congrArg List.length h
      rw [List.length_drop] at this
      simp at this
      omega
    rw [List.isEmpty_eq_false_iff.2 this]
    simp
    omega

/-! ### the reference -/
section
variable (pn : ByteArray) (pp rg : Int) (bs : List (List SIns)) (hF : FairB bs)
include hF
theorem refshape_loop : ∀ (d i : Nat), bs.length - i = d → i ≤ bs.length → ∀ s : Int, 0 ≤ s → s ≤ 1000 * i → Ev (fun k => cubbyref07_Shape.l0 k bs s (i : Int)) (fits (200 - s) (bs.drop i)) := by
  have hlen := hF.len
  intro d
  induction d with
  | zero =>
    intro i hd hi s h0 hs
    rw [List.drop_eq_nil_of_le (by omega)]
    refine Ev.step (f := fun _ => some _) (fun k => by simp only [cubbyref07_Shape.l0]; rw [if_neg (by omega)]) ?_
    have : fits (200 - s) [] = decide (s ≤ 200) := by
      unfold fits total
      apply decide_eq_decide.2
      constructor
      · rintro ⟨_, h⟩
        omega
      · intro h
        exact ⟨by simp, by omega⟩
    rw [this]
    exact Ev.now _
  | succ d ih =>
    intro i hd hi s h0 hs
    have hlt : i < bs.length := by omega
    have hr := hF.row _ (List.getElem_mem hlt)
    rw [drop_cons hlt, fits_cons]
    by_cases c : ((bs[i]).length : Int) = 0
    · rw [decide_eq_false (by omega), Bool.false_and]
      exact Ev.step (f := fun _ => some false) (fun k => by simp only [cubbyref07_Shape.l0]; rw [if_pos (by omega), if_pos (by omega), rdL_get hlt, if_pos c]) (Ev.now _)
    · by_cases c1 : ((bs[i]).length : Int) > 200
      · rw [fits_neg (by omega), Bool.and_false]
        exact Ev.step (f := fun _ => some false) (fun k => by simp only [cubbyref07_Shape.l0]; rw [if_pos (by omega), if_pos (by omega), rdL_get hlt, if_neg c, if_pos c1]) (Ev.now _)
      · rw [decide_eq_true (by omega), Bool.true_and]
        have := ih (i + 1) (by omega) (by omega) (s + (bs[i]).length) (by omega) (by omega)
        rw [show 200 - s - ((bs[i]).length : Int) = 200 - (s + (bs[i]).length) by omega]
        refine Ev.step (fun k => ?_) this
        simp only [cubbyref07_Shape.l0]
        rw [if_pos (by omega), if_pos (by omega), rdL_get hlt, if_neg c, if_neg c1, wrap_nat (by omega), wrap_id (by omega) (by omega)]
theorem refshape_ev : Ev (fun k => cubbyref07_Shape.f k pp rg bs) (decide (shapeP pp rg bs)) := by
  have hyes : ¬ shapeP pp rg bs → Ev (fun k => cubbyref07_Shape.j0 k bs true) (decide (shapeP pp rg bs)) := fun h => by
    rw [decide_eq_false h]
    exact Ev.step (f := fun _ => some false) (fun k => by simp only [cubbyref07_Shape.j0]; rw [if_pos trivial]) (Ev.now _)
  by_cases c0 : pp < 0
  · exact Ev.congr (fun k => by unfold cubbyref07_Shape.f; rw [if_pos c0]) (hyes (fun h => by have := h.1; omega))
  by_cases c1 : pp > 4
  · exact Ev.congr (fun k => by unfold cubbyref07_Shape.f; rw [if_neg c0, if_pos c1]) (hyes (fun h => by have := h.2.1; omega))
  by_cases c2 : rg < pp
  · exact Ev.congr (fun k => by unfold cubbyref07_Shape.f; rw [if_neg c0, if_neg c1, if_pos c2]) (hyes (fun h => by have := h.2.2.1; omega))
  by_cases c3 : rg > 64
  · exact Ev.congr (fun k => by unfold cubbyref07_Shape.f; rw [if_neg c0, if_neg c1, if_neg c2, if_pos c3]) (hyes (fun h => by have := h.2.2.2.1; omega))
  by_cases c4 : (bs.length : Int) < 1
  · exact Ev.congr (fun k => by unfold cubbyref07_Shape.f; rw [if_neg c0, if_neg c1, if_neg c2, if_neg c3, if_pos c4]) (hyes (fun h => by have := h.2.2.2.2.1; omega))
  refine Ev.congr (fun k => by unfold cubbyref07_Shape.f; rw [if_neg c0, if_neg c1, if_neg c2, if_neg c3, if_neg c4]) ?_
  by_cases c5 : (bs.length : Int) > 32
  · rw [decide_eq_true c5]
    exact hyes (fun h => by have := h.2.2.2.2.2.1; omega)
  · rw [decide_eq_false c5]
    have := refshape_loop bs hF bs.length 0 (by omega) (by omega) 0 (by omega) (by omega)
    have e : fits (200 - 0) (bs.drop 0) = decide (shapeP pp rg bs) := by
      rw [List.drop_zero]
      unfold shapeP
      cases hf : fits (200 - 0) bs
      · symm
        apply decide_eq_false
        rintro ⟨_, _, _, _, _, _, h⟩
        rw [show (200 : Int) - 0 = 200 by omega, h] at hf
        exact absurd hf (by simp)
      · symm
        apply decide_eq_true
        exact ⟨by omega, by omega, by omega, by omega, by omega, by omega, hf⟩
    rw [← e]
    refine Ev.step (fun k => by simp only [cubbyref07_Shape.j0]; rw [if_neg Bool.false_ne_true]; rfl) this
theorem refcheck_row (i : Nat) (hi : i < bs.length) (R : Int) (h : Ev (fun k => cubbyref07_Check.l0 k ((i + 1 : Nat) : Int) pn pp rg bs) R) : ∀ (d j : Nat), bs[i].length - j = d → j ≤ bs[i].length → Ev (fun k => cubbyref07_Check.l1 k (i : Int) (j : Int) pn pp rg bs) (if rowE rg (bs.length : Int) (bs[i].drop j) = 0 then R else rowE rg (bs.length : Int) (bs[i].drop j)) := by
  have hlen := hF.len
  have hr := hF.row _ (List.getElem_mem hi)
  have hg := rdL_get hi
  intro d
  induction d with
  | zero =>
    intro j hd hj
    rw [List.drop_eq_nil_of_le (by omega)]
    unfold rowE
    rw [if_pos rfl]
    exact Ev.step (fun k => by simp only [cubbyref07_Check.l1]; rw [if_pos (by omega), if_pos (by omega), hg, if_neg (by omega), wrap_nat (by omega)]) h
  | succ d ih =>
    intro j hd hj
    have hlt : j < bs[i].length := by omega
    have hx := hF.ins _ (List.getElem_mem hi) _ (List.getElem_mem hlt)
    rw [drop_cons hlt]
    unfold rowE
    have h1 := refone_ev bs[i][j].f0 bs[i][j].f1 bs[i][j].f2 bs[i][j].f3 bs[i][j].f4 bs[i][j].f5 (by omega) rg (bs.length : Int) (bs[i].drop (j + 1)).isEmpty
    refine Ev.step (fun k => by simp only [cubbyref07_Check.l1]; rw [if_pos (by omega), if_pos (by omega), hg, if_pos (by omega), if_pos (by omega), rdT_get hlt, last_eq' hlt (by omega)]) (Ev.bind h1 ?_)
    show Ev (fun n => if insE rg (bs.length : Int) bs[i][j] (bs[i].drop (j + 1)).isEmpty = 0 then _ else some (insE rg (bs.length : Int) bs[i][j] (bs[i].drop (j + 1)).isEmpty)) _
    by_cases c : insE rg (bs.length : Int) bs[i][j] (bs[i].drop (j + 1)).isEmpty = 0
    · rw [if_pos c]
      exact Ev.congr (fun k => by rw [if_pos c, wrap_nat (by omega)]) (ih (j + 1) (by omega) (by omega))
    · rw [if_neg c, if_neg c]
      exact Ev.congr (f := fun _ => some _) (fun k => by rw [if_neg c]) (Ev.now _)
theorem refcheck_all : ∀ (d i : Nat), bs.length - i = d → i ≤ bs.length → Ev (fun k => cubbyref07_Check.l0 k (i : Int) pn pp rg bs) (allE rg (bs.length : Int) (bs.drop i)) := by
  intro d
  induction d with
  | zero =>
    intro i hd hi
    rw [List.drop_eq_nil_of_le (by omega)]
    exact Ev.step (f := fun _ => some 0) (fun k => by simp only [cubbyref07_Check.l0]; rw [if_neg (by omega)]) (Ev.now _)
  | succ d ih =>
    intro i hd hi
    have hlt : i < bs.length := by omega
    rw [drop_cons hlt]
    unfold allE
    refine Ev.step (fun k => by simp only [cubbyref07_Check.l0]; rw [if_pos (by omega)]) ?_
    have := refcheck_row pn pp rg bs hF i hlt _ (ih (i + 1) (by omega) (by omega)) bs[i].length 0 (by omega) (by omega)
    rw [List.drop_zero] at this
    exact this
theorem refcheck_ev : Ev (fun k => cubbyref07_Check.f k pn pp rg bs) (checkE pn pp rg bs) := by
  unfold checkE
  refine Ev.bind (refname_ev pn) ?_
  cases nameOk pn
  · exact Ev.congr (f := fun _ => some 70) (fun k => by rw [if_neg Bool.false_ne_true]) (Ev.now _)
  · refine Ev.congr (fun k => by rw [if_pos rfl]) (Ev.bind (refshape_ev pp rg bs hF) ?_)
    rw [if_pos rfl]
    by_cases c : shapeP pp rg bs
    · rw [if_pos c, decide_eq_true c]
      have := refcheck_all pn pp rg bs hF bs.length 0 (by omega) (by omega)
      exact Ev.congr (fun k => by rw [if_pos rfl]; rfl) this
    · rw [if_neg c, decide_eq_false c]
      exact Ev.congr (f := fun _ => some 71) (fun k => by rw [if_neg Bool.false_ne_true]) (Ev.now _)

/-! ### ir.Check -/
theorem check_row (i : Nat) (hi : i < bs.length) (R : Int) (h : Ev (fun k => ir_Check.l1 k bs (bs.length : Int) ((i + 1 : Nat) : Int) pn pp rg bs) R) : ∀ (d j : Nat), bs[i].length - j = d → j ≤ bs[i].length → Ev (fun k => ir_Check.l2 k bs[i] bs (bs.length : Int) (i : Int) bs[i] (bs[i].length : Int) (j : Int) pn pp rg bs) (if rowE rg (bs.length : Int) (bs[i].drop j) = 0 then R else rowE rg (bs.length : Int) (bs[i].drop j)) := by
  have hlen := hF.len
  have hr := hF.row _ (List.getElem_mem hi)
  intro d
  induction d with
  | zero =>
    intro j hd hj
    rw [List.drop_eq_nil_of_le (by omega)]
    unfold rowE
    rw [if_pos rfl]
    exact Ev.step (fun k => by simp only [ir_Check.l2]; rw [if_neg (by omega), wrap_nat (by omega)]) h
  | succ d ih =>
    intro j hd hj
    have hlt : j < bs[i].length := by omega
    have hx := hF.ins _ (List.getElem_mem hi) _ (List.getElem_mem hlt)
    rw [drop_cons hlt]
    unfold rowE
    have h1 := one_ev pn pp rg bs bs[i][j].f0 bs[i][j].f1 bs[i][j].f2 bs[i][j].f3 bs[i][j].f4 bs[i][j].f5 (bs[i].drop (j + 1)).isEmpty
    refine Ev.step (fun k => by simp only [ir_Check.l2]; rw [if_pos (by omega), if_pos (by omega), if_pos (by omega), rdT_get hlt, last_eq' hlt (by omega)]) (Ev.bind h1 ?_)
    show Ev (fun n => if insE rg (bs.length : Int) bs[i][j] (bs[i].drop (j + 1)).isEmpty = 0 then _ else some (insE rg (bs.length : Int) bs[i][j] (bs[i].drop (j + 1)).isEmpty)) _
    by_cases c : insE rg (bs.length : Int) bs[i][j] (bs[i].drop (j + 1)).isEmpty = 0
    · rw [if_pos c]
      exact Ev.congr (fun k => by rw [if_pos c, wrap_nat (by omega)]) (ih (j + 1) (by omega) (by omega))
    · rw [if_neg c, if_neg c]
      exact Ev.congr (f := fun _ => some _) (fun k => by rw [if_neg c]) (Ev.now _)
theorem check_all : ∀ (d i : Nat), bs.length - i = d → i ≤ bs.length → Ev (fun k => ir_Check.l1 k bs (bs.length : Int) (i : Int) pn pp rg bs) (allE rg (bs.length : Int) (bs.drop i)) := by
  intro d
  induction d with
  | zero =>
    intro i hd hi
    rw [List.drop_eq_nil_of_le (by omega)]
    exact Ev.step (f := fun _ => some 0) (fun k => by simp only [ir_Check.l1]; rw [if_neg (by omega)]) (Ev.now _)
  | succ d ih =>
    intro i hd hi
    have hlt : i < bs.length := by omega
    rw [drop_cons hlt]
    unfold allE
    refine Ev.step (fun k => by simp only [ir_Check.l1]; rw [if_pos (by omega), if_pos (by omega), if_pos (by omega), rdL_get hlt]) ?_
    have := check_row pn pp rg bs hF i hlt _ (ih (i + 1) (by omega) (by omega)) bs[i].length 0 (by omega) (by omega)
    rw [List.drop_zero] at this
    exact this
theorem check_fits : ∀ (d i : Nat), bs.length - i = d → i ≤ bs.length → ∀ left : Int, 0 ≤ left → left ≤ 200 → Ev (fun k => ir_Check.l0 k left bs (bs.length : Int) (i : Int) pn pp rg bs) (if fits left (bs.drop i) = true then allE rg (bs.length : Int) bs else 71) := by
  have hlen := hF.len
  intro d
  induction d with
  | zero =>
    intro i hd hi left h0 h1
    rw [List.drop_eq_nil_of_le (by omega), fits_nil h0, if_pos rfl]
    have := check_all pn pp rg bs hF bs.length 0 (by omega) (by omega)
    exact Ev.step (fun k => by simp only [ir_Check.l0]; rw [if_neg (by omega)]; rfl) this
  | succ d ih =>
    intro i hd hi left h0 h1
    have hlt : i < bs.length := by omega
    rw [drop_cons hlt, fits_cons]
    by_cases c : ((bs[i]).length : Int) = 0
    · rw [decide_eq_false (by omega), Bool.false_and, if_neg Bool.false_ne_true]
      exact Ev.step (f := fun _ => some 71) (fun k => by simp only [ir_Check.l0]; rw [if_pos (by omega), if_pos (by omega), if_pos (by omega), rdL_get hlt, if_pos c]) (Ev.now _)
    · by_cases c1 : ((bs[i]).length : Int) > left
      · rw [fits_neg (by omega), Bool.and_false, if_neg Bool.false_ne_true]
        exact Ev.step (f := fun _ => some 71) (fun k => by simp only [ir_Check.l0]; rw [if_pos (by omega), if_pos (by omega), if_pos (by omega), rdL_get hlt, if_neg c, if_pos c1]) (Ev.now _)
      · rw [decide_eq_true (by omega), Bool.true_and]
        refine Ev.step (fun k => ?_) (ih (i + 1) (by omega) (by omega) (left - (bs[i]).length) (by omega) (by omega))
        simp only [ir_Check.l0]
        rw [if_pos (by omega), if_pos (by omega), if_pos (by omega), rdL_get hlt, if_neg c, if_neg c1, wrap_nat (by omega), wrap_id (by omega) (by omega)]
theorem check_ev : Ev (fun k => ir_Check.f k pn pp rg bs) (checkE pn pp rg bs) := by
  unfold checkE
  cases hn : nameOk pn
  · exact Ev.congr (f := fun _ => some 70) (fun k => by unfold ir_Check.f; rw [name_eq, Option.bind_some, hn, if_neg Bool.false_ne_true]) (Ev.now _)
  · rw [if_pos rfl]
    refine Ev.congr (fun k => by unfold ir_Check.f; rw [name_eq, Option.bind_some, hn, if_pos rfl]) ?_
    have hyes : ¬ shapeP pp rg bs → Ev (fun k => ir_Check.j0 k true pn pp rg bs) (if shapeP pp rg bs then allE rg (bs.length : Int) bs else 71) := fun h => by
      rw [if_neg h]
      exact Ev.step (f := fun _ => some 71) (fun k => by simp only [ir_Check.j0]; rw [if_pos trivial]) (Ev.now _)
    by_cases c0 : pp < 0
    · exact Ev.congr (fun k => by rw [if_pos c0]) (hyes (fun h => by have := h.1; omega))
    by_cases c1 : pp > 4
    · exact Ev.congr (fun k => by rw [if_neg c0, if_pos c1]) (hyes (fun h => by have := h.2.1; omega))
    by_cases c2 : rg < pp
    · exact Ev.congr (fun k => by rw [if_neg c0, if_neg c1, if_pos c2]) (hyes (fun h => by have := h.2.2.1; omega))
    by_cases c3 : rg > 64
    · exact Ev.congr (fun k => by rw [if_neg c0, if_neg c1, if_neg c2, if_pos c3]) (hyes (fun h => by have := h.2.2.2.1; omega))
    by_cases c4 : (bs.length : Int) < 1
    · exact Ev.congr (fun k => by rw [if_neg c0, if_neg c1, if_neg c2, if_neg c3, if_pos c4]) (hyes (fun h => by have := h.2.2.2.2.1; omega))
    refine Ev.congr (fun k => by rw [if_neg c0, if_neg c1, if_neg c2, if_neg c3, if_neg c4]) ?_
    by_cases c5 : (bs.length : Int) > 32
    · rw [decide_eq_true c5]
      exact hyes (fun h => by have := h.2.2.2.2.2.1; omega)
    · rw [decide_eq_false c5]
      have := check_fits pn pp rg bs hF bs.length 0 (by omega) (by omega) 200 (by omega) (by omega)
      rw [List.drop_zero] at this
      refine Ev.step (f := fun k => ir_Check.l0 k 200 bs (bs.length : Int) ((0 : Nat) : Int) pn pp rg bs) (fun k => by simp only [ir_Check.j0]; rw [if_neg Bool.false_ne_true]; rfl) ?_
      by_cases hf : fits 200 bs = true
      · rw [if_pos hf] at this
        rw [if_pos ⟨by omega, by omega, by omega, by omega, by omega, by omega, hf⟩]
        exact this
      · rw [if_neg hf] at this
        rw [if_neg (fun h => hf h.2.2.2.2.2.2)]
        exact this
end
end Go.Proofs.YtebnnknijbgekaaDoor.PlainCheck
namespace Go.Proofs.YtebnnknijbgekaaDoor.PlainCheck
open Go Go.RowKit Go.Proofs.YtebnnknijbgekaaDoorW.PrintWords Go.Proofs.YtebnnknijbgekaaDoorW.PrintMore Go.Proofs.YtebnnknijbgekaaDoor.Q Go.Proofs.YtebnnknijbgekaaDoor.Plain Go.Proofs.YtebnnknijbgekaaDoor.PlainIr Go.Proofs.YtebnnknijbgekaaDoor.PlainName Go.Proofs.YtebnnknijbgekaaDoor.PlainOne Go.Proofs.YtebnnknijbgekaaDoor.PlainHeavy
set_option linter.unusedVariables false

theorem allE_zero {rg nb : Int} : ∀ {bs : List (List SIns)}, allE rg nb bs = 0 → ∀ b ∈ bs, rowE rg nb b = 0
  | [], _ => by simp
  | c :: bs, h => by
    unfold allE at h
    split at h
    · next h1 =>
      intro b hb
      rcases List.mem_cons.1 hb with rfl | hb
      · exact h1
      · exact allE_zero h b hb
    · next h1 => exact absurd h h1
theorem rowE_zero {rg nb : Int} : ∀ {b : List SIns}, rowE rg nb b = 0 → ∀ (j : Nat) (h : j < b.length), insE rg nb b[j] (b.drop (j + 1)).isEmpty = 0
  | [], _ => by
    intro j h
    exact absurd h (by simp)
  | x :: xs, h => by
    unfold rowE at h
    split at h
    · next h1 =>
      intro j hj
      cases j with
      | zero => exact h1
      | succ j => exact rowE_zero h j (by simpa using hj)
    · next h1 => exact absurd h h1
/-- What holds of an instruction that may be. -/
structure InsOk (rg nb : Int) (x : SIns) (last : Bool) : Prop where
  op : 1 ≤ x.f0 ∧ x.f0 ≤ 14
  last : lastOp x.f0 = last
  bare : bareP x.f0 x.f1 x.f2 x.f3 x.f4 x.f5
  def_ : hasD x.f0 → 0 ≤ x.f1 ∧ x.f1 < rg
  use : ∀ n ∈ uses x.f0 x.f2 x.f3 x.f5, 0 ≤ n ∧ n < rg
  num : x.f0 = 1 → 0 ≤ x.f2 ∧ x.f2 < 65536
  goal : ∀ n ∈ targets7 x.f0 x.f1 x.f2 x.f3, 0 ≤ n ∧ n < nb
  name : x.f0 = 11 → nameOk x.f4 = true ∧ x.f5.length ≤ 4
theorem not_any {m : Int} {l : List Int} (h : ¬ l.any (oddReg m) = true) : ∀ n ∈ l, 0 ≤ n ∧ n < m := by
  intro n hn
  have : ¬ oddReg m n = true := fun hx => h (List.any_eq_true.2 ⟨n, hn, hx⟩)
  rw [odd_iff] at this
  omega
theorem insE_zero {rg nb : Int} {x : SIns} {last : Bool} (h : insE rg nb x last = 0) : InsOk rg nb x last := by
  unfold insE oneE at h
  split at h
  · next h0 =>
    unfold e1 at h
    split at h
    · exact absurd h (by decide)
    · next h1 =>
      unfold e2 at h
      split at h
      · exact absurd h (by decide)
      · next h2 =>
        unfold e3 at h
        split at h
        · exact absurd h (by decide)
        · next h3 =>
          unfold e4 at h
          split at h
          · exact absurd h (by decide)
          · next h4 =>
            unfold e5 at h
            split at h
            · exact absurd h (by decide)
            · next h5 =>
              refine ⟨h0.1, h0.2.1, h0.2.2, ?_, not_any (fun y => h1 (.inr y)), ?_, not_any h3, ?_⟩
              · intro hd
                have : ¬ oddReg rg x.f1 = true := fun y => h1 (.inl ⟨hd, y⟩)
                rw [odd_iff] at this
                omega
              · intro h6
                omega
              · intro h6
                refine ⟨?_, by omega⟩
                cases hn : nameOk x.f4
                · exact absurd ⟨h6, hn⟩ h4
                · rfl
  · exact absurd h (by decide)
/-- A function that may be. -/
structure FuncOk (nm : ByteArray) (params regs : Int) (bs : List (List SIns)) : Prop where
  name : nameOk nm = true
  shape : shapeP params regs bs
  row : ∀ b ∈ bs, b.length ≠ 0
  tot : total bs ≤ 200
  ins : ∀ b ∈ bs, ∀ (j : Nat) (h : j < b.length), InsOk regs (bs.length : Int) b[j] (b.drop (j + 1)).isEmpty
theorem checkE_zero {nm : ByteArray} {params regs : Int} {bs : List (List SIns)} (h : checkE nm params regs bs = 0) : FuncOk nm params regs bs := by
  unfold checkE at h
  split at h
  · next h0 =>
    split at h
    · next h1 =>
      have hf := of_decide_eq_true h1.2.2.2.2.2.2
      exact ⟨h0, h1, hf.1, by have := hf.2; omega, fun b hb j hj => insE_zero (rowE_zero (allE_zero h b hb) j hj)⟩
    · exact absurd h (by decide)
  · exact absurd h (by decide)
end Go.Proofs.YtebnnknijbgekaaDoor.PlainCheck
namespace Go.Proofs.YtebnnknijbgekaaDoor.PlainLive
open Go Go.RowKit Go.Proofs.YtebnnknijbgekaaDoorW.PrintWords Go.Proofs.YtebnnknijbgekaaDoorW.PrintMore Go.Proofs.YtebnnknijbgekaaDoor.Q Go.Proofs.YtebnnknijbgekaaDoor.Plain Go.Proofs.YtebnnknijbgekaaDoor.PlainIr Go.Proofs.YtebnnknijbgekaaDoor.PlainBits Go.Proofs.YtebnnknijbgekaaDoor.PlainFix Go.Proofs.YtebnnknijbgekaaDoor.PlainSuccs Go.Proofs.YtebnnknijbgekaaDoor.PlainOne Go.Proofs.YtebnnknijbgekaaDoor.PlainHeavy Go.Proofs.YtebnnknijbgekaaDoor.PlainCheck
set_option linter.unusedVariables false
set_option linter.unusedSimpArgs false

theorem with_eq {s : Nat} {n : Int} (h0 : 0 ≤ n) (h : n < 64) (hs : s < 2 ^ 64) : live_set_with.f (s : Int) n = some ((withB s n.toNat : Nat) : Int) := by
  unfold live_set_with.f
  rw [if_pos (wrap_nonneg n)]
  have := bits_with (s := s) (r := n.toNat) (by omega) hs
  rw [show ((n.toNat : Nat) : Int) = n by omega] at this
  rw [this]
theorem without_eq {s : Nat} {n : Int} (h0 : 0 ≤ n) (h : n < 64) (hs : s < 2 ^ 64) : live_set_without.f (s : Int) n = some ((withoutB s n.toNat : Nat) : Int) := by
  unfold live_set_without.f
  rw [if_pos (wrap_nonneg n)]
  have := bits_without (s := s) (r := n.toNat) (by omega) hs
  rw [show ((n.toNat : Nat) : Int) = n by omega] at this
  rw [this]
theorem each_ev {R : Nat} (hR : R ≤ 64) (l : List Int) (hl : l.length ≤ 4611686018427387904) (hm : ∀ n ∈ l, 0 ≤ n ∧ n < R) {s : Nat} (hs : s < 2 ^ R) (B : Bool) : Ev (fun k => live_set_each.f k (s : Int) l B) ((l.foldl (fun s n => withB s n.toNat) s : Nat) : Int) := by
  have h : ∀ (d j s : Nat), j + d = l.length → s < 2 ^ R → Ev (fun k => live_set_each.l0 k (s : Int) l (l.length : Int) (j : Int)) (((l.drop j).foldl (fun s n => withB s n.toNat) s : Nat) : Int) := by
    intro d
    induction d with
    | zero =>
      intro j s hj hs
      rw [List.drop_eq_nil_of_le (by omega)]
      exact Ev.step (f := fun _ => some (s : Int)) (fun k => by simp only [live_set_each.l0]; rw [if_neg (by omega)]) (Ev.now _)
    | succ d ih =>
      intro j s hj hs
      have hjl : j < l.length := by omega
      have h1 := hm _ (List.getElem_mem hjl)
      rw [drop_cons hjl, List.foldl_cons]
      refine Ev.step (fun k => ?_) (ih (j + 1) (withB s (l[j]).toNat) (by omega) (withB_lt (by omega) hs))
      simp only [live_set_each.l0]
      rw [if_pos (by omega), if_pos (by omega), if_pos (by omega), rd_get hjl, with_eq h1.1 (by omega) (lt64 hR hs), Option.bind_some, wrap_nat (by omega)]
  have := h l.length 0 s (by omega) hs
  rw [List.drop_zero] at this
  exact this
theorem through_ev {R : Nat} {x : SIns} (O : RegsOk R x) (hx : x.f5.length ≤ 17592186043904) {s : Nat} (hs : s < 2 ^ R) : Ev (fun k => live_through.f k x.f0 x.f1 x.f2 x.f3 x.f4 x.f5 (s : Int)) ((thrN x s : Nat) : Int) := by
  have hd := O.def_
  have hR := O.le
  unfold thrN
  by_cases c : 0 ≤ defOf x.f0 x.f1
  · rw [if_pos c]
    refine Ev.congr (fun k => by unfold live_through.f; rw [def_eq, Option.bind_some, if_pos c, without_eq c (by omega) (lt64 hR hs), Option.bind_some]) (Ev.bind (uses_ev x.f0 x.f1 x.f2 x.f3 x.f4 x.f5 (by omega)) ?_)
    exact Ev.bind (each_ev hR _ (uses_short (by omega)) O.use (withoutB_lt hs) false) (Ev.now _)
  · rw [if_neg c]
    refine Ev.congr (fun k => by unfold live_through.f; rw [def_eq, Option.bind_some, if_neg c]) (Ev.bind (uses_ev x.f0 x.f1 x.f2 x.f3 x.f4 x.f5 (by omega)) ?_)
    exact Ev.bind (each_ev hR _ (uses_short (by omega)) O.use hs false) (Ev.now _)
/-- Masks as the program's numbers. -/
def toI (inn : List Nat) : List Int := inn.map (fun n : Nat => (n : Int))
theorem toI_len (inn : List Nat) : (toI inn).length = inn.length := by
  unfold toI
  rw [List.length_map]
theorem rd_toI {inn : List Nat} {b : Int} : rd (toI inn) b = ((at_ inn b.toNat : Nat) : Int) := by
  show (toI inn).getD b.toNat 0 = _
  unfold at_ toI
  rw [List.getD_eq_getElem?_getD, List.getD_eq_getElem?_getD, List.getElem?_map]
  cases inn[b.toNat]? <;> rfl
section
variable (pn : ByteArray) (pp : Int) {R : Nat} {bs : List (List SIns)} (O : BlocksOk R bs) {inn : List Nat} (hlen : inn.length = bs.length) (hlt : ∀ b, at_ inn b < 2 ^ R)
include O hlen hlt
theorem ahead_ev {b i : Nat} (hb : b < bs.length) (hi : i ≤ (bs.getD b []).length) : Ev (fun k => live_ahead.f k pn pp (R : Int) bs (toI inn) (b : Int) (i : Int)) ((aheadN bs inn b i : Nat) : Int) := by
  have hbl := O.len
  have hR := O.le
  have hrow := getD_get hb
  have hr := O.row _ (List.getElem_mem hb)
  have hregs := O.regs _ (List.getElem_mem hb)
  have hargs := O.args _ (List.getElem_mem hb)
  rw [← hrow] at hr hregs hargs
  have h1 : ∀ (d m s : Nat), i + d = m → m ≤ (bs.getD b []).length → s < 2 ^ R → Ev (fun k => live_ahead.l1 k (b : Int) (i : Int) (s : Int) ((m : Int) - 1) pn pp (R : Int) bs) (((((bs.getD b []).take m).drop i).foldr thrN s : Nat) : Int) := by
    generalize hg : bs.getD b [] = row at *
    intro d
    induction d with
    | zero =>
      intro m s hm hml hs
      rw [List.drop_eq_nil_of_le (by rw [List.length_take]; omega)]
      exact Ev.step (f := fun _ => some (s : Int)) (fun k => by simp only [live_ahead.l1]; rw [if_neg (by omega)]) (Ev.now _)
    | succ d ih =>
      intro m s hm hml hs
      obtain ⟨m', rfl⟩ : ∃ m', m = m' + 1 := ⟨m - 1, by omega⟩
      have hm' : m' < row.length := by omega
      rw [row_fold (by omega) hm']
      have hx := hregs _ (List.getElem_mem hm')
      rw [show (((m' + 1 : Nat) : Int) - 1) = (m' : Int) by omega]
      refine Ev.step (fun k => by simp only [live_ahead.l1]; rw [if_pos (by omega), if_pos (by omega), if_pos (by omega), if_pos (by omega), rd_row hb, hg, if_pos (by omega), rd_ins hm']) (Ev.bind (through_ev hx (hargs _ (List.getElem_mem hm')) hs) ?_)
      exact Ev.congr (fun k => by rw [wrap_id (by omega) (by omega)]) (ih m' _ (by omega) (by omega) (thrN_lt hx hs))
  have hm := succs_mem bs (b : Int)
  have hl := succs_len bs (b : Int)
  refine Ev.bind (succs_ev bs (b : Int) O.small) ?_
  unfold aheadN orN
  generalize succs bs (b : Int) = l at *
  have h : ∀ (d j s : Nat), j + d = l.length → s < 2 ^ R → Ev (fun k => live_ahead.l0 k (toI inn) (b : Int) (i : Int) (s : Int) l (l.length : Int) (j : Int) pn pp (R : Int) bs) ((((bs.getD b []).drop i).foldr thrN ((l.drop j).foldl (fun s k => s ||| at_ inn k.toNat) s) : Nat) : Int) := by
    intro d
    induction d with
    | zero =>
      intro j s hj hs
      rw [List.drop_eq_nil_of_le (by omega : l.length ≤ j)]
      have := h1 ((bs.getD b []).length - i) (bs.getD b []).length s (by omega) (Nat.le_refl _) hs
      rw [List.take_length] at this
      exact Ev.step (fun k => by simp only [live_ahead.l0]; rw [if_neg (by omega), if_pos (by omega), if_pos (by omega), rd_row hb, wrap_id (by omega) (by omega)]) this
    | succ d ih =>
      intro j s hj hs
      have hjl : j < l.length := by omega
      have h2 := hm _ (List.getElem_mem hjl)
      rw [drop_cons hjl, List.foldl_cons]
      have h3 := hlt (l[j]).toNat
      have h4 := lt64 hR h3
      have h5 := lt64 hR hs
      refine Ev.step (fun k => ?_) (ih (j + 1) _ (by omega) (Nat.or_lt_two_pow hs h3))
      simp only [live_ahead.l0]
      rw [if_pos (by omega), if_pos (by omega), if_pos (by omega), rd_get hjl, if_pos (by omega), if_pos (by rw [toI_len]; omega), rd_toI, u64_or_nat _ _ (by omega) (by omega), wrap_nat (by omega)]
  exact h l.length 0 0 (by omega) (Nat.pos_of_ne_zero (by simp))
end
theorem toI_set (y : List Nat) (b v : Nat) : (toI y).set b (v : Int) = toI (y.set b v) := by
  unfold toI
  rw [List.map_set]
theorem toI_zero (n : Nat) : List.replicate n (0 : Int) = toI (List.replicate n 0) := by
  unfold toI
  rw [List.map_replicate]
  rfl
/-- A list on the way that is solved. -/
structure Sol (R : Nat) (bs : List (List SIns)) (z : List Nat) : Prop where
  on : On bs.length R (fun x b => aheadN bs x b 0) z
  eq : ∀ b, b < bs.length → aheadN bs z b 0 = at_ z b
theorem Sol.one {R : Nat} {bs : List (List SIns)} {y z : List Nat} (hy : Sol R bs y) (hz : Sol R bs z) : y = z := on_eq hy.on hz.on hy.eq hz.eq
section
variable (pn : ByteArray) (pp : Int) {R : Nat} {bs : List (List SIns)} (O : BlocksOk R bs)
include O
theorem sets_ev : ∃ z, Sol R bs z ∧ Ev (fun k => live_sets.f k pn pp (R : Int) bs) (toI z) := by
  have hbl := O.len
  have E := aheadN_eqs bs R O.regs
  have main : ∀ (d : Nat) (y : List Nat), On bs.length R (fun x b => aheadN bs x b 0) y → bs.length * R + 1 ≤ card R y + d → ∃ z, Sol R bs z ∧ Ev (fun k => live_sets.l0 k (toI y) true pn pp (R : Int) bs) (toI z) := by
    intro d
    induction d with
    | zero =>
      intro y hy hc
      have h1 := card_le R y
      rw [hy.len] at h1
      omega
    | succ d ih =>
      intro y0 hy0 hc
      have row : ∀ (b : Nat), b ≤ bs.length → ∀ (y : List Nat) (again : Bool), On bs.length R (fun x b => aheadN bs x b 0) y → LE y0 y → (again = false → y = y0 ∧ ∀ c, b ≤ c → c < bs.length → aheadN bs y0 c 0 = at_ y0 c) → (again = true → card R y0 < card R y) → ∃ z, Sol R bs z ∧ Ev (fun k => live_sets.l1 k (toI y) again ((b : Int) - 1) pn pp (R : Int) bs) (toI z) := by
        intro b
        induction b with
        | zero =>
          intro _ y again hy hle hf ht
          cases again
          · obtain ⟨rfl, h2⟩ := hf rfl
            refine ⟨y, ⟨hy, fun c hc => h2 c (by omega) hc⟩, ?_⟩
            refine Ev.step (fun k => by simp only [live_sets.l1]; rw [if_neg (by omega)]) ?_
            exact Ev.step (f := fun _ => some (toI y)) (fun k => by simp only [live_sets.l0]; rw [if_neg Bool.false_ne_true]) (Ev.now _)
          · obtain ⟨z, hz, hE⟩ := ih y hy (by have := ht rfl; omega)
            exact ⟨z, hz, Ev.step (fun k => by simp only [live_sets.l1]; rw [if_neg (by omega)]) hE⟩
        | succ b ihb =>
          intro hb y again hy hle hf ht
          have ha : Ev (fun k => live_ahead.f k pn pp (R : Int) bs (toI y) (b : Int) 0) ((aheadN bs y b 0 : Nat) : Int) := ahead_ev pn pp O hy.len hy.lt (b := b) (i := 0) (by omega) (Nat.zero_le _)
          have hs := on_set E hy (b := b) (by omega)
          have hyl := hy.len
          have e0 : (((b + 1 : Nat) : Int) - 1) = (b : Int) := by omega
          rw [e0]
          have hcard := card_mono R (x := y) (y := y.set b (aheadN bs y b 0)) (by rw [List.length_set]) hs.2
          cases again
          · obtain ⟨rfl, h2⟩ := hf rfl
            by_cases c : aheadN bs y b 0 = at_ y b
            · have hset : y.set b (aheadN bs y b 0) = y := by
                refine list_ext (n := bs.length) (R := R) (by rw [List.length_set]; exact hyl) hyl fun i hi => ?_
                rw [at_set (by omega)]
                split
                · next h => rw [h]; exact c
                · rfl
              obtain ⟨z, hz, hE⟩ := ihb (by omega) y false hy hle (fun _ => ⟨rfl, fun i hi hi2 => by
                by_cases e : i = b
                · subst e
                  exact c
                · exact h2 i (by omega) hi2⟩) (fun h => absurd h (by simp))
              refine ⟨z, hz, Ev.step (fun k => by simp only [live_sets.l1]; rw [if_pos (by omega)]) (Ev.bind ha ?_)⟩
              refine Ev.congr (fun k => ?_) hE
              rw [if_neg Bool.false_ne_true, if_pos (by omega), if_pos (by rw [toI_len]; omega), rd_toI, Int.toNat_natCast, toI_set, hset, c, show ((at_ y b : Int) != (at_ y b : Int)) = false by simp, wrap_id (by omega) (by omega)]
            · have hlt : card R y < card R (y.set b (aheadN bs y b 0)) := by
                apply Nat.lt_of_le_of_ne hcard
                intro e
                have := card_eq R (x := y) (y := y.set b (aheadN bs y b 0)) (by rw [List.length_set]) hs.2 hy.lt hs.1.lt e
                have h3 : at_ y b = at_ (y.set b (aheadN bs y b 0)) b := congrArg (fun l => at_ l b) this
                rw [at_set (by omega), if_pos rfl] at h3
                exact c h3.symm
              obtain ⟨z, hz, hE⟩ := ihb (by omega) (y.set b (aheadN bs y b 0)) true hs.1 hs.2 (fun h => absurd h (by simp)) (fun _ => hlt)
              refine ⟨z, hz, Ev.step (fun k => by simp only [live_sets.l1]; rw [if_pos (by omega)]) (Ev.bind ha ?_)⟩
              refine Ev.congr (fun k => ?_) hE
              rw [if_neg Bool.false_ne_true, if_pos (by omega), if_pos (by rw [toI_len]; omega), rd_toI, Int.toNat_natCast, toI_set, show ((aheadN bs y b 0 : Int) != (at_ y b : Int)) = true by simp; omega, wrap_id (by omega) (by omega)]
          · obtain ⟨z, hz, hE⟩ := ihb (by omega) (y.set b (aheadN bs y b 0)) true hs.1 (hle.trans hs.2) (fun h => absurd h (by simp)) (fun _ => Nat.lt_of_lt_of_le (ht rfl) hcard)
            refine ⟨z, hz, Ev.step (fun k => by simp only [live_sets.l1]; rw [if_pos (by omega)]) (Ev.bind ha ?_)⟩
            refine Ev.congr (fun k => ?_) hE
            rw [if_pos trivial, if_pos (by omega), if_pos (by rw [toI_len]; omega), Int.toNat_natCast, toI_set, wrap_id (by omega) (by omega)]
      obtain ⟨z, hz, hE⟩ := row bs.length (Nat.le_refl _) y0 false hy0 (LE.refl _) (fun _ => ⟨rfl, fun c h1 h2 => by omega⟩) (fun h => absurd h (by simp))
      exact ⟨z, hz, Ev.step (fun k => by simp only [live_sets.l0]; rw [if_pos trivial, wrap_id (by omega) (by omega)]) hE⟩
  obtain ⟨z, hz, hE⟩ := main (bs.length * R + 1) _ on_zero (by omega)
  refine ⟨z, hz, Ev.congr (fun k => ?_) hE⟩
  unfold live_sets.f
  rw [if_pos (by omega), if_pos (by omega), Int.toNat_natCast, toI_zero]
end
end Go.Proofs.YtebnnknijbgekaaDoor.PlainLive
namespace Go.Proofs.YtebnnknijbgekaaDoor.PlainLive
open Go Go.RowKit Go.Proofs.YtebnnknijbgekaaDoorW.PrintWords Go.Proofs.YtebnnknijbgekaaDoorW.PrintMore Go.Proofs.YtebnnknijbgekaaDoor.Q Go.Proofs.YtebnnknijbgekaaDoor.Plain Go.Proofs.YtebnnknijbgekaaDoor.PlainIr Go.Proofs.YtebnnknijbgekaaDoor.PlainName Go.Proofs.YtebnnknijbgekaaDoor.PlainBits Go.Proofs.YtebnnknijbgekaaDoor.PlainFix Go.Proofs.YtebnnknijbgekaaDoor.PlainSuccs Go.Proofs.YtebnnknijbgekaaDoor.PlainOne Go.Proofs.YtebnnknijbgekaaDoor.PlainHeavy Go.Proofs.YtebnnknijbgekaaDoor.PlainCheck
set_option linter.unusedVariables false
set_option linter.unusedSimpArgs false

theorem map_toL_zero (R n : Nat) : List.replicate n ([] : List Int) = (List.replicate n 0).map (toL R) := by
  rw [List.map_replicate, toL_zero]
section
variable (pn : ByteArray) (pp : Int) {R : Nat} {bs : List (List SIns)} (O : BlocksOk R bs)
include O
theorem refin_ev : ∃ z, Sol R bs z ∧ Ev (fun k => cubbyref11_In.l0 k (List.replicate bs.length []) 0 pn pp (R : Int) bs) (z.map (toL R)) := by
  have hbl := O.len
  have hR := O.le
  have E := aheadN_eqs bs R O.regs
  have hnR : bs.length * R ≤ 64000 := Nat.le_trans (Nat.mul_le_mul hbl hR) (by omega)
  have main : ∀ (d : Nat) (y : List Nat) (r : Nat), On bs.length R (fun x b => aheadN bs x b 0) y → r ≤ card R y → bs.length * R + 1 ≤ card R y + d → ∃ z, Sol R bs z ∧ Ev (fun k => cubbyref11_In.l0 k (y.map (toL R)) (r : Int) pn pp (R : Int) bs) (z.map (toL R)) := by
    intro d
    induction d with
    | zero =>
      intro y r hy hr hc
      have h1 := card_le R y
      rw [hy.len] at h1
      omega
    | succ d ih =>
      intro y r hy hr hc
      have hyl := hy.len
      have hcl := card_le R y
      rw [hyl] at hcl
      have hall := on_all E hy
      have hal : ((List.range bs.length).map (fun b => aheadN bs y b 0)).length = bs.length := by simp
      have row : ∀ (e b : Nat) (same : Bool), b + e = bs.length → (same = true ↔ ∀ c, c < b → (toN R (aheadN bs y c 0)).length = (toN R (at_ y c)).length) → ∃ z, Sol R bs z ∧ Ev (fun k => cubbyref11_In.l1 k (y.map (toL R)) (r : Int) (((List.range b).map (fun b => aheadN bs y b 0)).map (toL R)) same (b : Int) pn pp (R : Int) bs) (z.map (toL R)) := by
        intro e
        induction e with
        | zero =>
          intro b same hb hs
          obtain rfl : b = bs.length := by omega
          cases same
          · have hlt : card R y < card R ((List.range bs.length).map (fun b => aheadN bs y b 0)) := by
              apply Nat.lt_of_le_of_ne (card_mono R (by rw [hal, hyl]) hall.2)
              intro e
              have := card_eq R (by rw [hal, hyl]) hall.2 hy.lt hall.1.lt e
              apply absurd (hs.2 ?_) (by simp)
              intro c hc
              have h3 : at_ y c = at_ ((List.range bs.length).map (fun b => aheadN bs y b 0)) c := congrArg (fun l => at_ l c) this
              rw [at_map, if_pos hc] at h3
              rw [h3]
            obtain ⟨z, hz, hE⟩ := ih _ (r + 1) hall.1 (by omega) (by omega)
            exact ⟨z, hz, Ev.step (fun k => by simp only [cubbyref11_In.l1]; rw [if_neg (by omega), if_neg Bool.false_ne_true, wrap_nat (by omega)]) hE⟩
          · have heq := hs.1 rfl
            have hA : ∀ c, c < bs.length → aheadN bs y c 0 = at_ y c := fun c hc => (toN_eq (hy.up c hc) (hy.lt c) (E.lt y hy.lt c hc) (heq c hc).symm).symm
            have hy2 : (List.range bs.length).map (fun b => aheadN bs y b 0) = y := by
              refine list_ext (n := bs.length) (R := R) hal hyl fun c hc => ?_
              rw [at_map, if_pos hc, hA c hc]
            rw [hy2]
            exact ⟨y, ⟨hy, hA⟩, Ev.step (f := fun _ => some (y.map (toL R))) (fun k => by simp only [cubbyref11_In.l1]; rw [if_neg (by omega), if_pos trivial]) (Ev.now _)⟩
        | succ e ihe =>
          intro b same hb hs
          have ha : Ev (fun k => cubbyref11_ahead.f k pn pp (R : Int) bs (y.map (toL R)) (b : Int) 0) (toL R (aheadN bs y b 0)) := refahead_ev pn pp O hyl hy.lt (b := b) (i := 0) (by omega) (Nat.zero_le _)
          have hnow : (((List.range (b + 1)).map (fun b => aheadN bs y b 0)).map (toL R)) = (((List.range b).map (fun b => aheadN bs y b 0)).map (toL R)) ++ [toL R (aheadN bs y b 0)] := by
            rw [List.range_succ, List.map_append, List.map_append]
            rfl
          have hl2 : (((List.range b).map (fun b => aheadN bs y b 0)).map (toL R)).length = b := by simp
          have hlen : ∀ s, ((toL R s).length : Int) = ((toN R s).length : Int) := fun s => by
            unfold toL
            rw [List.length_map]
          cases same
          · have hs2 : ¬ ∀ c, c < b → (toN R (aheadN bs y c 0)).length = (toN R (at_ y c)).length := fun h => absurd (hs.2 h) (by simp)
            obtain ⟨z, hz, hE⟩ := ihe (b + 1) false (by omega) ⟨fun h => absurd h (by simp), fun h => absurd (fun c hc => h c (by omega)) hs2⟩
            rw [hnow] at hE
            refine ⟨z, hz, Ev.step (fun k => by simp only [cubbyref11_In.l1]; rw [if_pos (by omega)]) (Ev.bind ha ?_)⟩
            exact Ev.congr (fun k => by rw [if_neg Bool.false_ne_true, if_pos (by rw [hl2]; omega), wrap_nat (by omega)]) hE
          · have hs1 := hs.1 rfl
            obtain ⟨z, hz, hE⟩ := ihe (b + 1) (((toN R (aheadN bs y b 0)).length : Int) == ((toN R (at_ y b)).length : Int)) (by omega) (by
              rw [beq_iff_eq]
              constructor
              · intro h c hc
                by_cases e : c = b
                · subst e
                  omega
                · exact hs1 c (by omega)
              · intro h
                have := h b (by omega)
                omega)
            rw [hnow] at hE
            refine ⟨z, hz, Ev.step (fun k => by simp only [cubbyref11_In.l1]; rw [if_pos (by omega)]) (Ev.bind ha ?_)⟩
            exact Ev.congr (fun k => by rw [if_pos trivial, if_pos (by omega), if_pos (by rw [List.length_map]; omega), if_pos (by rw [hl2]; omega), rdL_map (by omega) (by omega), hlen, hlen, Int.toNat_natCast, wrap_nat (by omega)]) hE
      obtain ⟨z, hz, hE⟩ := row bs.length 0 true (by omega) ⟨fun _ c hc => by omega, fun _ => rfl⟩
      refine ⟨z, hz, Ev.step (fun k => ?_) hE⟩
      simp only [cubbyref11_In.l0]
      have e1 : ((bs.length : Int) * (R : Int)) = ((bs.length * R : Nat) : Int) := by simp
      rw [e1, wrap_id (i := ((bs.length * R : Nat) : Int)) (by omega) (by omega), wrap_id (by omega) (by omega), if_pos (by omega)]
      rfl
  obtain ⟨z, hz, hE⟩ := main (bs.length * R + 1) (List.replicate bs.length 0) 0 on_zero (Nat.zero_le _) (by omega)
  rw [← map_toL_zero] at hE
  exact ⟨z, hz, hE⟩
end

/-! ### a function that may be -/
theorem ok_regs {nm : ByteArray} {pp : Int} {R : Nat} {bs : List (List SIns)} (F : FuncOk nm pp (R : Int) bs) : ∀ b ∈ bs, ∀ x ∈ b, RegsOk R x := by
  intro b hb x hx
  have hR := F.shape.2.2.2.1
  obtain ⟨j, hj, rfl⟩ := List.mem_iff_getElem.1 hx
  have I := F.ins b hb j hj
  refine ⟨by omega, I.use, ?_⟩
  unfold defOf
  split
  · next h =>
    have := I.def_ h
    omega
  · omega
theorem regs_nat {nm : ByteArray} {pp rg : Int} {bs : List (List SIns)} (F : FuncOk nm pp rg bs) : ∃ R : Nat, rg = R := by
  have h0 := F.shape.1
  have h1 := F.shape.2.2.1
  exact ⟨rg.toNat, by omega⟩
theorem total_le {bs : List (List SIns)} : ∀ b ∈ bs, b.length ≤ total bs := by
  induction bs with
  | nil => simp
  | cons c bs ih =>
    intro b hb
    unfold total
    rcases List.mem_cons.1 hb with rfl | hb
    · omega
    · have := ih b hb
      omega
theorem ok_blocks {nm : ByteArray} {pp : Int} {R : Nat} {bs : List (List SIns)} (F : FuncOk nm pp (R : Int) bs) (hF : FairB bs) : BlocksOk R bs := by
  have h1 := F.shape
  exact ⟨by have := h1.2.2.2.1; omega, by have := h1.2.2.2.2.2.1; omega, fun b hb => by have := total_le b hb; have := F.tot; omega, ok_regs F, hF.ins⟩
section
variable (pn : ByteArray) (pp : Int) {R : Nat} {bs : List (List SIns)} (hF : FairB bs) (F : FuncOk pn pp (R : Int) bs) (hc : checkE pn pp (R : Int) bs = 0)
include hF F hc
/-- Both texts come to one list of masks. -/
theorem both : ∃ z, Sol R bs z ∧ Ev (fun k => live_sets.f k pn pp (R : Int) bs) (toI z) ∧ Ev (fun k => cubbyref11_In.f k pn pp (R : Int) bs) (z.map (toL R)) := by
  have O := ok_blocks F hF
  obtain ⟨z, hz, h1⟩ := sets_ev pn pp O
  obtain ⟨y, hy, h2⟩ := refin_ev pn pp O
  obtain rfl := hz.one hy
  refine ⟨z, hz, h1, ?_⟩
  have h3 := refcheck_ev pn pp (R : Int) bs hF
  rw [hc] at h3
  have hbl := O.len
  refine Ev.bind h3 (Ev.congr (fun k => ?_) h2)
  rw [if_pos rfl, if_pos (by omega), if_pos (by omega), Int.toNat_natCast]
end
theorem Sol.lt {R : Nat} {bs : List (List SIns)} {z : List Nat} (h : Sol R bs z) (b : Nat) : at_ z b < 2 ^ R := h.on.lt b
theorem Sol.len {R : Nat} {bs : List (List SIns)} {z : List Nat} (h : Sol R bs z) : z.length = bs.length := h.on.len
theorem aheadN_lt {R : Nat} {bs : List (List SIns)} (O : BlocksOk R bs) {z : List Nat} (hz : Sol R bs z) {b i : Nat} (hb : b < bs.length) : aheadN bs z b i < 2 ^ R := by
  unfold aheadN
  refine foldr_lt _ _ (fun x hx => ?_) (or_lt bs hz.lt _)
  have hx := List.mem_of_mem_drop hx
  rw [getD_get hb] at hx
  exact O.regs _ (List.getElem_mem hb) x hx
end Go.Proofs.YtebnnknijbgekaaDoor.PlainLive
namespace Go.Proofs.YtebnnknijbgekaaDoor.PlainLive
open Go Go.RowKit Go.Proofs.YtebnnknijbgekaaDoorW.PrintWords Go.Proofs.YtebnnknijbgekaaDoorW.PrintMore Go.Proofs.YtebnnknijbgekaaDoor.Q Go.Proofs.YtebnnknijbgekaaDoor.Plain Go.Proofs.YtebnnknijbgekaaDoor.PlainIr Go.Proofs.YtebnnknijbgekaaDoor.PlainName Go.Proofs.YtebnnknijbgekaaDoor.PlainBits Go.Proofs.YtebnnknijbgekaaDoor.PlainFix Go.Proofs.YtebnnknijbgekaaDoor.PlainSuccs Go.Proofs.YtebnnknijbgekaaDoor.PlainOne Go.Proofs.YtebnnknijbgekaaDoor.PlainHeavy Go.Proofs.YtebnnknijbgekaaDoor.PlainCheck
set_option linter.unusedVariables false
set_option linter.unusedSimpArgs false

theorem toL_low_of {R s p : Nat} (hs : s < 2 ^ R) : s / 2 ^ p = 0 ↔ ∀ n ∈ toL R s, n < p := by
  rw [Nat.div_eq_zero_iff_lt (Nat.pos_of_ne_zero (by simp))]
  constructor
  · intro h n hn
    obtain ⟨r, rfl, hr, hb⟩ := toL_nat hn
    apply Decidable.byContradiction
    intro hp
    have : s.testBit r = false := Nat.testBit_lt_two_pow (Nat.lt_of_lt_of_le h (Nat.pow_le_pow_right (by omega) (by omega)))
    rw [this] at hb
    exact absurd hb (by simp)
  · intro h
    apply Nat.lt_pow_two_of_testBit
    intro i hi
    cases hb : s.testBit i
    · rfl
    · have hiR : i < R := by
        apply Decidable.byContradiction
        intro hp
        have : s.testBit i = false := Nat.testBit_lt_two_pow (Nat.lt_of_lt_of_le hs (Nat.pow_le_pow_right (by omega) (by omega)))
        rw [this] at hb
        exact absurd hb (by simp)
      have := h i (mem_toL.2 ⟨hiR, hb⟩)
      omega
/-- Whether a register is used that has no value, by both texts. -/
theorem checks (pn : ByteArray) {pp : Int} {R : Nat} {bs : List (List SIns)} (hF : FairB bs) (F : FuncOk pn pp (R : Int) bs) (hc : checkE pn pp (R : Int) bs = 0) {z : List Nat} (hz : Sol R bs z)
    (h1 : Ev (fun k => live_sets.f k pn pp (R : Int) bs) (toI z)) (h2 : Ev (fun k => cubbyref11_In.f k pn pp (R : Int) bs) (z.map (toL R))) :
    Ev (fun k => live_Check.f k pn pp (R : Int) bs) (if at_ z 0 / 2 ^ pp.toNat = 0 then 0 else 110) ∧ Ev (fun k => cubbyref11_Check.f k pn pp (R : Int) bs) (if at_ z 0 / 2 ^ pp.toNat = 0 then 0 else 110) := by
  have O := ok_blocks F hF
  have hR := O.le
  have hS := F.shape
  have hp0 := hS.1
  have hp1 := hS.2.1
  have hb0 := hS.2.2.2.2.1
  have hzl := hz.len
  constructor
  · have h3 := check_ev pn pp (R : Int) bs hF
    rw [hc] at h3
    refine Ev.bind h3 (Ev.congr (fun k => by rw [if_pos rfl]) (Ev.bind h1 ?_))
    have e1 : IntKind.u64.wrap pp = pp := by
      rw [IntKind.wrap_u64]
      omega
    have e2 : shr .u64 (rd (toI z) 0) pp = ((at_ z 0 / 2 ^ pp.toNat : Nat) : Int) := by
      unfold shr
      rw [rd_toI, show IntKind.u64.bits = 64 from rfl, Nat.min_eq_left (by omega)]
      rw [show ((2 : Int) ^ pp.toNat) = ((2 ^ pp.toNat : Nat) : Int) by simp]
      rw [Int.toNat_zero]
      exact (Int.natCast_ediv _ _).symm
    by_cases c : at_ z 0 / 2 ^ pp.toNat = 0
    · rw [if_pos c]
      exact Ev.congr (f := fun _ => some 0) (fun k => by rw [if_pos (by rw [toI_len]; omega), e1, if_pos hp0, e2, if_pos (by omega)]) (Ev.now _)
    · rw [if_neg c]
      exact Ev.congr (f := fun _ => some 110) (fun k => by rw [if_pos (by rw [toI_len]; omega), e1, if_pos hp0, e2, if_neg (by omega)]) (Ev.now _)
  · have h3 := refcheck_ev pn pp (R : Int) bs hF
    rw [hc] at h3
    refine Ev.bind h3 (Ev.congr (fun k => by rw [if_pos rfl]) (Ev.bind h2 ?_))
    have hlen := toL_len R (at_ z 0)
    have hlow := toL_low_of (R := R) (p := pp.toNat) (hz.lt 0)
    refine Ev.congr (f := fun k => cubbyref11_Check.l0 k (toL R (at_ z 0)) ((0 : Nat) : Int) pn pp (R : Int) bs) (fun k => by rw [if_pos (by rw [List.length_map]; omega), rdL_map (by omega) (by omega)]; rfl) ?_
    refine seek (fun k i => cubbyref11_Check.l0 k (toL R (at_ z 0)) (i : Int) pn pp (R : Int) bs) (toL R (at_ z 0)).length (fun i => rd (toL R (at_ z 0)) (i : Int) ≥ pp) 110 _ ?_ ?_ ?_ ?_
    · intro i hi hb
      exact Ev.step (f := fun _ => some 110) (fun k => by simp only [cubbyref11_Check.l0]; rw [if_pos (by omega), if_pos (by omega), if_pos hb]) (Ev.now _)
    · intro i hi hb r' hE
      exact Ev.step (fun k => by simp only [cubbyref11_Check.l0]; rw [if_pos (by omega), if_pos (by omega), if_neg hb, wrap_nat (by omega)]) hE
    · rintro ⟨i, hi, hb⟩
      rw [rd_get hi] at hb
      rw [if_neg]
      intro h
      have := hlow.1 h _ (List.getElem_mem hi)
      omega
    · intro h
      rw [if_pos (hlow.2 fun n hn => by
        obtain ⟨i, hi, e⟩ := List.mem_iff_getElem.1 hn
        have := h i hi
        rw [rd_get hi, e] at this
        omega)]
      exact Ev.step (f := fun _ => some 0) (fun k => by simp only [cubbyref11_Check.l0]; rw [if_neg (by omega)]) (Ev.now _)
end Go.Proofs.YtebnnknijbgekaaDoor.PlainLive
namespace Go.Proofs.YtebnnknijbgekaaDoor.Dfs
open Go.Proofs.YtebnnknijbgekaaDoor.Plain
set_option linter.unusedVariables false
set_option linter.unusedSimpArgs false

def dfs (g : Int → List Int) : Nat → Int → List Int × List Int → List Int × List Int
  | 0, _, s => s
  | d + 1, i, s => (((g i).foldl (fun s k => if k ∈ s.1 then s else dfs g d k s) (s.1 ++ [i], s.2)).1, i :: ((g i).foldl (fun s k => if k ∈ s.1 then s else dfs g d k s) (s.1 ++ [i], s.2)).2)
def stepS (g : Int → List Int) (d : Nat) (s : List Int × List Int) (k : Int) : List Int × List Int := if k ∈ s.1 then s else dfs g d k s
theorem dfs_succ (g : Int → List Int) (d : Nat) (i : Int) (s : List Int × List Int) : dfs g (d + 1) i s = (((g i).foldl (stepS g d) (s.1 ++ [i], s.2)).1, i :: ((g i).foldl (stepS g d) (s.1 ++ [i], s.2)).2) := rfl

/-- How many nodes were not met yet. -/
def unmet (n : Nat) (met : List Int) : Nat := ((List.range n).filter (fun (v : Nat) => decide ((v : Int) ∉ met))).length
theorem filter_len_le {α : Type} (p q : α → Bool) : ∀ l : List α, (∀ x ∈ l, p x = true → q x = true) → (l.filter p).length ≤ (l.filter q).length
  | [], _ => Nat.le_refl _
  | a :: l, h => by
    have ih := filter_len_le p q l (fun x hx => h x (List.mem_cons_of_mem _ hx))
    have ha := h a List.mem_cons_self
    simp only [List.filter_cons]
    cases hp : p a <;> cases hq : q a <;> simp_all <;> omega
theorem filter_len_lt {α : Type} (p q : α → Bool) (y : α) : ∀ l : List α, (∀ x ∈ l, p x = true → q x = true) → y ∈ l → p y = false → q y = true → (l.filter p).length < (l.filter q).length
  | a :: l, h, hy, h1, h2 => by
    have hl := fun x hx => h x (List.mem_cons_of_mem a hx)
    have ih := filter_len_le p q l hl
    have ha := h a List.mem_cons_self
    simp only [List.filter_cons]
    rcases List.mem_cons.1 hy with rfl | hy
    · simp [h1, h2]
      omega
    · have := filter_len_lt p q y l hl hy h1 h2
      cases hp : p a <;> cases hq : q a <;> simp_all <;> omega
theorem unmet_le {n : Nat} {met met' : List Int} (h : ∀ v ∈ met, v ∈ met') : unmet n met' ≤ unmet n met := by
  refine filter_len_le _ _ _ (fun x _ hp => ?_)
  simp only [decide_eq_true_eq] at *
  exact fun hx => hp (h _ hx)
theorem unmet_lt {n : Nat} {met : List Int} {i : Int} (h0 : 0 ≤ i) (h1 : i < n) (hi : i ∉ met) : unmet n (met ++ [i]) < unmet n met := by
  refine filter_len_lt _ _ i.toNat _ (fun x _ hp => ?_) (by simp; omega) ?_ ?_
  · simp only [decide_eq_true_eq] at *
    exact fun hx => hp (List.mem_append_left _ hx)
  · have : ((i.toNat : Nat) : Int) = i := by omega
    simp [this]
  · have : ((i.toNat : Nat) : Int) = i := by omega
    simp [this, hi]
theorem unmet_nil (n : Nat) : unmet n [] = n := by
  unfold unmet
  rw [List.filter_eq_self.2 (by simp)]
  simp
theorem unmet_pos {n : Nat} {met : List Int} {i : Int} (h0 : 0 ≤ i) (h1 : i < n) (hi : i ∉ met) : 0 < unmet n met := by
  have := unmet_lt h0 h1 hi
  omega

/-- What is reached from a node. -/
inductive From (g : Int → List Int) (i : Int) : Int → Prop
  | here : From g i i
  | there {v k : Int} : From g i v → k ∈ g v → From g i k
theorem From.trans {g : Int → List Int} {i j k : Int} (h : From g i j) (h' : From g j k) : From g i k := by
  induction h' with
  | here => exact h
  | there _ hk ih => exact .there ih hk

theorem snoc_nodup {met : List Int} {i : Int} (h : met.Nodup) (hi : i ∉ met) : (met ++ [i]).Nodup := by
  rw [List.nodup_append]
  exact ⟨h, by simp, fun a ha b hb => by rw [List.mem_singleton.1 hb]; exact fun e => hi (e ▸ ha)⟩
structure Inv (n : Nat) (met put : List Int) : Prop where
  rng : ∀ v ∈ met, 0 ≤ v ∧ v < n
  sub : ∀ v ∈ put, v ∈ met
  nod : put.Nodup
  mnod : met.Nodup
/-- What a visit of the nodes l, from what was met and put, comes to. -/
structure Good (g : Int → List Int) (n : Nat) (l met put met' put' : List Int) : Prop where
  inv : Inv n met' put'
  keep : ∀ v ∈ met, v ∈ met'
  mem : ∀ k ∈ l, k ∈ met'
  closed : ∀ v ∈ met', v ∉ met → ∀ k ∈ g v, k ∈ met'
  reach : ∀ v ∈ met', v ∉ met → ∃ k ∈ l, From g k v
  puts : ∀ v, v ∈ put' ↔ v ∈ put ∨ (v ∈ met' ∧ v ∉ met)

theorem fold_good {g : Int → List Int} {n d : Nat} (H : ∀ (i : Int) (met put : List Int), 0 ≤ i → i < n → i ∉ met → unmet n met ≤ d → Inv n met put → Good g n [i] met put (dfs g d i (met, put)).1 (dfs g d i (met, put)).2) :
    ∀ (l met put : List Int), (∀ k ∈ l, 0 ≤ k ∧ k < n) → unmet n met ≤ d → Inv n met put → Good g n l met put (l.foldl (stepS g d) (met, put)).1 (l.foldl (stepS g d) (met, put)).2
  | [], met, put, _, _, hv => ⟨hv, fun _ h => h, by simp, fun v h h' => absurd h h', fun v h h' => absurd h h', fun v => ⟨.inl, fun h => h.elim id (fun h => absurd h.1 h.2)⟩⟩
  | k :: l, met, put, hl, hu, hv => by
    have hl' := fun q hq => hl q (List.mem_cons_of_mem k hq)
    obtain ⟨k0, k1⟩ := hl k List.mem_cons_self
    simp only [List.foldl_cons]
    by_cases hk : k ∈ met
    · have e : stepS g d (met, put) k = (met, put) := by unfold stepS; rw [if_pos hk]
      rw [e]
      have ih := fold_good H l met put hl' hu hv
      refine ⟨ih.inv, ih.keep, fun q hq => ?_, ih.closed, fun v h h' => ?_, ih.puts⟩
      · rcases List.mem_cons.1 hq with rfl | hq
        · exact ih.keep _ hk
        · exact ih.mem q hq
      · obtain ⟨q, hq, hf⟩ := ih.reach v h h'
        exact ⟨q, List.mem_cons_of_mem _ hq, hf⟩
    · have e : stepS g d (met, put) k = dfs g d k (met, put) := by unfold stepS; rw [if_neg hk]
      rw [e]
      have h1 := H k met put k0 k1 hk hu hv
      generalize dfs g d k (met, put) = s1 at h1
      obtain ⟨m1, p1⟩ := s1
      have ih := fold_good H l m1 p1 hl' (Nat.le_trans (unmet_le h1.keep) hu) h1.inv
      generalize l.foldl (stepS g d) (m1, p1) = s2 at ih
      obtain ⟨m2, p2⟩ := s2
      simp only at h1 ih ⊢
      refine ⟨ih.inv, fun v h => ih.keep v (h1.keep v h), fun q hq => ?_, fun v h h' => ?_, fun v h h' => ?_, fun v => ?_⟩
      · rcases List.mem_cons.1 hq with rfl | hq
        · exact ih.keep _ (h1.mem _ List.mem_cons_self)
        · exact ih.mem q hq
      · by_cases hm : v ∈ m1
        · exact fun q hq => ih.keep q (h1.closed v hm h' q hq)
        · exact ih.closed v h hm
      · by_cases hm : v ∈ m1
        · obtain ⟨q, hq, hf⟩ := h1.reach v hm h'
          rw [List.mem_singleton.1 hq] at hf
          exact ⟨k, List.mem_cons_self, hf⟩
        · obtain ⟨q, hq, hf⟩ := ih.reach v h hm
          exact ⟨q, List.mem_cons_of_mem _ hq, hf⟩
      · rw [ih.puts v, h1.puts v]
        constructor
        · rintro ((h | ⟨h, h'⟩) | ⟨h, h'⟩)
          · exact .inl h
          · exact .inr ⟨ih.keep v h, h'⟩
          · exact .inr ⟨h, fun hm => h' (h1.keep v hm)⟩
        · rintro (h | ⟨h, h'⟩)
          · exact .inl (.inl h)
          · by_cases hm : v ∈ m1
            · exact .inl (.inr ⟨hm, h'⟩)
            · exact .inr ⟨h, hm⟩

theorem dfs_good {g : Int → List Int} {n : Nat} (hg : ∀ i, ∀ k ∈ g i, 0 ≤ k ∧ k < n) : ∀ (d : Nat) (i : Int) (met put : List Int), 0 ≤ i → i < n → i ∉ met → unmet n met ≤ d → Inv n met put →
    Good g n [i] met put (dfs g d i (met, put)).1 (dfs g d i (met, put)).2 := by
  intro d
  induction d with
  | zero =>
    intro i met put h0 h1 hi hu _
    have := unmet_pos h0 h1 hi
    omega
  | succ d ih =>
    intro i met put h0 h1 hi hu hv
    rw [dfs_succ]
    have hu' : unmet n (met ++ [i]) ≤ d := by have := unmet_lt h0 h1 hi; omega
    have hv' : Inv n (met ++ [i]) put := ⟨fun v h => by
      rcases List.mem_append.1 h with h | h
      · exact hv.rng v h
      · rw [List.mem_singleton.1 h]; exact ⟨h0, h1⟩, fun v h => List.mem_append_left _ (hv.sub v h), hv.nod, snoc_nodup hv.mnod hi⟩
    have hf := fold_good ih (g i) (met ++ [i]) put (hg i) hu' hv'
    simp only
    generalize (g i).foldl (stepS g d) (met ++ [i], put) = s at hf
    obtain ⟨m, p⟩ := s
    simp only at hf ⊢
    have him : i ∈ m := hf.keep i (by simp)
    have hip : i ∉ p := by
      rw [hf.puts i]
      rintro (h | ⟨_, h⟩)
      · exact hi (hv.sub i h)
      · exact h (by simp)
    refine ⟨⟨hf.inv.rng, fun v h => ?_, List.nodup_cons.2 ⟨hip, hf.inv.nod⟩, hf.inv.mnod⟩, fun v h => hf.keep v (List.mem_append_left _ h), fun k hk => ?_, fun v h h' => ?_, fun v h h' => ?_, fun v => ?_⟩
    · rcases List.mem_cons.1 h with rfl | h
      · exact him
      · exact hf.inv.sub v h
    · rw [List.mem_singleton.1 hk]; exact him
    · by_cases e : v = i
      · subst e
        exact fun k hk => hf.mem k hk
      · exact hf.closed v h (by simp [h', e])
    · by_cases e : v = i
      · subst e
        exact ⟨v, List.mem_singleton.2 rfl, .here⟩
      · obtain ⟨k, hk, hf'⟩ := hf.reach v h (by simp [h', e])
        exact ⟨i, List.mem_singleton.2 rfl, From.trans (.there .here hk) hf'⟩
    · rw [List.mem_cons, hf.puts v]
      constructor
      · rintro (rfl | h | ⟨h, h'⟩)
        · exact .inr ⟨him, hi⟩
        · exact .inl h
        · exact .inr ⟨h, fun hm => h' (List.mem_append_left _ hm)⟩
      · rintro (h | ⟨h, h'⟩)
        · exact .inr (.inl h)
        · by_cases e : v = i
          · exact .inl e
          · exact .inr (.inr ⟨h, by simp [h', e]⟩)

theorem Inv.snoc {n : Nat} {met put : List Int} {i : Int} (hv : Inv n met put) (h0 : 0 ≤ i) (h1 : i < n) (hi : i ∉ met) : Inv n (met ++ [i]) put :=
  ⟨fun v h => by
    rcases List.mem_append.1 h with h | h
    · exact hv.rng v h
    · rw [List.mem_singleton.1 h]; exact ⟨h0, h1⟩, fun v h => List.mem_append_left _ (hv.sub v h), hv.nod, snoc_nodup hv.mnod hi⟩
/-- The order in which what is reached from 0 is put. -/
def order (g : Int → List Int) (n : Nat) : List Int := if n = 0 then [] else (dfs g n 0 ([], [])).2
section
variable {g : Int → List Int} {n : Nat} (hg : ∀ i, ∀ k ∈ g i, 0 ≤ k ∧ k < n)
include hg
theorem good0 (hn : 0 < n) : Good g n [0] [] [] (dfs g n 0 ([], [])).1 (dfs g n 0 ([], [])).2 :=
  dfs_good hg n 0 [] [] (by omega) (by omega) (by simp) (by rw [unmet_nil]; exact Nat.le_refl _) ⟨by simp, by simp, List.nodup_nil, List.nodup_nil⟩
theorem met_iff (hn : 0 < n) (v : Int) : v ∈ (dfs g n 0 ([], [])).1 ↔ From g 0 v := by
  have h := good0 hg hn
  constructor
  · intro hv
    obtain ⟨k, hk, hf⟩ := h.reach v hv (by simp)
    rw [List.mem_singleton.1 hk] at hf
    exact hf
  · intro hf
    induction hf with
    | here => exact h.mem 0 (by simp)
    | there _ hk ih => exact h.closed _ ih (by simp) _ hk
theorem order_iff (hn : 0 < n) (v : Int) : v ∈ order g n ↔ From g 0 v := by
  unfold order
  rw [if_neg (by omega), (good0 hg hn).puts v, met_iff hg hn v]
  simp
theorem order_nodup : (order g n).Nodup := by
  unfold order
  split
  · exact List.nodup_nil
  · exact (good0 hg (by omega)).inv.nod
theorem order_rng (v : Int) (hv : v ∈ order g n) : 0 ≤ v ∧ v < n := by
  unfold order at hv
  split at hv
  · simp at hv
  · have h := good0 hg (n := n) (by omega)
    exact h.inv.rng v (h.inv.sub v hv)
omit hg in
theorem order_head (hn : 0 < n) : ∃ t, order g n = 0 :: t := by
  unfold order
  rw [if_neg (by omega)]
  obtain ⟨m, rfl⟩ : ∃ m, n = m + 1 := ⟨n - 1, by omega⟩
  exact ⟨_, by rw [dfs_succ]⟩
end

theorem nodup_len {n : Nat} : ∀ {l : List Int}, l.Nodup → (∀ v ∈ l, 0 ≤ v ∧ v < n) → l.length ≤ n := by
  have key : ∀ (m : Nat) (l : List Int), l.Nodup → (∀ v ∈ l, 0 ≤ v ∧ v < m) → l.length ≤ m := by
    intro m
    induction m with
    | zero =>
      intro l _ h
      cases l with
      | nil => exact Nat.le_refl _
      | cons a l => have := h a List.mem_cons_self; omega
    | succ m ih =>
      intro l hd h
      have h1 : (l.erase (m : Int)).length ≤ m := ih _ (hd.erase _) (fun v hv => by
        have hv' := (List.Nodup.mem_erase_iff hd).1 hv
        have := h v hv'.2
        have hne := hv'.1
        omega)
      have h2 : l.length ≤ (l.erase (m : Int)).length + 1 := by
        rw [List.length_erase]
        split <;> omega
      omega
  intro l hd h
  exact key n _ hd h
theorem Inv.len {n : Nat} {met put : List Int} (h : Inv n met put) : put.length ≤ n := nodup_len h.nod (fun v hv => h.rng v (h.sub v hv))
theorem Inv.mlen {n : Nat} {met put : List Int} (h : Inv n met put) : met.length ≤ n := nodup_len h.mnod h.rng
/-- Who was met, as bits. -/
def bitsOf (n : Nat) (met : List Int) : List Bool := (List.range n).map (fun (v : Nat) => decide ((v : Int) ∈ met))
theorem bits_len (n : Nat) (met : List Int) : (bitsOf n met).length = n := by simp [bitsOf]
theorem bits_get {n : Nat} {met : List Int} {i : Nat} (h : i < n) : (bitsOf n met)[i]? = some (decide ((i : Int) ∈ met)) := by simp [bitsOf, h]
theorem bits_nil (n : Nat) : bitsOf n [] = List.replicate n false := by
  apply List.ext_getElem?
  intro i
  by_cases h : i < n
  · rw [bits_get h, List.getElem?_replicate, if_pos h]
    simp
  · rw [List.getElem?_eq_none (by simp [bitsOf]; omega), List.getElem?_eq_none (by simp; omega)]
theorem bits_set {n : Nat} {met : List Int} {i : Int} (h0 : 0 ≤ i) (h1 : i < n) : (bitsOf n met).set i.toNat true = bitsOf n (met ++ [i]) := by
  apply List.ext_getElem?
  intro j
  by_cases h : j < n
  · rw [List.getElem?_set, bits_get h, bits_get h]
    by_cases e : i.toNat = j
    · rw [if_pos e, if_pos (by rw [bits_len]; omega)]
      have : (j : Int) = i := by omega
      simp [this]
    · rw [if_neg e]
      have : (j : Int) ≠ i := by omega
      simp [this]
  · rw [List.getElem?_eq_none (by simp [bits_len]; omega), List.getElem?_eq_none (by simp [bits_len]; omega)]
end Go.Proofs.YtebnnknijbgekaaDoor.Dfs
namespace Go.Proofs.YtebnnknijbgekaaDoor.Q
open Go.RowKit Go.Proofs.YtebnnknijbgekaaDoorW.PrintWords Go.Proofs.YtebnnknijbgekaaDoorW.PrintLast Go.Proofs.YtebnnknijbgekaaDoorW.PrintMore
attribute [local go_sem] max2_int min2_int max_two min_two max_three min_three max_four min_four   -- for this text's walks alone
set_option linter.unusedVariables false
set_option linter.unusedSimpArgs false

/-! ### cubbyref09_visit: function 80 -/
mutual
def cubbyref09_visit.l0 : Nat → List (List (SIns)) → Int → List Int → List Int → List Int → Int → Option (List Int × List Int)
 | 0, _, _, _, _, _, _ => none
 | k + 1, x0, x1, x2, x3, x11, x12 => if x12 < (x11.length : Int) then (if 0 ≤ x12 then ((cubbyref09_has.f k x2 (rd x11 x12)).bind fun t557 => (if t557 = true then (cubbyref09_visit.l0 k x0 x1 x2 x3 x11 (wrap64 (x12 + 1))) else ((cubbyref09_visit.f k x0 (rd x11 x12) x2 x3).bind fun bt559 => (cubbyref09_visit.l0 k x0 x1 bt559.1 bt559.2 x11 (wrap64 (x12 + 1)))))) else (none)) else ((some (([x1] : List Int) : List Int)).bind fun y550 => (if y550.length + x3.length < 17592186044416 then (some (x2, (y550 ++ x3))) else (none)))
def cubbyref09_visit.f : Nat → List (List (SIns)) → Int → List Int → List Int → Option (List Int × List Int)
 | 0, _, _, _, _ => none
 | k + 1, l0, a1, l2, l3 => (some (([] : List Int) : List Int)).bind fun y538 => (if y538.length + l2.length < 17592186044416 then ((some (y538 ++ l2 : List Int)).bind fun y541 => (if y541.length < 17592186044416 then ((cubbyref09_Succs.f k l0 a1).bind fun t547 => (cubbyref09_visit.l0 k l0 a1 (y541 ++ [a1]) l3 t547 0)) else (none))) else (none))
end
theorem cubbyref09_visit.mono_l : ∀ k, (∀ y0 y1 y2 y3, LeO (cubbyref09_visit.f k y0 y1 y2 y3) (cubbyref09_visit.f (k + 1) y0 y1 y2 y3)) ∧ (∀ y0 y1 y2 y3 y4 y5, LeO (cubbyref09_visit.l0 k y0 y1 y2 y3 y4 y5) (cubbyref09_visit.l0 (k + 1) y0 y1 y2 y3 y4 y5))
 | 0 => ⟨fun _ _ _ _ r h => by simp [cubbyref09_visit.f] at h, fun _ _ _ _ _ _ r h => by simp [cubbyref09_visit.l0] at h⟩
 | k + 1 => by
  obtain ⟨ih0, ih1⟩ := cubbyref09_visit.mono_l k
  refine ⟨?_, ?_⟩ <;> intros <;> (first | unfold cubbyref09_visit.f | unfold cubbyref09_visit.l0) <;> repeat' first | (with_reducible exact ih0 _ _ _ _) | (with_reducible exact ih1 _ _ _ _ _ _) | (with_reducible exact cubbyref09_Succs.mono _ _ _) | (with_reducible exact cubbyref09_has.mono _ _ _) | (with_reducible exact LeO.refl _) | (with_reducible exact LeO.none _) | (with_reducible refine LeO.ite ?_ ?_) | (with_reducible refine LeO.bind ?_ (fun _ => ?_)) | exact LeO.none _ | refine LeO.ite ?_ ?_ | refine LeO.bind ?_ (fun _ => ?_)
theorem cubbyref09_visit.mono : ∀ a0 a1 a2 a3 k, LeO (cubbyref09_visit.f k a0 a1 a2 a3) (cubbyref09_visit.f (k + 1) a0 a1 a2 a3) := by
 intro a0 a1 a2 a3 k
 obtain ⟨ih0, ih1⟩ := cubbyref09_visit.mono_l k
 exact ih0 a0 a1 a2 a3
set_option maxHeartbeats 8000000 in
set_option maxRecDepth 100000 in
theorem cubbyref09_visit.calls (k : Nat) : ∀ (A0 : Option Addr) (c0 : Nat) (l0 : List (List (SIns))) (a1 : Int) (A2 : Option Addr) (c2 : Nat) (l2 : List Int) (P3_ : Nat → Prop) (A3 : Option Addr) (c3 : Nat) (l3 : List Int) (r1 : List Int) (r2 : List Int) (w : World) (hr0 : Kd.C (Kd.slice 31 kIns) w A0 l0.length l0) (hc0 : l0.length ≤ c0) (hr2 : Kd.C (Kd.int .i64) w A2 l2.length l2) (hc2 : l2.length ≤ c2) (hs3 : Kd.V (Kd.int .i64) 3 w w.heap.size (fun k_ => P3_ k_) (.slice A3 l3.length c3) l3) (h : cubbyref09_visit.f k l0 a1 l2 l3 = some (r1, r2)),
  Calls Tryd.prog 80 #[.slice A0 l0.length c0, .int .i64 a1, .slice A2 l2.length c2, .slice A3 l3.length c3] w fun e w' => ∃ v0_ v1_ : Value, e = .returned (.tuple #[v0_, v1_]) ∧ Kd.R (Kd.int .i64) 3 w' w.heap.size (fun k_ => (w.heap.size ≤ k_) ∧ some k_ ≠ (v1_ : Value).ownBlock) v0_ r1 ∧ Kd.R (Kd.int .i64) 3 w' w.heap.size (fun k_ => (w.heap.size ≤ k_) ∧ some k_ ≠ (v0_ : Value).ownBlock) v1_ r2 ∧ Below w.heap.size w w' := by
 induction k using Nat.strongRecOn with
 | _ k ih =>
 intro A0 c0 l0 a1 A2 c2 l2 P3_ A3 c3 l3 r1 r2 w hr0 hc0 hr2 hc2 hs3 h
 cases k with
 | zero => exact absurd h (by simp [cubbyref09_visit.f])
 | succ k =>
 simp only [cubbyref09_visit.f] at h
 have HR0 := Aside0.mk hr0
 have HC0 := Aside0.mk hc0
 clear hr0 hc0
 have HR2 := Aside0.mk hr2
 have HC2 := Aside0.mk hc2
 clear hr2 hc2
 have HO3 := Aside0.mk (show Kd.V (Kd.int .i64) 3 w w.heap.size (fun k_ => (P3_ k_ ∨ w.heap.size ≤ k_)) (.slice A3 l3.length c3) l3 from Kd.V_mono hs3 (fun k_ hk => .inl hk))
 have HB := Aside0.mk (Below.refl w.heap.size w)
 have H := h; clear h; unfold cubbyref09_visit.f at H
 obtain ⟨y538, hy538⟩ : ∃ y_ : List Int, y_ = (([] : List Int)) := ⟨_, rfl⟩
 replace H : (if y538.length + l2.length < 17592186044416 then ((some (y538 ++ l2 : List Int)).bind fun y541 => (if y541.length < 17592186044416 then ((cubbyref09_Succs.f k l0 a1).bind fun t547 => (cubbyref09_visit.l0 k l0 a1 (y541 ++ [a1]) l3 t547 0)) else (none))) else (none)) = some (r1, r2) := by first | (rw [hy538]; with_reducible exact H) | (have H2_ := (Option.bind_some _ _).symm.trans H; rw [hy538]; with_reducible exact H2_) | (have H2_ := (Option.bind_some _ _).symm.trans H; with_reducible exact H2_) | with_reducible exact H | (rw [hy538]; exact H) | exact H
 have Ny538 := Aside0.mk hy538
 clear hy538
 by_cases c5 : y538.length + l2.length < 17592186044416
 ·rw [if_pos c5] at H
  have LMc5 := Aside0.mk c5
  clear c5
  obtain ⟨y541, hy541⟩ : ∃ y_ : List Int, y_ = (y538 ++ l2) := ⟨_, rfl⟩
  replace H : (if y541.length < 17592186044416 then ((cubbyref09_Succs.f k l0 a1).bind fun t547 => (cubbyref09_visit.l0 k l0 a1 (y541 ++ [a1]) l3 t547 0)) else (none)) = some (r1, r2) := by first | (rw [hy541]; with_reducible exact H) | (have H2_ := (Option.bind_some _ _).symm.trans H; rw [hy541]; with_reducible exact H2_) | (have H2_ := (Option.bind_some _ _).symm.trans H; with_reducible exact H2_) | with_reducible exact H | (rw [hy541]; exact H) | exact H
  have Ny541 := Aside0.mk hy541
  clear hy541
  by_cases c6 : y541.length < 17592186044416
  ·rw [if_pos c6] at H
   have LMc6 := Aside0.mk c6
   clear c6
   obtain ⟨y544, hy544⟩ : ∃ y_ : List Int, y_ = (y541 ++ [a1]) := ⟨_, rfl⟩
   replace H : ((cubbyref09_Succs.f k l0 a1).bind fun t547 => (cubbyref09_visit.l0 k l0 a1 y544 l3 t547 0)) = some (r1, r2) := by first | (rw [hy544]; with_reducible exact H) | (have H2_ := (Option.bind_some _ _).symm.trans H; rw [hy544]; with_reducible exact H2_) | (have H2_ := (Option.bind_some _ _).symm.trans H; with_reducible exact H2_) | with_reducible exact H | (rw [hy544]; exact H) | exact H
   have Ny544 := Aside0.mk hy544
   clear hy544
   replace H := qb H; obtain ⟨t547, A7, H⟩ := H
   have H' := Aside0.mk H
   clear H
   go_enter Tryd.func80, Tryd.ntmps80
   go_wp2_with (first | ((with_reducible refine gate_dst (N := 14) rfl ?_); refine Kd.R_lit (Kd.int .i64) _ 3 (by rfl) (N := 14) (by rfl) (xs := ([] : List Int)) (inner := []) (ok := fun _ => True) (okp := fun _ => True) ?hr ?hp (fun _ hk => hk) trivial (Below.refl _ _) (Nat.le_refl _) (by simp) ?_; (case hr => first | (go_simp; done) | (go_simp; rfl)); (case hp => exact (Reps.none _ _)); intro v539 w8 ho9 hb hg_ hnew_; clear hg_ hnew_; (first | rw [← Ny538.out] at ho9 | (simp only [Int.reduceToNat] at ho9; rw [← Ny538.out] at ho9)); replace HO3 := Aside0.mk (Kd.V_elder' (qV HO3.out) (Kd.R_base ho9) hb); have HO540 := Aside0.mk (Kd.R_lower (Kd.R_newM (M := fun k_ => (w.heap.size ≤ k_)) ho9 (below_size qB) (fun k_ h_ => h_)) (below_size qB)); replace HB := qH hb; clear hb ho9) | ((with_reducible refine gate_builtin (b := .append) (xs := #[.tmp 15, .tmp 16]) rfl ?_); at_builtin; refine Kd.R_append_rows (Kd.int .i64) (w0 := w) w.heap.size rfl (.tmp 15) (.tmp 16) 29 3 (.int .i64 0) 8 rfl Tryd.underlying29 info3 rfl (by decide) (by omega) v539 y538 l2 _ _ _ (fun k_ => (w.heap.size ≤ k_)) (fun _ => False) rfl rfl ?aO ?aR (fun _ _ h => h) (fun _ h => h.elim) ?aF ?aB ?aS ?aL ?_; (case aR => exact qCB HR2.out); (case aB => exact qB); (case aF => exact (fun k_ hk => (Nat.le_trans (below_size qB) hk))); (case aO => exact (by (with_reducible repeat (first | apply Kd.R_alloc | apply Kd.R_drewN | apply Kd.R_drew)); exact Kd.R_mono HO540.out (fun _ hk => hk.1))); (case aS => exact (below_size qB)); (case aL => have := LMc5.out; omega); intro v542 w10 ho hb hg hat; rw [← Ny541.out] at ho; replace HO3 := Aside0.mk (Kd.V_afterv (ok := (fun k_ => (P3_ k_ ∨ w.heap.size ≤ k_))) (qV HO3.out) hg hat); replace HB := Aside0.mk (hb); have HO543 := Aside0.mk (ho); clear HO540; clear ho hb hg hat) | ((with_reducible refine gate_builtin (b := .append) (xs := #[.tmp 18, .tmp 20]) rfl ?_); at_builtin; refine Kd.R_append (Kd.int .i64) (w0 := w) w.heap.size rfl (.tmp 18) (.tmp 20) 29 3 (.int .i64 0) 8 rfl Tryd.underlying29 info3 rfl (by decide) (by omega) v542 y541 a1 [.int .i64 a1] (fun k_ => (w.heap.size ≤ k_)) (fun _ => False) rfl rfl ?aP (fun _ hk => hk.elim) ?aF ?aO ?aB ?aS ?aL ?_; (case aP => exact rfl); (case aB => exact qB); (case aF => exact (fun k_ hk => (Nat.le_trans (below_size qB) hk))); (case aO => exact (qR HO543.out)); (case aS => exact (below_size qB)); (case aL => have := LMc6.out; omega); intro v545 w11 ho hb hg hat; rw [← Ny544.out] at ho; replace HO3 := Aside0.mk (Kd.V_afterv (ok := (fun k_ => (P3_ k_ ∨ w.heap.size ≤ k_))) (qV HO3.out) hg hat); replace HB := Aside0.mk (hb); have HO546 := Aside0.mk (ho); clear HO543; clear ho hb hg hat) | ((with_reducible refine gate_callee (f := 96) rfl ?_); refine goesL_ (some 24) rfl rfl Tryd.func96 (by kernel_rfl) rfl #[.slice A0 l0.length c0, .int .i64 a1] rfl qL ?_; (with_reducible refine (cubbyref09_Succs.calls k _ _ l0 a1 t547 _ ?side1 ?side2 A7.out).mono ?_); (case side1 => exact qCB HR0.out); (case side2 => exact HC0.out); rintro e w12 ⟨v548, rfl, ho0, hb⟩; refine ⟨_, rfl, ?_⟩; replace HO3 := Aside0.mk (Kd.V_elder' (qV HO3.out) (Kd.R_base ho0) hb); have HO549 := Aside0.mk (Kd.R_lower (Kd.R_new' (Kd.R_newM (M := fun k_ => (w.heap.size ≤ k_)) ho0 (below_size qB) (fun k_ h_ => h_)) (Kd.R_lt (qR HO546.out))) (below_size qB)); replace HO546 := Aside0.mk (Kd.R_elder' (qR HO546.out) (Kd.R_base ho0) hb); replace HB := qH hb; (try clear hb); (try clear ho0)))
   go_loopg [2, 3, 12] k (fun kq v2 v3 v12 w' => ∃ (x2_1 : List Int) (x3_1 : List Int) (x12_1 : Int), v12 = .int .i64 x12_1 ∧ Aside0 (cubbyref09_visit.l0 kq l0 a1 x2_1 x3_1 t547 x12_1 = some (r1, r2)) ∧ Aside0 (kq ≤ k) ∧ Aside0 (Kd.R (Kd.int .i64) 3 w' w.heap.size (fun k_ => (w.heap.size ≤ k_) ∧ some k_ ≠ (v548 : Value).ownBlock) v2 x2_1) ∧ Aside0 (Kd.V (Kd.int .i64) 3 w' w.heap.size (fun k_ => (P3_ k_ ∨ w.heap.size ≤ k_) ∧ some k_ ≠ (v2 : Value).ownBlock ∧ some k_ ≠ (v548 : Value).ownBlock) v3 x3_1) ∧ Aside0 (Kd.R (Kd.int .i64) 3 w' w.heap.size (fun k_ => (w.heap.size ≤ k_) ∧ some k_ ≠ (v2 : Value).ownBlock) v548 t547) ∧ Aside0 (Below w.heap.size w w'))
   case atStart => exact ⟨(y544), (l3), (0), qT, H', ⟨Nat.le_refl _⟩, ⟨qR HO546.out⟩, ⟨by (with_reducible repeat (first | apply Kd.V_alloc | apply Kd.V_drewN | apply Kd.V_drew)); exact Kd.V_mono HO3.out (fun _ hk => ⟨hk.1.1, ⟨hk.1.2, hk.2⟩⟩)⟩, ⟨by (with_reducible repeat (first | apply Kd.R_alloc | apply Kd.R_drewN | apply Kd.R_drew)); exact Kd.R_mono HO549.out (fun _ hk => ⟨hk.1.1, hk.2⟩)⟩, ⟨qB⟩⟩
   case round =>
    clear H'
    try clear c2; try clear p2; try clear c3; try clear c5; try clear c6; try clear c8; try clear c9
    obtain ⟨x2_1, x3_1, x12_1, rfl, HA, HK1, HO_2, HO_3, HO_11, HB⟩ := hrel
    cases gk with
    | zero => exact absurd HA.out (by simp [cubbyref09_visit.l0])
    | succ k1 =>
     have H := HA.out
     clear HA
     simp only [cubbyref09_visit.l0] at H
     by_cases c13 : x12_1 < (t547.length : Int)
     ·rw [if_pos c13] at H
      have c13b0 := decide_eq_true c13
      clear c13
      by_cases c14 : 0 ≤ x12_1
      ·rw [if_pos c14] at H
       have c14b0 := decide_eq_true c14
       clear c14
       replace H := qb H; obtain ⟨t557, A15, H⟩ := H
       by_cases c16 : t557 = true
       ·subst c16
        have H1 : (cubbyref09_visit.l0 k1 l0 a1 x2_1 x3_1 t547 (wrap64 (x12_1 + 1))) = some (r1, r2) := by rw [if_pos rfl] at H; exact H
        clear H
        have H := H1
        clear H1
        have H' := Aside0.mk H
        clear H
        obtain ⟨Ao17, co17, eo17⟩ := Kd.R_slice HO_11.out
        subst eo17
        have p556 : 0 ≤ (x12_1 : Int) := of_decide_eq_true qA
        have q556 : x12_1 < (t547.length : Int) := of_decide_eq_true qA
        obtain ⟨ad556, e556, hx556_0⟩ := Kd.at_int (Kd.R_reads' HO_11.out).2.2 x12_1 p556 q556
        cases e556
        replace p556 := eq_true p556
        replace q556 := eq_true q556
        obtain ⟨Ao18, co18, eo18⟩ := Kd.R_slice HO_2.out
        subst eo18
        go_wp2_with (first | ((with_reducible refine gate_callee (f := 98) rfl ?_); refine goesL_ (some 36) rfl rfl Tryd.func98 (by kernel_rfl) rfl #[.slice Ao18 x2_1.length co18, .int .i64 (rd t547 x12_1)] rfl qL ?_; (with_reducible refine (cubbyref09_has.calls k1 _ _ x2_1 (rd t547 x12_1) true _ ?side1 ?side2 A15.out).mono ?_); (case side1 => repeat (first | exact (Kd.R_reads' HO_2.out).2.2 | (with_reducible refine Kd.C_alloc ?_ _) | (with_reducible refine Kd.C_drewN ?_ _) | (with_reducible refine Kd.C_drew ?_))); (case side2 => exact (Kd.R_reads' HO_2.out).2.1); rintro e w' ⟨rfl, ⟨nd, rfl⟩⟩; refine ⟨_, rfl, ?_⟩))
        go_roundg k1
        case measure => have := HK1.out; omega
        case rel => exact ⟨(x2_1), (x3_1), (wrap64 (x12_1 + 1)), qT, H', ⟨by have := HK1.out; omega⟩, ⟨qR HO_2.out⟩, ⟨qV HO_3.out⟩, ⟨qR HO_11.out⟩, ⟨qB⟩⟩
       ·replace c16 := Bool.eq_false_iff.mpr c16
        subst c16
        have H1 : ((cubbyref09_visit.f k1 l0 (rd t547 x12_1) x2_1 x3_1).bind fun bt559 => (cubbyref09_visit.l0 k1 l0 a1 bt559.1 bt559.2 t547 (wrap64 (x12_1 + 1)))) = some (r1, r2) := by rw [if_neg (show ¬ (false = true) by decide)] at H; exact H
        clear H
        have H := H1
        clear H1
        replace H := Option.bind_eq_some_iff.mp H
        obtain ⟨⟨t559, t562⟩, A190, H⟩ := H
        replace H : (cubbyref09_visit.l0 k1 l0 a1 t559 t562 t547 (wrap64 (x12_1 + 1))) = some (r1, r2) := H
        have A19 := Aside0.mk A190
        clear A190
        have H' := Aside0.mk H
        clear H
        obtain ⟨Ao20, co20, eo20⟩ := Kd.R_slice HO_11.out
        subst eo20
        have p556 : 0 ≤ (x12_1 : Int) := of_decide_eq_true qA
        have q556 : x12_1 < (t547.length : Int) := of_decide_eq_true qA
        obtain ⟨ad556, e556, hx556_0⟩ := Kd.at_int (Kd.R_reads' HO_11.out).2.2 x12_1 p556 q556
        cases e556
        replace p556 := eq_true p556
        replace q556 := eq_true q556
        obtain ⟨Ao21, co21, eo21⟩ := Kd.R_slice HO_2.out
        subst eo21
        go_wp2_with (first | ((with_reducible refine gate_callee (f := 98) rfl ?_); refine goesL_ (some 36) rfl rfl Tryd.func98 (by kernel_rfl) rfl #[.slice Ao21 x2_1.length co21, .int .i64 (rd t547 x12_1)] rfl qL ?_; (with_reducible refine (cubbyref09_has.calls k1 _ _ x2_1 (rd t547 x12_1) false _ ?side1 ?side2 A15.out).mono ?_); (case side1 => repeat (first | exact (Kd.R_reads' HO_2.out).2.2 | (with_reducible refine Kd.C_alloc ?_ _) | (with_reducible refine Kd.C_drewN ?_ _) | (with_reducible refine Kd.C_drew ?_))); (case side2 => exact (Kd.R_reads' HO_2.out).2.1); rintro e w' ⟨rfl, ⟨nd, rfl⟩⟩; refine ⟨_, rfl, ?_⟩; have p558 : 0 ≤ (x12_1 : Int) := of_decide_eq_true qA; have q558 : x12_1 < (t547.length : Int) := of_decide_eq_true qA; obtain ⟨ad558, e558, hx558_0⟩ := Kd.at_int (Kd.R_reads' HO_11.out).2.2 x12_1 p558 q558; obtain rfl : ad556 = ad558 := (by injection e558); replace p558 := eq_true p558; replace q558 := eq_true q558; obtain ⟨Ao22, co22, eo22⟩ := Kd.V_slice HO_3.out; subst eo22) | ((with_reducible refine gate_callee (f := 80) rfl ?_); refine goesL_ (some 46) rfl rfl Tryd.func80 (by kernel_rfl) rfl #[.slice A0 l0.length c0, .int .i64 (rd t547 x12_1), .slice Ao21 x2_1.length co21, .slice Ao22 x3_1.length co22] rfl qL ?_; (with_reducible refine (ih k1 (by have := HK1.out; omega) _ _ l0 (rd t547 x12_1) _ _ x2_1 (fun k_ => ((P3_ k_ ∨ w.heap.size ≤ k_) ∧ (some k_ ≠ (.slice Ao21 x2_1.length co21 : Value).ownBlock ∧ some k_ ≠ (.slice (some ad556) t547.length co20 : Value).ownBlock))) _ _ x3_1 t559 t562 _ ?side1 ?side2 ?side3 ?side4 ?side5 A19.out).mono ?_); (case side1 => repeat (first | exact (Kd.C_below HR0.out qB) | (with_reducible refine Kd.C_alloc ?_ _) | (with_reducible refine Kd.C_drewN ?_ _) | (with_reducible refine Kd.C_drew ?_))); (case side2 => exact HC0.out); (case side3 => repeat (first | exact (Kd.R_reads' HO_2.out).2.2 | (with_reducible refine Kd.C_alloc ?_ _) | (with_reducible refine Kd.C_drewN ?_ _) | (with_reducible refine Kd.C_drew ?_))); (case side4 => exact (Kd.R_reads' HO_2.out).2.1); (case side5 => exact HO_3.out); rintro e w23 ⟨v560, v563, rfl, ho0, ho1, hb⟩; refine ⟨_, rfl, ?_⟩; replace HO_3 := Aside0.mk (Kd.V_mono (Kd.V_told (Kd.V_told (Kd.V_old (qV HO_3.out) hb) (Kd.R_base ho0)) (Kd.R_base ho1)) (fun _ h_ => h_.1)); have HO561 := Aside0.mk (Kd.R_lower (Kd.R_new' (Kd.R_new' (Kd.R_newM (M := fun k_ => (w.heap.size ≤ k_)) (Kd.R_mono (ok' := fun k_ => some k_ ≠ (v563 : Value).ownBlock) ho0 (fun _ hk_ => hk_.2)) (below_size qB) (fun k_ h_ => h_)) (Kd.R_lt (qR HO_2.out))) (Kd.R_lt (qR HO_11.out))) (below_size qB)); have HO564 := Aside0.mk (Kd.R_lower (Kd.R_new' (Kd.R_new' (Kd.R_newM (M := fun k_ => (w.heap.size ≤ k_)) (Kd.R_mono (ok' := fun k_ => some k_ ≠ (v560 : Value).ownBlock) ho1 (fun _ hk_ => hk_.2)) (below_size qB) (fun k_ h_ => h_)) (Kd.R_lt (qR HO_2.out))) (Kd.R_lt (qR HO_11.out))) (below_size qB)); replace HO_2 := Aside0.mk (Kd.R_mono (Kd.R_told (Kd.R_told (Kd.R_old (qR HO_2.out) hb) (Kd.R_base ho0)) (Kd.R_base ho1)) (fun _ h_ => h_.1)); replace HO_11 := Aside0.mk (Kd.R_mono (Kd.R_told (Kd.R_told (Kd.R_old (qR HO_11.out) hb) (Kd.R_base ho0)) (Kd.R_base ho1)) (fun _ h_ => h_.1)); replace HB := qH hb; (try clear ho1)))
        go_roundg k1
        case measure => have := HK1.out; omega
        case rel => exact ⟨(t559), (t562), (wrap64 (x12_1 + 1)), qT, H', ⟨by have := HK1.out; omega⟩, ⟨by (with_reducible repeat (first | apply Kd.R_alloc | apply Kd.R_drewN | apply Kd.R_drew)); exact Kd.R_mono HO561.out (fun _ hk => ⟨hk.1.1.1, hk.2⟩)⟩, ⟨Kd.V_mono (Kd.R_V HO564.out) (fun k_ hk => ⟨.inr (hk.1.1.1), ⟨hk.1.1.2, hk.2⟩⟩)⟩, ⟨by (with_reducible repeat (first | apply Kd.R_alloc | apply Kd.R_drewN | apply Kd.R_drew)); exact Kd.R_mono HO_11.out (fun _ hk => ⟨hk.1.1.1, hk.1.2⟩)⟩, ⟨qB⟩⟩
      ·rw [if_neg c14] at H
       exact absurd H (by simp)
     ·rw [if_neg c13] at H
      have c13b0 := decide_eq_false c13
      clear c13
      obtain ⟨y550, hy550⟩ : ∃ y_ : List Int, y_ = (([a1] : List Int)) := ⟨_, rfl⟩
      replace H : (if y550.length + x3_1.length < 17592186044416 then (some (x2_1, (y550 ++ x3_1))) else (none)) = some (r1, r2) := by first | (rw [hy550]; with_reducible exact H) | (have H2_ := (Option.bind_some _ _).symm.trans H; rw [hy550]; with_reducible exact H2_) | (have H2_ := (Option.bind_some _ _).symm.trans H; with_reducible exact H2_) | with_reducible exact H | (rw [hy550]; exact H) | exact H
      have Ny550 := Aside0.mk hy550
      clear hy550
      by_cases c24 : y550.length + x3_1.length < 17592186044416
      ·rw [if_pos c24] at H
       have LMc24 := Aside0.mk c24
       clear c24
       obtain ⟨y553, hy553⟩ : ∃ y_ : List Int, y_ = (y550 ++ x3_1) := ⟨_, rfl⟩
       replace H : (some (x2_1, y553)) = some (r1, r2) := by first | (rw [hy553]; with_reducible exact H) | (have H2_ := (Option.bind_some _ _).symm.trans H; rw [hy553]; with_reducible exact H2_) | (have H2_ := (Option.bind_some _ _).symm.trans H; with_reducible exact H2_) | with_reducible exact H | (rw [hy553]; exact H) | exact H
       have Ny553 := Aside0.mk hy553
       clear hy553
       simp only [Option.some.injEq, Prod.mk.injEq] at H
       obtain ⟨rfl, rfl⟩ := H
       obtain ⟨Ao25, co25, eo25⟩ := Kd.R_slice HO_11.out
       subst eo25
       go_wp2_with (first | ((with_reducible refine gate_dst (N := 50) rfl ?_); refine Kd.R_lit (Kd.int .i64) _ 3 (by rfl) (N := 50) (by rfl) (xs := ([a1] : List Int)) (inner := [.int .i64 a1]) (ok := fun _ => True) (okp := fun _ => True) ?hr ?hp (fun _ hk => hk) trivial (Below.refl _ _) (Nat.le_refl _) (by simp) ?_; (case hr => first | (go_simp; done) | (go_simp; rfl)); (case hp => exact (Reps.one (show Kd.M (Kd.int .i64) _ _ _ a1 [.int .i64 a1] from rfl) (Reps.none _ _))); intro v551 w26 ho27 hb hg_ hnew_; clear hg_ hnew_; (first | rw [← Ny550.out] at ho27 | (simp only [Int.reduceToNat] at ho27; rw [← Ny550.out] at ho27)); replace HO_3 := Aside0.mk (Kd.V_elder' (qV HO_3.out) (Kd.R_base ho27) hb); have HO552 := Aside0.mk (Kd.R_lower (Kd.R_new' (Kd.R_new' (Kd.R_newM (M := fun k_ => (w.heap.size ≤ k_)) ho27 (below_size qB) (fun k_ h_ => h_)) (Kd.R_lt (qR HO_2.out))) (Kd.R_lt (qR HO_11.out))) (below_size qB)); replace HO_2 := Aside0.mk (Kd.R_elder' (qR HO_2.out) (Kd.R_base ho27) hb); replace HO_11 := Aside0.mk (Kd.R_elder' (qR HO_11.out) (Kd.R_base ho27) hb); replace HB := qH hb; clear hb ho27; obtain ⟨Ao29, co29, eo29⟩ := Kd.V_slice HO_3.out; subst eo29) | ((with_reducible refine gate_builtin (b := .append) (xs := #[.tmp 52, .tmp 53]) rfl ?_); at_builtin; refine Kd.R_append_rows (Kd.int .i64) (w0 := w) w.heap.size rfl (.tmp 52) (.tmp 53) 29 3 (.int .i64 0) 8 rfl Tryd.underlying29 info3 rfl (by decide) (by omega) v551 y550 x3_1 _ _ _ (fun k_ => (w.heap.size ≤ k_) ∧ some k_ ≠ (u2 : Value).ownBlock ∧ some k_ ≠ (.slice Ao25 t547.length co25 : Value).ownBlock) (fun _ => False) rfl rfl ?aO ?aR (fun _ _ h => h) (fun _ h => h.elim) ?aF ?aB ?aS ?aL ?_; (case aR => repeat (first | exact (Kd.V_reads' HO_3.out).2.2 | (with_reducible refine Kd.C_alloc ?_ _) | (with_reducible refine Kd.C_drewN ?_ _) | (with_reducible refine Kd.C_drew ?_))); (case aB => exact qB); (case aF => exact (fun k_ hk => ⟨(Nat.le_trans (below_size qB) hk), Kd.fresh' (Kd.R_lt (qR HO_2.out)) k_ hk, Kd.fresh' (Kd.R_lt (qR HO_11.out)) k_ hk⟩)); (case aO => exact (by (with_reducible repeat (first | apply Kd.R_alloc | apply Kd.R_drewN | apply Kd.R_drew)); exact Kd.R_mono HO552.out (fun _ hk => ⟨hk.1.1.1, ⟨hk.1.2, hk.2⟩⟩))); (case aS => exact (below_size qB)); (case aL => have := LMc24.out; omega); intro v554 w28 ho hb hg hat; rw [← Ny553.out] at ho; replace HO_2 := Aside0.mk (Kd.R_after (ok := (fun k_ => (w.heap.size ≤ k_) ∧ some k_ ≠ (.slice Ao25 t547.length co25 : Value).ownBlock)) (qR HO_2.out) hg hat); replace HO_3 := Aside0.mk (Kd.V_afterv (ok := (fun k_ => (P3_ k_ ∨ w.heap.size ≤ k_) ∧ some k_ ≠ (u2 : Value).ownBlock ∧ some k_ ≠ (.slice Ao25 t547.length co25 : Value).ownBlock)) (qV HO_3.out) hg hat); replace HO_11 := Aside0.mk (Kd.R_after (ok := (fun k_ => (w.heap.size ≤ k_) ∧ some k_ ≠ (u2 : Value).ownBlock)) (qR HO_11.out) hg hat); replace HB := Aside0.mk (hb); have HO555 := Aside0.mk (ho); clear HO552; clear ho hb hg hat))
       go_ret2
       exact ⟨_, _, qE, by (with_reducible repeat (first | apply Kd.R_alloc | apply Kd.R_drewN | apply Kd.R_drew)); exact Kd.R_mono HO_2.out (fun _ hk => ⟨hk.1.1, hk.2⟩), by (with_reducible repeat (first | apply Kd.R_alloc | apply Kd.R_drewN | apply Kd.R_drew)); exact Kd.R_mono HO555.out (fun _ hk => ⟨hk.1, hk.2.1⟩), qB⟩
      ·rw [if_neg c24] at H
       exact absurd H (by simp)
  ·rw [if_neg c6] at H
   exact absurd H (by simp)
 ·rw [if_neg c5] at H
  exact absurd H (by simp)

end Go.Proofs.YtebnnknijbgekaaDoor.Q
