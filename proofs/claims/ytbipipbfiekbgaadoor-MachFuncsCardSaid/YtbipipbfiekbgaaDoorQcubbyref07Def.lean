/- Lean functions that answer as the Go functions named below do, and the proofs of that. Written by a program out of the translation. -/
import Derived.Test.YtbipipbfiekbgaaDoorQ0
import Derived.Test.YtbipipbfiekbgaaDoorSq
namespace Go.Proofs.YtbipipbfiekbgaaDoor.Q
open Go.RowKit Go.Proofs.YtbipipbfiekbgaaDoorW.PrintWords Go.Proofs.YtbipipbfiekbgaaDoorW.PrintLast Go.Proofs.YtbipipbfiekbgaaDoorW.PrintMore
attribute [local go_sem] max2_int min2_int max_two min_two max_three min_three max_four min_four   -- for this text's walks alone
set_option linter.unusedVariables false
set_option linter.unusedSimpArgs false

/-! ### cubbyref07_Def: function 38 -/
def cubbyref07_Def.f (a0_0 : Int) (a0_1 : Int) (a0_2 : Int) (a0_3 : Int) (a0_4 : ByteArray) (l0_5 : List Int) : Option (Int) := if a0_0 = 1 then (some a0_1) else (if a0_0 = 2 then (some a0_1) else (if a0_0 = 8 then (some a0_1) else (if a0_0 = 3 then (some a0_1) else (if a0_0 = 4 then (some a0_1) else (if a0_0 = 5 then (some a0_1) else (if a0_0 = 6 then (some a0_1) else (if a0_0 = 7 then (some a0_1) else (if a0_0 = 11 then (some a0_1) else (some (-1))))))))))
set_option maxHeartbeats 8000000 in
set_option maxRecDepth 100000 in
theorem cubbyref07_Def.calls (a0_0 : Int) (a0_1 : Int) (a0_2 : Int) (a0_3 : Int) (a0_4 : ByteArray) (A0_5 : Option Addr) (c0_5 : Nat) (l0_5 : List Int) (r : Int) (w : World) (hr0_5 : Kd.C (Kd.int .i64) w A0_5 l0_5.length l0_5) (hc0_5 : l0_5.length ≤ c0_5) (h : cubbyref07_Def.f a0_0 a0_1 a0_2 a0_3 a0_4 l0_5 = some r) :
  Calls Tryd.prog 38 #[.agg #[.int .i64 a0_0, .int .i64 a0_1, .int .i64 a0_2, .int .i64 a0_3, .string a0_4, .slice A0_5 l0_5.length c0_5]] w fun e w' => e = .returned (.int .i64 r) ∧ Below w.heap.size w w' := by
 have hu31 := Tryd.underlying31
 have HR0_5 := Aside0.mk hr0_5
 have HC0_5 := Aside0.mk hc0_5
 clear hr0_5 hc0_5
 have HB := Aside0.mk (Below.refl w.heap.size w)
 have H := h; clear h; unfold cubbyref07_Def.f at H
 by_cases c2 : a0_0 = 1
 ·rw [if_pos c2] at H
  obtain ⟨c2b0, c2b1⟩ := qe c2; clear c2
  obtain rfl := Option.some.inj H
  go_enter Tryd.func38, Tryd.ntmps38
  go_wp2_with (first | ((with_reducible refine gate_dst (N := 1) rfl ?_); refine box_event (by rfl) (N := 1) (by rfl) (cs := #[.int .i64 a0_0, .int .i64 a0_1, .int .i64 a0_2, .int .i64 a0_3, .string a0_4, .slice A0_5 l0_5.length c0_5]) (t := 31) ?hr ?_; (case hr => first | (go_simp; done) | (go_simp; rfl)); intro gb202 hg w3 hbox hb; have BK202 := Aside0.mk (hbox); have GW202 := qG hg; have GE202 := GW202; replace HB := qH hb; clear hb hbox hg; have z4_0 := bk6 BK202.out))
  go_ret
  exact ⟨qE, qB⟩
 ·rw [if_neg c2] at H
  obtain ⟨c2b0, c2b1⟩ := qn c2
  by_cases c5 : a0_0 = 2
  ·rw [if_pos c5] at H
   obtain ⟨c5b0, c5b1⟩ := qe c5; clear c5
   obtain rfl := Option.some.inj H
   go_enter Tryd.func38, Tryd.ntmps38
   go_wp2_with (first | ((with_reducible refine gate_dst (N := 1) rfl ?_); refine box_event (by rfl) (N := 1) (by rfl) (cs := #[.int .i64 a0_0, .int .i64 a0_1, .int .i64 a0_2, .int .i64 a0_3, .string a0_4, .slice A0_5 l0_5.length c0_5]) (t := 31) ?hr ?_; (case hr => first | (go_simp; done) | (go_simp; rfl)); intro gb202 hg w6 hbox hb; have BK202 := Aside0.mk (hbox); have GW202 := qG hg; have GE202 := GW202; replace HB := qH hb; clear hb hbox hg; have z7_0 := bk6 BK202.out))
   go_ret
   exact ⟨qE, qB⟩
  ·rw [if_neg c5] at H
   obtain ⟨c5b0, c5b1⟩ := qn c5
   by_cases c8 : a0_0 = 8
   ·rw [if_pos c8] at H
    obtain ⟨c8b0, c8b1⟩ := qe c8; clear c8
    obtain rfl := Option.some.inj H
    go_enter Tryd.func38, Tryd.ntmps38
    go_wp2_with (first | ((with_reducible refine gate_dst (N := 1) rfl ?_); refine box_event (by rfl) (N := 1) (by rfl) (cs := #[.int .i64 a0_0, .int .i64 a0_1, .int .i64 a0_2, .int .i64 a0_3, .string a0_4, .slice A0_5 l0_5.length c0_5]) (t := 31) ?hr ?_; (case hr => first | (go_simp; done) | (go_simp; rfl)); intro gb202 hg w9 hbox hb; have BK202 := Aside0.mk (hbox); have GW202 := qG hg; have GE202 := GW202; replace HB := qH hb; clear hb hbox hg; have z10_0 := bk6 BK202.out))
    go_ret
    exact ⟨qE, qB⟩
   ·rw [if_neg c8] at H
    obtain ⟨c8b0, c8b1⟩ := qn c8
    by_cases c11 : a0_0 = 3
    ·rw [if_pos c11] at H
     obtain ⟨c11b0, c11b1⟩ := qe c11; clear c11
     obtain rfl := Option.some.inj H
     go_enter Tryd.func38, Tryd.ntmps38
     go_wp2_with (first | ((with_reducible refine gate_dst (N := 1) rfl ?_); refine box_event (by rfl) (N := 1) (by rfl) (cs := #[.int .i64 a0_0, .int .i64 a0_1, .int .i64 a0_2, .int .i64 a0_3, .string a0_4, .slice A0_5 l0_5.length c0_5]) (t := 31) ?hr ?_; (case hr => first | (go_simp; done) | (go_simp; rfl)); intro gb202 hg w12 hbox hb; have BK202 := Aside0.mk (hbox); have GW202 := qG hg; have GE202 := GW202; replace HB := qH hb; clear hb hbox hg; have z13_0 := bk6 BK202.out))
     go_ret
     exact ⟨qE, qB⟩
    ·rw [if_neg c11] at H
     obtain ⟨c11b0, c11b1⟩ := qn c11
     by_cases c14 : a0_0 = 4
     ·rw [if_pos c14] at H
      obtain ⟨c14b0, c14b1⟩ := qe c14; clear c14
      obtain rfl := Option.some.inj H
      go_enter Tryd.func38, Tryd.ntmps38
      go_wp2_with (first | ((with_reducible refine gate_dst (N := 1) rfl ?_); refine box_event (by rfl) (N := 1) (by rfl) (cs := #[.int .i64 a0_0, .int .i64 a0_1, .int .i64 a0_2, .int .i64 a0_3, .string a0_4, .slice A0_5 l0_5.length c0_5]) (t := 31) ?hr ?_; (case hr => first | (go_simp; done) | (go_simp; rfl)); intro gb202 hg w15 hbox hb; have BK202 := Aside0.mk (hbox); have GW202 := qG hg; have GE202 := GW202; replace HB := qH hb; clear hb hbox hg; have z16_0 := bk6 BK202.out))
      go_ret
      exact ⟨qE, qB⟩
     ·rw [if_neg c14] at H
      obtain ⟨c14b0, c14b1⟩ := qn c14
      by_cases c17 : a0_0 = 5
      ·rw [if_pos c17] at H
       obtain ⟨c17b0, c17b1⟩ := qe c17; clear c17
       obtain rfl := Option.some.inj H
       go_enter Tryd.func38, Tryd.ntmps38
       go_wp2_with (first | ((with_reducible refine gate_dst (N := 1) rfl ?_); refine box_event (by rfl) (N := 1) (by rfl) (cs := #[.int .i64 a0_0, .int .i64 a0_1, .int .i64 a0_2, .int .i64 a0_3, .string a0_4, .slice A0_5 l0_5.length c0_5]) (t := 31) ?hr ?_; (case hr => first | (go_simp; done) | (go_simp; rfl)); intro gb202 hg w18 hbox hb; have BK202 := Aside0.mk (hbox); have GW202 := qG hg; have GE202 := GW202; replace HB := qH hb; clear hb hbox hg; have z19_0 := bk6 BK202.out))
       go_ret
       exact ⟨qE, qB⟩
      ·rw [if_neg c17] at H
       obtain ⟨c17b0, c17b1⟩ := qn c17
       by_cases c20 : a0_0 = 6
       ·rw [if_pos c20] at H
        obtain ⟨c20b0, c20b1⟩ := qe c20; clear c20
        obtain rfl := Option.some.inj H
        go_enter Tryd.func38, Tryd.ntmps38
        go_wp2_with (first | ((with_reducible refine gate_dst (N := 1) rfl ?_); refine box_event (by rfl) (N := 1) (by rfl) (cs := #[.int .i64 a0_0, .int .i64 a0_1, .int .i64 a0_2, .int .i64 a0_3, .string a0_4, .slice A0_5 l0_5.length c0_5]) (t := 31) ?hr ?_; (case hr => first | (go_simp; done) | (go_simp; rfl)); intro gb202 hg w21 hbox hb; have BK202 := Aside0.mk (hbox); have GW202 := qG hg; have GE202 := GW202; replace HB := qH hb; clear hb hbox hg; have z22_0 := bk6 BK202.out))
        go_ret
        exact ⟨qE, qB⟩
       ·rw [if_neg c20] at H
        obtain ⟨c20b0, c20b1⟩ := qn c20
        by_cases c23 : a0_0 = 7
        ·rw [if_pos c23] at H
         obtain ⟨c23b0, c23b1⟩ := qe c23; clear c23
         obtain rfl := Option.some.inj H
         go_enter Tryd.func38, Tryd.ntmps38
         go_wp2_with (first | ((with_reducible refine gate_dst (N := 1) rfl ?_); refine box_event (by rfl) (N := 1) (by rfl) (cs := #[.int .i64 a0_0, .int .i64 a0_1, .int .i64 a0_2, .int .i64 a0_3, .string a0_4, .slice A0_5 l0_5.length c0_5]) (t := 31) ?hr ?_; (case hr => first | (go_simp; done) | (go_simp; rfl)); intro gb202 hg w24 hbox hb; have BK202 := Aside0.mk (hbox); have GW202 := qG hg; have GE202 := GW202; replace HB := qH hb; clear hb hbox hg; have z25_0 := bk6 BK202.out))
         go_ret
         exact ⟨qE, qB⟩
        ·rw [if_neg c23] at H
         obtain ⟨c23b0, c23b1⟩ := qn c23
         by_cases c26 : a0_0 = 11
         ·rw [if_pos c26] at H
          obtain ⟨c26b0, c26b1⟩ := qe c26; clear c26
          obtain rfl := Option.some.inj H
          go_enter Tryd.func38, Tryd.ntmps38
          go_wp2_with (first | ((with_reducible refine gate_dst (N := 1) rfl ?_); refine box_event (by rfl) (N := 1) (by rfl) (cs := #[.int .i64 a0_0, .int .i64 a0_1, .int .i64 a0_2, .int .i64 a0_3, .string a0_4, .slice A0_5 l0_5.length c0_5]) (t := 31) ?hr ?_; (case hr => first | (go_simp; done) | (go_simp; rfl)); intro gb202 hg w27 hbox hb; have BK202 := Aside0.mk (hbox); have GW202 := qG hg; have GE202 := GW202; replace HB := qH hb; clear hb hbox hg; have z28_0 := bk6 BK202.out))
          go_ret
          exact ⟨qE, qB⟩
         ·rw [if_neg c26] at H
          obtain ⟨c26b0, c26b1⟩ := qn c26
          obtain rfl := Option.some.inj H
          go_enter Tryd.func38, Tryd.ntmps38
          go_wp2_with (first | ((with_reducible refine gate_dst (N := 1) rfl ?_); refine box_event (by rfl) (N := 1) (by rfl) (cs := #[.int .i64 a0_0, .int .i64 a0_1, .int .i64 a0_2, .int .i64 a0_3, .string a0_4, .slice A0_5 l0_5.length c0_5]) (t := 31) ?hr ?_; (case hr => first | (go_simp; done) | (go_simp; rfl)); intro gb202 hg w29 hbox hb; have BK202 := Aside0.mk (hbox); have GW202 := qG hg; have GE202 := GW202; replace HB := qH hb; clear hb hbox hg; have z30_0 := bk6 BK202.out))
          go_ret
          exact ⟨qE, qB⟩

end Go.Proofs.YtbipipbfiekbgaaDoor.Q
