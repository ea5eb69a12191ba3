/- MachSpoilt: parts of the proofs, put together. -/
import Derived.Test.YthidcafbhjahdaaDoorMMachSpoilt1
import Derived.Test.YthidcafbhjahdaaDoorMMachSpoilt2
namespace Go.Proofs.YthidcafbhjahdaaDoor.Q
open Go.RowKit Go.Proofs.YthidcafbhjahdaaDoorW.PrintWords Go.Proofs.YthidcafbhjahdaaDoorW.PrintLast Go.Proofs.YthidcafbhjahdaaDoorW.PrintMore
attribute [local go_sem] max2_int min2_int max_two min_two max_three min_three max_four min_four
set_option linter.unusedVariables false
set_option linter.unusedSimpArgs false

mutual
def mach_one.j0 : Nat → Bool → Int → Int → ByteArray → Int → Int → Int → List (List (SIns)) → Int → Int → Int → Int → ByteArray → List Int → Option (Int)
 | 0, _, _, _, _, _, _, _, _, _, _, _, _, _, _ => none
 | k + 1, x2, x7, x8, x226000, x226001, x226002, x226003, x226004, x227000, x227001, x227002, x227003, x227004, x227005 => if x2 = true then (mach_one.j1 k x7 x8 true x226000 x226001 x226002 x226003 x226004) else (if x227003 = 0 then (if x227004.toList = ([] : List UInt8) then (mach_one.j1 k x7 x8 (decide ((x227005.length : Int) > 0)) x226000 x226001 x226002 x226003 x226004) else (mach_one.j1 k x7 x8 true x226000 x226001 x226002 x226003 x226004)) else (mach_one.j1 k x7 x8 true x226000 x226001 x226002 x226003 x226004))
def mach_one.j1 : Nat → Int → Int → Bool → ByteArray → Int → Int → Int → List (List (SIns)) → Option (Int)
 | 0, _, _, _, _, _, _, _, _ => none
 | k + 1, x7, x8, x25, x226000, x226001, x226002, x226003, x226004 => if x25 = true then (some 72) else ((mach_below.f x7 x226002).bind fun t227 => (if t227 = true then ((mach_below.f x8 x226003).bind fun t228 => (if t228 = true then (some 0) else (some 73))) else (some 73)))
def mach_one.j2 : Nat → Bool → Int → Int → Int → Int → ByteArray → List Int → Option (Int)
 | 0, _, _, _, _, _, _, _ => none
 | k + 1, x56, x227000, x227001, x227002, x227003, x227004, x227005 => if x56 = true then (some 72) else ((ir_Name.f x227004).bind fun t229 => (if t229 = true then ((mach_below.f x227002 5).bind fun t230 => (if t230 = true then (some 0) else (some 192))) else (some 70)))
end
def mach_one.f (k : Nat) (a0_0 : ByteArray) (a0_1 : Int) (a0_2 : Int) (a0_3 : Int) (l0_4 : List (List (SIns))) (a1_0 : Int) (a1_1 : Int) (a1_2 : Int) (a1_3 : Int) (a1_4 : ByteArray) (l1_5 : List Int) (a2 : Bool) : Option (Int) := if a1_0 = 22 then (mach_one.j0 k a2 a1_2 a1_1 a0_0 a0_1 a0_2 a0_3 l0_4 a1_0 a1_1 a1_2 a1_3 a1_4 l1_5) else (if a1_0 = 21 then (mach_one.j0 k a2 a1_1 a1_2 a0_0 a0_1 a0_2 a0_3 l0_4 a1_0 a1_1 a1_2 a1_3 a1_4 l1_5) else (if a1_0 = 11 then (if a2 = true then (mach_one.j2 k true a1_0 a1_1 a1_2 a1_3 a1_4 l1_5) else (if a1_1 = 0 then (if a1_3 = 0 then (mach_one.j2 k (decide ((l1_5.length : Int) > 0)) a1_0 a1_1 a1_2 a1_3 a1_4 l1_5) else (mach_one.j2 k true a1_0 a1_1 a1_2 a1_3 a1_4 l1_5)) else (mach_one.j2 k true a1_0 a1_1 a1_2 a1_3 a1_4 l1_5))) else (if a1_0 = 13 then ((mach_one_1.f a0_0 a0_1 a0_2 a0_3 l0_4 a1_3).bind fun t231 => ((mach_one_1.f a0_0 a0_1 a0_2 a0_3 l0_4 a1_1).bind fun t232 => ((some (([(⟨a1_0, t232, a1_2, t231, a1_4, l1_5⟩ : SIns)] : List (SIns)) : List (SIns))).bind fun y233 => (if a2 = true then ((ir_Check.f k (⟨#[102]⟩ : ByteArray) 0 a0_2 (([y233] : List (List (SIns))))).bind fun t239 => (some t239)) else (if y233.length < 1954687338268 then ((ir_Check.f k (⟨#[102]⟩ : ByteArray) 0 a0_2 (([(y233 ++ [(⟨12, 0, 0, 0, (⟨#[]⟩ : ByteArray), ([] : List Int)⟩ : SIns)])] : List (List (SIns))))).bind fun t246 => (some t246)) else (none)))))) else (if a1_0 = 12 then ((mach_one_1.f a0_0 a0_1 a0_2 a0_3 l0_4 a1_2).bind fun t247 => ((some (([(⟨a1_0, a1_1, t247, a1_3, a1_4, l1_5⟩ : SIns)] : List (SIns)) : List (SIns))).bind fun y248 => (if a2 = true then ((ir_Check.f k (⟨#[102]⟩ : ByteArray) 0 a0_2 (([y248] : List (List (SIns))))).bind fun t254 => (some t254)) else (if y248.length < 1954687338268 then ((ir_Check.f k (⟨#[102]⟩ : ByteArray) 0 a0_2 (([(y248 ++ [(⟨12, 0, 0, 0, (⟨#[]⟩ : ByteArray), ([] : List Int)⟩ : SIns)])] : List (List (SIns))))).bind fun t261 => (some t261)) else (none))))) else ((some (([(⟨a1_0, a1_1, a1_2, a1_3, a1_4, l1_5⟩ : SIns)] : List (SIns)) : List (SIns))).bind fun y262 => (if a2 = true then ((ir_Check.f k (⟨#[102]⟩ : ByteArray) 0 a0_2 (([y262] : List (List (SIns))))).bind fun t268 => (some t268)) else (if y262.length < 1954687338268 then ((ir_Check.f k (⟨#[102]⟩ : ByteArray) 0 a0_2 (([(y262 ++ [(⟨12, 0, 0, 0, (⟨#[]⟩ : ByteArray), ([] : List Int)⟩ : SIns)])] : List (List (SIns))))).bind fun t275 => (some t275)) else (none))))))))
set_option maxHeartbeats 8000000 in
set_option maxRecDepth 100000 in
theorem mach_one.calls (k : Nat) (a0_0 : ByteArray) (a0_1 : Int) (a0_2 : Int) (a0_3 : Int) (A0_4 : Option Addr) (c0_4 : Nat) (l0_4 : List (List (SIns))) (a1_0 : Int) (a1_1 : Int) (a1_2 : Int) (a1_3 : Int) (a1_4 : ByteArray) (P1_5_ : Nat → Prop) (A1_5 : Option Addr) (c1_5 : Nat) (l1_5 : List Int) (a2 : Bool) (r : Int) (w : World) (hL : LaidW w) (hr0_4 : Kd.C (Kd.slice 31 kIns) w A0_4 l0_4.length l0_4) (hc0_4 : l0_4.length ≤ c0_4) (hs1_5 : Kd.V (Kd.int .i64) 3 w w.heap.size (fun k_ => P1_5_ k_) (.slice A1_5 l1_5.length c1_5) l1_5) (h : mach_one.f k a0_0 a0_1 a0_2 a0_3 l0_4 a1_0 a1_1 a1_2 a1_3 a1_4 l1_5 a2 = some r) :
 Calls Tryd.prog 17 #[.agg #[.string a0_0, .int .i64 a0_1, .int .i64 a0_2, .int .i64 a0_3, .slice A0_4 l0_4.length c0_4], .agg #[.int .i64 a1_0, .int .i64 a1_1, .int .i64 a1_2, .int .i64 a1_3, .string a1_4, .slice A1_5 l1_5.length c1_5], .bool a2] w fun e w' => e = .returned (.int .i64 r) ∧ Below w.heap.size w w' := by
 have hu34 := Tryd.underlying34
 have hu31 := Tryd.underlying31
 have hu24 := Tryd.underlying24
 have HR0_4 := zA hr0_4
 have HC0_4 := zA hc0_4
 clear hr0_4 hc0_4
 have HO1_5 := zA (show Kd.V (Kd.int .i64) 3 w w.heap.size (fun k_ => (P1_5_ k_ ∨ w.heap.size ≤ k_)) (.slice A1_5 l1_5.length c1_5) l1_5 from Kd.V_mono hs1_5 (fun k_ hk => .inl hk))
 have HB := zA (Below.refl w.heap.size w)
 have HLd := zA hL
 clear hL
 have H := h; clear h; unfold mach_one.f at H
 have HC4 := zA H
 clear H
 go_enter Tryd.func17, Tryd.ntmps17
 go_upto_block 2 with (first | ((with_reducible refine gate_dst (N := 3) rfl ?_); (try (refine gate_guard (by rfl) ?_; dsimp only)); refine box_event (by rfl) (N := 3) (by rfl) (cs := #[.string a0_0, .int .i64 a0_1, .int .i64 a0_2, .int .i64 a0_3, .slice A0_4 l0_4.length c0_4]) (t := 34) ?hr ?_; (case hr => go_simp <;> rfl); intro gb225 hg w5 hbox hb; replace HO1_5 := zA (Kd.V_below (Kd.V_elderB (qV HO1_5.out) gb225 (Nat.le_of_eq hg.symm)) hb); have BK225 := zA (hbox); have GW225 := qG hg; have GE225 := GW225; replace HB := qH hb; clear hb hbox hg) | ((with_reducible refine gate_dst (N := 4) rfl ?_); (try (refine gate_guard (by rfl) ?_; dsimp only)); refine box_event (by rfl) (N := 4) (by rfl) (cs := #[.int .i64 a1_0, .int .i64 a1_1, .int .i64 a1_2, .int .i64 a1_3, .string a1_4, .slice A1_5 l1_5.length c1_5]) (t := 31) ?hr ?_; (case hr => go_simp <;> rfl); intro gb226 hg w6 hbox hb; replace HO1_5 := zA (Kd.V_below (Kd.V_elderB (qV HO1_5.out) gb226 (Nat.le_of_eq hg.symm)) hb); have BK226 := zA (hbox); have GW226 := qG hg; have GE226 := GW226; replace HB := qH hb; have NB225_226 := zA ((by rw [hg]; exact Nat.ne_of_lt (blk_lt (g := gb225) (o := .cells #[.string a0_0, .int .i64 a0_1, .int .i64 a0_2, .int .i64 a0_3, .slice A0_4 l0_4.length c0_4] 34 (0, 0)) (qK BK225.out)) : gb225 ≠ gb226)); have NB226_225 := zA ((by rw [hg]; exact Nat.ne_of_gt (blk_lt (g := gb225) (o := .cells #[.string a0_0, .int .i64 a0_1, .int .i64 a0_2, .int .i64 a0_3, .slice A0_4 l0_4.length c0_4] 34 (0, 0)) (qK BK225.out)) : gb226 ≠ gb225)); replace BK225 := qW BK225 hb; clear hb hbox hg; have hnb7 := NB226_225.out; have hnc7 := NB225_226.out; have z8_0 := bk6 BK226.out))
 repeat (go_quiet (first | ((with_reducible refine gate_dst (N := 3) rfl ?_); (try (refine gate_guard (by rfl) ?_; dsimp only)); refine box_event (by rfl) (N := 3) (by rfl) (cs := #[.string a0_0, .int .i64 a0_1, .int .i64 a0_2, .int .i64 a0_3, .slice A0_4 l0_4.length c0_4]) (t := 34) ?hr ?_; (case hr => go_simp <;> rfl); intro gb225 hg w5 hbox hb; replace HO1_5 := zA (Kd.V_below (Kd.V_elderB (qV HO1_5.out) gb225 (Nat.le_of_eq hg.symm)) hb); have BK225 := zA (hbox); have GW225 := qG hg; have GE225 := GW225; replace HB := qH hb; clear hb hbox hg) | ((with_reducible refine gate_dst (N := 4) rfl ?_); (try (refine gate_guard (by rfl) ?_; dsimp only)); refine box_event (by rfl) (N := 4) (by rfl) (cs := #[.int .i64 a1_0, .int .i64 a1_1, .int .i64 a1_2, .int .i64 a1_3, .string a1_4, .slice A1_5 l1_5.length c1_5]) (t := 31) ?hr ?_; (case hr => go_simp <;> rfl); intro gb226 hg w6 hbox hb; replace HO1_5 := zA (Kd.V_below (Kd.V_elderB (qV HO1_5.out) gb226 (Nat.le_of_eq hg.symm)) hb); have BK226 := zA (hbox); have GW226 := qG hg; have GE226 := GW226; replace HB := qH hb; have NB225_226 := zA ((by rw [hg]; exact Nat.ne_of_lt (blk_lt (g := gb225) (o := .cells #[.string a0_0, .int .i64 a0_1, .int .i64 a0_2, .int .i64 a0_3, .slice A0_4 l0_4.length c0_4] 34 (0, 0)) (qK BK225.out)) : gb225 ≠ gb226)); have NB226_225 := zA ((by rw [hg]; exact Nat.ne_of_gt (blk_lt (g := gb225) (o := .cells #[.string a0_0, .int .i64 a0_1, .int .i64 a0_2, .int .i64 a0_3, .slice A0_4 l0_4.length c0_4] 34 (0, 0)) (qK BK225.out)) : gb226 ≠ gb225)); replace BK225 := qW BK225 hb; clear hb hbox hg; have hnb7 := NB226_225.out; have hnc7 := NB225_226.out; have z8_0 := bk6 BK226.out)); go_upto_block 2 with (first | ((with_reducible refine gate_dst (N := 3) rfl ?_); (try (refine gate_guard (by rfl) ?_; dsimp only)); refine box_event (by rfl) (N := 3) (by rfl) (cs := #[.string a0_0, .int .i64 a0_1, .int .i64 a0_2, .int .i64 a0_3, .slice A0_4 l0_4.length c0_4]) (t := 34) ?hr ?_; (case hr => go_simp <;> rfl); intro gb225 hg w5 hbox hb; replace HO1_5 := zA (Kd.V_below (Kd.V_elderB (qV HO1_5.out) gb225 (Nat.le_of_eq hg.symm)) hb); have BK225 := zA (hbox); have GW225 := qG hg; have GE225 := GW225; replace HB := qH hb; clear hb hbox hg) | ((with_reducible refine gate_dst (N := 4) rfl ?_); (try (refine gate_guard (by rfl) ?_; dsimp only)); refine box_event (by rfl) (N := 4) (by rfl) (cs := #[.int .i64 a1_0, .int .i64 a1_1, .int .i64 a1_2, .int .i64 a1_3, .string a1_4, .slice A1_5 l1_5.length c1_5]) (t := 31) ?hr ?_; (case hr => go_simp <;> rfl); intro gb226 hg w6 hbox hb; replace HO1_5 := zA (Kd.V_below (Kd.V_elderB (qV HO1_5.out) gb226 (Nat.le_of_eq hg.symm)) hb); have BK226 := zA (hbox); have GW226 := qG hg; have GE226 := GW226; replace HB := qH hb; have NB225_226 := zA ((by rw [hg]; exact Nat.ne_of_lt (blk_lt (g := gb225) (o := .cells #[.string a0_0, .int .i64 a0_1, .int .i64 a0_2, .int .i64 a0_3, .slice A0_4 l0_4.length c0_4] 34 (0, 0)) (qK BK225.out)) : gb225 ≠ gb226)); have NB226_225 := zA ((by rw [hg]; exact Nat.ne_of_gt (blk_lt (g := gb225) (o := .cells #[.string a0_0, .int .i64 a0_1, .int .i64 a0_2, .int .i64 a0_3, .slice A0_4 l0_4.length c0_4] 34 (0, 0)) (qK BK225.out)) : gb226 ≠ gb225)); replace BK225 := qW BK225 hb; clear hb hbox hg; have hnb7 := NB226_225.out; have hnc7 := NB225_226.out; have z8_0 := bk6 BK226.out)))
 (try simp only [Act.put, List.setIfInBounds_toArray, List.set_cons_zero, List.set_cons_succ])
 go_cut [7, 8] (fun v7 v8 wc => ∃ (kq : Nat) (x7_3 : Int) (x8_3 : Int), v7 = .int .i64 x7_3 ∧ v8 = .int .i64 x8_3 ∧ Aside0 (mach_one.j0 kq a2 x7_3 x8_3 a0_0 a0_1 a0_2 a0_3 l0_4 a1_0 a1_1 a1_2 a1_3 a1_4 l1_5 = some r) ∧ Aside0 (kq ≤ k) ∧ Aside0 (Kd.V (Kd.int .i64) 3 wc w.heap.size (fun k_ => (P1_5_ k_ ∨ w.heap.size ≤ k_) ∧ k_ ≠ gb225 ∧ k_ ≠ gb226) (.slice A1_5 l1_5.length c1_5) l1_5) ∧ Aside0 (wc.heap[gb225]? = some (.cells #[.string a0_0, .int .i64 a0_1, .int .i64 a0_2, .int .i64 a0_3, (.slice A0_4 l0_4.length c0_4)] 34 (0, 0))) ∧ Aside0 (wc.heap[gb226]? = some (.cells #[.int .i64 a1_0, .int .i64 a1_1, .int .i64 a1_2, .int .i64 a1_3, .string a1_4, (.slice A1_5 l1_5.length c1_5)] 31 (0, 0))) ∧ Aside0 (Below w.heap.size w wc))
 case first =>
  have H := HC4.out
  clear HC4
  by_cases c9 : a1_0 = 22
  ·rw [zC c9] at H
   obtain ⟨c9b0, c9b1⟩ := qe c9; clear c9
   (first | rw [c9b0] | (simp only [i64_w, i32_w]; rw [c9b0]) | skip)
   have H' := zA H
   clear H
   go_wp2
   repeat (go_quiet (fail); try go_wp2)
   go_meet
   case rel => exact ⟨_, (a1_2), (a1_1), qT, qT, H', ⟨qO⟩, ⟨by (with_reducible repeat (first | apply Kd.V_alloc | apply Kd.V_drewN | apply Kd.V_drew)); exact Kd.V_mono HO1_5.out (fun _ hk => ⟨hk.1.1, ⟨hk.1.2, hk.2⟩⟩)⟩, ⟨qK BK225.out⟩, ⟨qK BK226.out⟩, ⟨qB⟩⟩
  ·rw [zD c9] at H
   obtain ⟨c9b0, c9b1⟩ := qn c9
   (first | rw [c9b0] | (simp only [i64_w, i32_w]; rw [c9b0]) | skip)
   by_cases c10 : a1_0 = 21
   ·rw [zC c10] at H
    obtain ⟨c10b0, c10b1⟩ := qe c10; clear c10
    have H' := zA H
    clear H
    go_wp2
    repeat (go_quiet (fail); try go_wp2)
    go_meet
    case rel => exact ⟨_, (a1_1), (a1_2), qT, qT, H', ⟨qO⟩, ⟨by (with_reducible repeat (first | apply Kd.V_alloc | apply Kd.V_drewN | apply Kd.V_drew)); exact Kd.V_mono HO1_5.out (fun _ hk => ⟨hk.1.1, ⟨hk.1.2, hk.2⟩⟩)⟩, ⟨qK BK225.out⟩, ⟨qK BK226.out⟩, ⟨qB⟩⟩
   ·rw [zD c10] at H
    obtain ⟨c10b0, c10b1⟩ := qn c10
    by_cases c11 : a1_0 = 11
    ·rw [zC c11] at H
     obtain ⟨c11b0, c11b1⟩ := qe c11; clear c11
     have HC12 := zA H
     clear H
     go_upto_region 12 with (fail)
     repeat (go_quiet (fail); go_upto_region 12 with (fail))
     go_cut [56] (fun v56 wc => ∃ (kq : Nat) (x56_11 : Bool), v56 = .bool x56_11 ∧ Aside0 (mach_one.j2 kq x56_11 a1_0 a1_1 a1_2 a1_3 a1_4 l1_5 = some r) ∧ Aside0 (kq ≤ k) ∧ Aside0 (Kd.V (Kd.int .i64) 3 wc w.heap.size (fun k_ => (P1_5_ k_ ∨ w.heap.size ≤ k_) ∧ k_ ≠ gb225 ∧ k_ ≠ gb226) (.slice A1_5 l1_5.length c1_5) l1_5) ∧ Aside0 (wc.heap[gb225]? = some (.cells #[.string a0_0, .int .i64 a0_1, .int .i64 a0_2, .int .i64 a0_3, (.slice A0_4 l0_4.length c0_4)] 34 (0, 0))) ∧ Aside0 (wc.heap[gb226]? = some (.cells #[.int .i64 a1_0, .int .i64 a1_1, .int .i64 a1_2, .int .i64 a1_3, .string a1_4, (.slice A1_5 l1_5.length c1_5)] 31 (0, 0))) ∧ Aside0 (Below w.heap.size w wc))
     case first =>
      have H := HC12.out
      clear HC12
      by_cases c13 : a2 = true
      ·subst c13
       have H1 : (mach_one.j2 k true a1_0 a1_1 a1_2 a1_3 a1_4 l1_5) = some r := by rw [zC rfl] at H; exact H
       clear H
       have H := H1
       clear H1
       have H' := zA H
       clear H
       go_wp2
       repeat (go_quiet (fail); try go_wp2)
       go_meet
       case rel => exact ⟨_, (true), qT, H', ⟨qO⟩, ⟨by (with_reducible repeat (first | apply Kd.V_alloc | apply Kd.V_drewN | apply Kd.V_drew)); exact Kd.V_mono HO1_5.out (fun _ hk => ⟨hk.1.1, ⟨hk.1.2, hk.2⟩⟩)⟩, ⟨qK BK225.out⟩, ⟨qK BK226.out⟩, ⟨qB⟩⟩
      ·replace c13 := Bool.eq_false_iff.mpr c13
       subst c13
       have H1 : (if a1_1 = 0 then (if a1_3 = 0 then (mach_one.j2 k (decide ((l1_5.length : Int) > 0)) a1_0 a1_1 a1_2 a1_3 a1_4 l1_5) else (mach_one.j2 k true a1_0 a1_1 a1_2 a1_3 a1_4 l1_5)) else (mach_one.j2 k true a1_0 a1_1 a1_2 a1_3 a1_4 l1_5)) = some r := by rw [zD (show ¬ (false = true) by decide)] at H; exact H
       clear H
       have H := H1
       clear H1
       by_cases c14 : a1_1 = 0
       ·rw [zC c14] at H
        obtain ⟨c14b0, c14b1⟩ := qe c14; clear c14
        (first | rw [c14b0] | (simp only [i64_w, i32_w]; rw [c14b0]) | skip)
        by_cases c15 : a1_3 = 0
        ·rw [zC c15] at H
         obtain ⟨c15b0, c15b1⟩ := qe c15; clear c15
         have H' := zA H
         clear H
         have hnb16 := NB226_225.out
         have hnc16 := NB225_226.out
         have z17_0 := bk6 BK226.out
         go_wp2
         repeat (go_quiet (fail); try go_wp2)
         go_meet
         case rel => exact ⟨_, (decide ((l1_5.length : Int) > 0)), qT, H', ⟨qO⟩, ⟨by (with_reducible repeat (first | apply Kd.V_alloc | apply Kd.V_drewN | apply Kd.V_drew)); exact Kd.V_mono HO1_5.out (fun _ hk => ⟨hk.1.1, ⟨hk.1.2, hk.2⟩⟩)⟩, ⟨qK BK225.out⟩, ⟨qK BK226.out⟩, ⟨qB⟩⟩
        ·rw [zD c15] at H
         obtain ⟨c15b0, c15b1⟩ := qn c15
         have H' := zA H
         clear H
         have hnb18 := NB226_225.out
         have hnc18 := NB225_226.out
         have z19_0 := bk6 BK226.out
         go_wp2
         repeat (go_quiet (fail); try go_wp2)
         go_meet
         case rel => exact ⟨_, (true), qT, H', ⟨qO⟩, ⟨by (with_reducible repeat (first | apply Kd.V_alloc | apply Kd.V_drewN | apply Kd.V_drew)); exact Kd.V_mono HO1_5.out (fun _ hk => ⟨hk.1.1, ⟨hk.1.2, hk.2⟩⟩)⟩, ⟨qK BK225.out⟩, ⟨qK BK226.out⟩, ⟨qB⟩⟩
       ·rw [zD c14] at H
        obtain ⟨c14b0, c14b1⟩ := qn c14
        (first | rw [c14b0] | (simp only [i64_w, i32_w]; rw [c14b0]) | skip)
        have H' := zA H
        clear H
        have hnb20 := NB226_225.out
        have hnc20 := NB225_226.out
        have z21_0 := bk6 BK226.out
        go_wp2
        repeat (go_quiet (fail); try go_wp2)
        go_meet
        case rel => exact ⟨_, (true), qT, H', ⟨qO⟩, ⟨by (with_reducible repeat (first | apply Kd.V_alloc | apply Kd.V_drewN | apply Kd.V_drew)); exact Kd.V_mono HO1_5.out (fun _ hk => ⟨hk.1.1, ⟨hk.1.2, hk.2⟩⟩)⟩, ⟨qK BK225.out⟩, ⟨qK BK226.out⟩, ⟨qB⟩⟩
     case rest =>
      clear HC12
      try clear c1; try clear c2; try clear p2; try clear c7; try clear c9; try clear c9b0 c9b1; try clear c10; try clear c10b0 c10b1; try clear c11b0 c11b1; try clear c13; try clear c14; try clear c14b0 c14b1; try clear c15; try clear c15b0 c15b1; try clear c16; try clear c17; try clear c18; try clear c20; try clear z17_0; try clear z19_0; try clear z21_0; try clear z8_0
      obtain ⟨kq, x56_11, rfl, HA, HJ11, HO_227005, BK225, BK226, HB⟩ := hcut
      cases kq with
      | zero => exact absurd HA.out (by simp [mach_one.j2])
      | succ kj11 =>
       have H := HA.out
       clear HA
       simp only [mach_one.j2] at H
       by_cases c22 : x56_11 = true
       ·subst c22
        have H1 : (some 72) = some r := by rw [zC rfl] at H; exact H
        clear H
        have H := H1
        clear H1
        obtain rfl := zI H
        go_wp2
        repeat (go_quiet (fail); try go_wp2)
        go_ret
        exact ⟨qE, qB⟩
       ·replace c22 := Bool.eq_false_iff.mpr c22
        subst c22
        have H1 : ((ir_Name.f a1_4).bind fun t229 => (if t229 = true then ((mach_below.f a1_2 5).bind fun t230 => (if t230 = true then (some 0) else (some 192))) else (some 70))) = some r := by rw [zD (show ¬ (false = true) by decide)] at H; exact H
        clear H
        have H := H1
        clear H1
        replace H := qb H; obtain ⟨t229, A23, H⟩ := H
        by_cases c24 : t229 = true
        ·subst c24
         have H1 : ((mach_below.f a1_2 5).bind fun t230 => (if t230 = true then (some 0) else (some 192))) = some r := by rw [zC rfl] at H; exact H
         clear H
         have H := H1
         clear H1
         replace H := qb H; obtain ⟨t230, A25, H⟩ := H
         by_cases c26 : t230 = true
         ·subst c26
          have H1 : (some 0) = some r := by rw [zC rfl] at H; exact H
          clear H
          have H := H1
          clear H1
          obtain rfl := zI H
          have hnb27 := NB226_225.out
          have hnc27 := NB225_226.out
          have z28_0 := bk6 BK226.out
          go_wp2_with (first | (go_at_call 11; (with_reducible refine (ir_Name.calls a1_4 true _ A23.out).mono ?_); rintro e w29 ⟨rfl, hb⟩; replace HO_227005 := zA (Kd.V_below (qV HO_227005.out) hb); replace BK225 := qW BK225 hb; replace BK226 := qW BK226 hb; replace HB := qH hb; (try clear hb); have z30_0 := bk6 BK226.out) | (go_at_call 16; (with_reducible refine (mach_below.calls a1_2 5 true _ A25.out).mono ?_); rintro e w' ⟨rfl, ⟨nd, rfl⟩⟩; (try first | exact ⟨rfl, _, World.drewN_drewN _ _ _⟩ | exact ⟨rfl, _, Eq.trans (World.drewN_drewN _ _ _) (congrArg (World.drewN _) (Nat.add_assoc _ _ _))⟩)))
          repeat (go_quiet (first | (go_at_call 11; (with_reducible refine (ir_Name.calls a1_4 true _ A23.out).mono ?_); rintro e w29 ⟨rfl, hb⟩; replace HO_227005 := zA (Kd.V_below (qV HO_227005.out) hb); replace BK225 := qW BK225 hb; replace BK226 := qW BK226 hb; replace HB := qH hb; (try clear hb); have z30_0 := bk6 BK226.out) | (go_at_call 16; (with_reducible refine (mach_below.calls a1_2 5 true _ A25.out).mono ?_); rintro e w' ⟨rfl, ⟨nd, rfl⟩⟩; (try first | exact ⟨rfl, _, World.drewN_drewN _ _ _⟩ | exact ⟨rfl, _, Eq.trans (World.drewN_drewN _ _ _) (congrArg (World.drewN _) (Nat.add_assoc _ _ _))⟩))); try go_wp2_with (first | (go_at_call 11; (with_reducible refine (ir_Name.calls a1_4 true _ A23.out).mono ?_); rintro e w29 ⟨rfl, hb⟩; replace HO_227005 := zA (Kd.V_below (qV HO_227005.out) hb); replace BK225 := qW BK225 hb; replace BK226 := qW BK226 hb; replace HB := qH hb; (try clear hb); have z30_0 := bk6 BK226.out) | (go_at_call 16; (with_reducible refine (mach_below.calls a1_2 5 true _ A25.out).mono ?_); rintro e w' ⟨rfl, ⟨nd, rfl⟩⟩; (try first | exact ⟨rfl, _, World.drewN_drewN _ _ _⟩ | exact ⟨rfl, _, Eq.trans (World.drewN_drewN _ _ _) (congrArg (World.drewN _) (Nat.add_assoc _ _ _))⟩))))
          go_ret
          exact ⟨qE, qB⟩
         ·replace c26 := Bool.eq_false_iff.mpr c26
          subst c26
          have H1 : (some 192) = some r := by rw [zD (show ¬ (false = true) by decide)] at H; exact H
          clear H
          have H := H1
          clear H1
          obtain rfl := zI H
          have hnb31 := NB226_225.out
          have hnc31 := NB225_226.out
          have z32_0 := bk6 BK226.out
          go_wp2_with (first | (go_at_call 11; (with_reducible refine (ir_Name.calls a1_4 true _ A23.out).mono ?_); rintro e w33 ⟨rfl, hb⟩; replace HO_227005 := zA (Kd.V_below (qV HO_227005.out) hb); replace BK225 := qW BK225 hb; replace BK226 := qW BK226 hb; replace HB := qH hb; (try clear hb); have z34_0 := bk6 BK226.out) | (go_at_call 16; (with_reducible refine (mach_below.calls a1_2 5 false _ A25.out).mono ?_); rintro e w' ⟨rfl, ⟨nd, rfl⟩⟩; (try first | exact ⟨rfl, _, World.drewN_drewN _ _ _⟩ | exact ⟨rfl, _, Eq.trans (World.drewN_drewN _ _ _) (congrArg (World.drewN _) (Nat.add_assoc _ _ _))⟩)))
          repeat (go_quiet (first | (go_at_call 11; (with_reducible refine (ir_Name.calls a1_4 true _ A23.out).mono ?_); rintro e w33 ⟨rfl, hb⟩; replace HO_227005 := zA (Kd.V_below (qV HO_227005.out) hb); replace BK225 := qW BK225 hb; replace BK226 := qW BK226 hb; replace HB := qH hb; (try clear hb); have z34_0 := bk6 BK226.out) | (go_at_call 16; (with_reducible refine (mach_below.calls a1_2 5 false _ A25.out).mono ?_); rintro e w' ⟨rfl, ⟨nd, rfl⟩⟩; (try first | exact ⟨rfl, _, World.drewN_drewN _ _ _⟩ | exact ⟨rfl, _, Eq.trans (World.drewN_drewN _ _ _) (congrArg (World.drewN _) (Nat.add_assoc _ _ _))⟩))); try go_wp2_with (first | (go_at_call 11; (with_reducible refine (ir_Name.calls a1_4 true _ A23.out).mono ?_); rintro e w33 ⟨rfl, hb⟩; replace HO_227005 := zA (Kd.V_below (qV HO_227005.out) hb); replace BK225 := qW BK225 hb; replace BK226 := qW BK226 hb; replace HB := qH hb; (try clear hb); have z34_0 := bk6 BK226.out) | (go_at_call 16; (with_reducible refine (mach_below.calls a1_2 5 false _ A25.out).mono ?_); rintro e w' ⟨rfl, ⟨nd, rfl⟩⟩; (try first | exact ⟨rfl, _, World.drewN_drewN _ _ _⟩ | exact ⟨rfl, _, Eq.trans (World.drewN_drewN _ _ _) (congrArg (World.drewN _) (Nat.add_assoc _ _ _))⟩))))
          go_ret
          exact ⟨qE, qB⟩
        ·replace c24 := Bool.eq_false_iff.mpr c24
         subst c24
         have H1 : (some 70) = some r := by rw [zD (show ¬ (false = true) by decide)] at H; exact H
         clear H
         have H := H1
         clear H1
         obtain rfl := zI H
         have hnb35 := NB226_225.out
         have hnc35 := NB225_226.out
         have z36_0 := bk6 BK226.out
         go_wp2_with (first | (go_at_call 11; (with_reducible refine (ir_Name.calls a1_4 false _ A23.out).mono ?_); rintro e w37 ⟨rfl, hb⟩; replace HO_227005 := zA (Kd.V_below (qV HO_227005.out) hb); replace BK225 := qW BK225 hb; replace BK226 := qW BK226 hb; replace HB := qH hb; (try clear hb)))
         repeat (go_quiet (first | (go_at_call 11; (with_reducible refine (ir_Name.calls a1_4 false _ A23.out).mono ?_); rintro e w37 ⟨rfl, hb⟩; replace HO_227005 := zA (Kd.V_below (qV HO_227005.out) hb); replace BK225 := qW BK225 hb; replace BK226 := qW BK226 hb; replace HB := qH hb; (try clear hb))); try go_wp2_with (first | (go_at_call 11; (with_reducible refine (ir_Name.calls a1_4 false _ A23.out).mono ?_); rintro e w37 ⟨rfl, hb⟩; replace HO_227005 := zA (Kd.V_below (qV HO_227005.out) hb); replace BK225 := qW BK225 hb; replace BK226 := qW BK226 hb; replace HB := qH hb; (try clear hb))))
         go_ret
         exact ⟨qE, qB⟩
    ·rw [zD c11] at H
     obtain ⟨c11b0, c11b1⟩ := qn c11
     by_cases c38 : a1_0 = 13
     ·rw [zC c38] at H
      obtain ⟨c38b0, c38b1⟩ := qe c38; clear c38
      replace H := qb H; obtain ⟨t231, A39, H⟩ := H
      replace H := qb H; obtain ⟨t232, A40, H⟩ := H
      obtain ⟨y233, hy233⟩ : ∃ y_ : List (SIns), y_ = (([(⟨a1_0, t232, a1_2, t231, a1_4, l1_5⟩ : SIns)] : List (SIns))) := ⟨_, rfl⟩
      replace H : (if a2 = true then ((ir_Check.f k (⟨#[102]⟩ : ByteArray) 0 a0_2 (([y233] : List (List (SIns))))).bind fun t239 => (some t239)) else (if y233.length < 1954687338268 then ((ir_Check.f k (⟨#[102]⟩ : ByteArray) 0 a0_2 (([(y233 ++ [(⟨12, 0, 0, 0, (⟨#[]⟩ : ByteArray), ([] : List Int)⟩ : SIns)])] : List (List (SIns))))).bind fun t246 => (some t246)) else (none))) = some r := by (try rw [hy233]); first | with_reducible exact H | exact (zJ _ _).symm.trans H | exact H
      have Ny233 := zA hy233
      clear hy233
      by_cases c41 : a2 = true
      ·subst c41
       have H1 : ((ir_Check.f k (⟨#[102]⟩ : ByteArray) 0 a0_2 (([y233] : List (List (SIns))))).bind fun t239 => (some t239)) = some r := by rw [zC rfl] at H; exact H
       clear H
       have H := H1
       clear H1
       obtain ⟨y236, hy236⟩ : ∃ y_ : List (List (SIns)), y_ = (([y233] : List (List (SIns)))) := ⟨_, rfl⟩
       replace H : ((ir_Check.f k (⟨#[102]⟩ : ByteArray) 0 a0_2 y236).bind fun t239 => (some t239)) = some r := by (try rw [hy236]); first | with_reducible exact H | exact (zJ _ _).symm.trans H | exact H
       have Ny236 := zA hy236
       clear hy236
       replace H := qb H; obtain ⟨t239, A42, H⟩ := H
       obtain rfl := zI H
       have hnb43 := NB226_225.out
       have hnc43 := NB225_226.out
       have z44_0 := bk6 BK226.out
       have z45_0 := bk5 BK225.out
       go_wp2_with (first | (go_at_call 32; (with_reducible refine (mach_one_1.to a0_0 a0_1 a0_2 a0_3 A0_4 c0_4 l0_4 a1_3 t231 _ ?side1 ?side2 A39.out (hbk := ?side3) (hx := ?side4) (hf := ?side5)).mono ?_); (case side1 => exact qCB HR0_4.out); (case side2 => exact HC0_4.out); (case side3 => exact (qK BK225.out)); (case side4 => exact (blk_cell (show _ = some (Obj.cells #[.int .i64 a1_0, .int .i64 a1_1, .int .i64 a1_2, .int .i64 a1_3, .string a1_4, .slice A1_5 l1_5.length c1_5] 31 (0, 0)) from (qK BK226.out)) 3).trans rfl); (case side5 => exact blk_frozen (show _ = some (Obj.cells #[.int .i64 a1_0, .int .i64 a1_1, .int .i64 a1_2, .int .i64 a1_3, .string a1_4, .slice A1_5 l1_5.length c1_5] 31 (0, 0)) from (qK BK226.out)) 3); rintro e w_ ⟨rfl, w46, hb, rfl⟩; replace HO1_5 := zA (Kd.V_below (qV HO1_5.out) hb); replace BK225 := qW BK225 hb; replace BK226 := qW BK226 hb; replace HB := qH hb; (try clear hb); have z47_0 := bk6 BK226.out; have z48_0 := bk5 BK225.out) | (go_at_call 32; (with_reducible refine (mach_one_1.to a0_0 a0_1 a0_2 a0_3 A0_4 c0_4 l0_4 a1_1 t232 _ ?side1 ?side2 A40.out (hbk := ?side3) (hx := ?side4) (hf := ?side5)).mono ?_); (case side1 => exact Kd.C_below HR0_4.out qB); (case side2 => exact HC0_4.out); (case side3 => exact (by (with_reducible repeat (first | refine blk_drewN ?_ _ | refine blk_drew ?_ | refine blk_alloc ?_ _)); refine blk_far ?_ NB225_226.out _; (with_reducible repeat (first | refine blk_drewN ?_ _ | refine blk_drew ?_ | refine blk_alloc ?_ _)); exact BK225.out)); (case side4 => exact (blk_cell (show _ = some (Obj.cells #[.int .i64 a1_0, .int .i64 a1_1, .int .i64 a1_2, .int .i64 t231, .string a1_4, .slice A1_5 l1_5.length c1_5] 31 (0, 0)) from (by (with_reducible repeat (first | refine blk_drewN ?_ _ | refine blk_drew ?_ | refine blk_alloc ?_ _)); refine blk_put (cs := #[.int .i64 a1_0, .int .i64 a1_1, .int .i64 a1_2, .int .i64 a1_3, .string a1_4, .slice A1_5 l1_5.length c1_5]) ?_ 3 _ rfl; (with_reducible repeat (first | refine blk_drewN ?_ _ | refine blk_drew ?_ | refine blk_alloc ?_ _)); exact BK226.out)) 1).trans rfl); (case side5 => exact blk_frozen (show _ = some (Obj.cells #[.int .i64 a1_0, .int .i64 a1_1, .int .i64 a1_2, .int .i64 t231, .string a1_4, .slice A1_5 l1_5.length c1_5] 31 (0, 0)) from (by (with_reducible repeat (first | refine blk_drewN ?_ _ | refine blk_drew ?_ | refine blk_alloc ?_ _)); refine blk_put (cs := #[.int .i64 a1_0, .int .i64 a1_1, .int .i64 a1_2, .int .i64 a1_3, .string a1_4, .slice A1_5 l1_5.length c1_5]) ?_ 3 _ rfl; (with_reducible repeat (first | refine blk_drewN ?_ _ | refine blk_drew ?_ | refine blk_alloc ?_ _)); exact BK226.out)) 1); rintro e w_ ⟨rfl, w49, hb, rfl⟩; replace HO1_5 := zA (Kd.V_below (by (with_reducible repeat (first | apply Kd.V_alloc | apply Kd.V_drewN | apply Kd.V_drew)); exact (Kd.V_mono (Kd.V_far (p := ⟨gb226, 3, none⟩) (Kd.V_mono HO1_5.out (fun k_ hk => (⟨hk, hk.2⟩ : _ ∧ k_ ≠ gb226))) (fun _ hk => hk.2) (.int .i64 t231)) (fun _ h_ => h_.1))) hb); replace BK225 := zA (blk_below (g := gb225) (o := .cells #[.string a0_0, .int .i64 a0_1, .int .i64 a0_2, .int .i64 a0_3, .slice A0_4 l0_4.length c0_4] 34 (0, 0)) (by (with_reducible repeat (first | refine blk_drewN ?_ _ | refine blk_drew ?_ | refine blk_alloc ?_ _)); refine blk_far ?_ NB225_226.out _; (with_reducible repeat (first | refine blk_drewN ?_ _ | refine blk_drew ?_ | refine blk_alloc ?_ _)); exact BK225.out) hb); replace BK226 := zA (blk_below (g := gb226) (o := .cells #[.int .i64 a1_0, .int .i64 a1_1, .int .i64 a1_2, .int .i64 t231, .string a1_4, .slice A1_5 l1_5.length c1_5] 31 (0, 0)) (by (with_reducible repeat (first | refine blk_drewN ?_ _ | refine blk_drew ?_ | refine blk_alloc ?_ _)); refine blk_put (cs := #[.int .i64 a1_0, .int .i64 a1_1, .int .i64 a1_2, .int .i64 a1_3, .string a1_4, .slice A1_5 l1_5.length c1_5]) ?_ 3 _ rfl; (with_reducible repeat (first | refine blk_drewN ?_ _ | refine blk_drew ?_ | refine blk_alloc ?_ _)); exact BK226.out) hb); replace HB := qH hb; have z50_0 := bk6 BK226.out; generalize hw_ : w49.setCell ⟨gb226, 1, none⟩ (.int .i64 t232) = w51; have hw := hw_.symm; clear hw_; have n0_ : Aside0 (Kd.V (Kd.int .i64) 3 w51 w.heap.size (fun k_ => (P1_5_ k_ ∨ w.heap.size ≤ k_) ∧ k_ ≠ gb225 ∧ k_ ≠ gb226) (.slice A1_5 l1_5.length c1_5) l1_5) := ⟨(by rw [hw]; exact (by (with_reducible repeat (first | apply Kd.V_alloc | apply Kd.V_drewN | apply Kd.V_drew)); exact Kd.V_mono (Kd.V_far (p := ⟨gb226, 1, none⟩) (Kd.V_mono HO1_5.out (fun k_ hk => (⟨hk, hk.2⟩ : _ ∧ k_ ≠ gb226))) (fun _ hk => hk.2) (.int .i64 t232)) (fun _ hk => ⟨hk.1.1.1, ⟨hk.1.1.2, hk.1.2⟩⟩)))⟩; have n1_ : Aside0 (w51.heap[gb225]? = some (.cells #[.string a0_0, .int .i64 a0_1, .int .i64 a0_2, .int .i64 a0_3, .slice A0_4 l0_4.length c0_4] 34 (0, 0))) := ⟨(by rw [hw]; exact (by (with_reducible repeat (first | refine blk_drewN ?_ _ | refine blk_drew ?_ | refine blk_alloc ?_ _)); refine blk_far ?_ NB225_226.out _; (with_reducible repeat (first | refine blk_drewN ?_ _ | refine blk_drew ?_ | refine blk_alloc ?_ _)); exact BK225.out))⟩; have n2_ : Aside0 (w51.heap[gb226]? = some (.cells #[.int .i64 a1_0, .int .i64 t232, .int .i64 a1_2, .int .i64 t231, .string a1_4, .slice A1_5 l1_5.length c1_5] 31 (0, 0))) := ⟨(by rw [hw]; exact (by (with_reducible repeat (first | refine blk_drewN ?_ _ | refine blk_drew ?_ | refine blk_alloc ?_ _)); refine blk_put (cs := #[.int .i64 a1_0, .int .i64 a1_1, .int .i64 a1_2, .int .i64 t231, .string a1_4, .slice A1_5 l1_5.length c1_5]) ?_ 1 _ rfl; (with_reducible repeat (first | refine blk_drewN ?_ _ | refine blk_drew ?_ | refine blk_alloc ?_ _)); exact BK226.out))⟩; have n3_ : Aside0 (Below w.heap.size w w51) := ⟨(by rw [hw]; exact qB)⟩; clear hw; clear HO1_5; clear BK225; clear BK226; clear HB; have HO1_5 := n0_; have BK225 := n1_; have BK226 := n2_; have HB := n3_; clear n0_ n1_ n2_ n3_; have z52_0 := bk6 BK226.out) | ((with_reducible refine gate_dst (N := 101) rfl ?_); (try (refine gate_guard (by rfl) ?_; dsimp only)); refine Kd.N_lit kIns _ 31 ?hg (N' := 101) ?hd (xs := ([(⟨a1_0, t232, a1_2, t231, a1_4, l1_5⟩ : SIns)] : List (SIns))) (inner := [.int .i64 a1_0, .int .i64 t232, .int .i64 a1_2, .int .i64 t231, .string a1_4, .slice A1_5 l1_5.length c1_5]) (ok := (fun k_ => (P1_5_ k_ ∨ w.heap.size ≤ k_) ∧ k_ ≠ gb225 ∧ k_ ≠ gb226)) (okp := (fun k_ => (P1_5_ k_ ∨ w.heap.size ≤ k_) ∧ k_ ≠ gb225 ∧ k_ ≠ gb226)) ?hr ?hp (fun _ hk => hk) ((show ∀ k_, w51.heap.size ≤ k_ → (fun k_ => (P1_5_ k_ ∨ w.heap.size ≤ k_) ∧ k_ ≠ gb225 ∧ k_ ≠ gb226) k_ from fun k_ hk => ⟨(.inr (Nat.le_trans (below_size qB) hk)), Kd.freshB (g := gb225) (o := .cells #[.string a0_0, .int .i64 a0_1, .int .i64 a0_2, .int .i64 a0_3, .slice A0_4 l0_4.length c0_4] 34 (0, 0)) (qK BK225.out) k_ hk, Kd.freshB (g := gb226) (o := .cells #[.int .i64 a1_0, .int .i64 t232, .int .i64 a1_2, .int .i64 t231, .string a1_4, .slice A1_5 l1_5.length c1_5] 31 (0, 0)) (qK BK226.out) k_ hk⟩) _ (Nat.le_refl _)) (Below.refl _ _) (Nat.le_refl _) (by simp) ?_; (case hd => rfl); (case hg => rfl); (case hr => go_simp <;> rfl); (case hp => exact (Reps.c6 (show Kd.FK kIns _ _ (⟨a1_0, t232, a1_2, t231, a1_4, l1_5⟩ : SIns) [.int .i64 a1_0, .int .i64 t232, .int .i64 a1_2, .int .i64 t231, .string a1_4, .slice A1_5 l1_5.length c1_5] from (kIns_mkF _ _ (⟨a1_0, t232, a1_2, t231, a1_4, l1_5⟩ : SIns) (Kd.V_reads' (Kd.V_mono (ok' := (fun k_ => (P1_5_ k_ ∨ w.heap.size ≤ k_) ∧ k_ ≠ gb225 ∧ k_ ≠ gb226)) (HO1_5.out) (fun k_ hk => ⟨hk.1, ⟨hk.2.1, hk.2.2⟩⟩))).2.1 (Kd.V_F (Kd.V_mono (ok' := (fun k_ => (P1_5_ k_ ∨ w.heap.size ≤ k_) ∧ k_ ≠ gb225 ∧ k_ ≠ gb226)) (HO1_5.out) (fun k_ hk => ⟨hk.1, ⟨hk.2.1, hk.2.2⟩⟩))))) (Reps.none _ _))); intro v234 w53 ho54 hb hg_ hnew_; clear hg_ hnew_; (first | rw [← Ny233.out] at ho54 | (simp only [Int.reduceToNat] at ho54; rw [← Ny233.out] at ho54)); replace HO1_5 := zA (Kd.V_elder' (qV HO1_5.out) (Kd.N_base ho54) hb); have HO235 := zA (Kd.N_lower ho54 (below_size qB)); replace BK225 := qW BK225 hb; replace BK226 := qW BK226 hb; replace HB := qH hb; clear hb ho54; have z55_0 := bk5 BK225.out; obtain ⟨Ao56, co56, eo56⟩ := Kd.N_slice HO235.out; subst eo56) | ((with_reducible refine gate_dst (N := 111) rfl ?_); (try (refine gate_guard (by rfl) ?_; dsimp only)); refine Kd.N_lit (Kd.slice 31 kIns) _ 28 ?hg (N' := 111) ?hd (xs := ([y233] : List (List (SIns)))) (inner := [.slice Ao56 y233.length co56]) (ok := (fun k_ => (P1_5_ k_ ∨ w.heap.size ≤ k_) ∧ k_ ≠ gb225 ∧ k_ ≠ gb226)) (okp := (fun k_ => (P1_5_ k_ ∨ w.heap.size ≤ k_) ∧ k_ ≠ gb225 ∧ k_ ≠ gb226)) ?hr ?hp (fun _ hk => hk) ((show ∀ k_, w53.heap.size ≤ k_ → (fun k_ => (P1_5_ k_ ∨ w.heap.size ≤ k_) ∧ k_ ≠ gb225 ∧ k_ ≠ gb226) k_ from fun k_ hk => ⟨(.inr (Nat.le_trans (below_size qB) hk)), Kd.freshB (g := gb225) (o := .cells #[.string a0_0, .int .i64 a0_1, .int .i64 a0_2, .int .i64 a0_3, .slice A0_4 l0_4.length c0_4] 34 (0, 0)) (qK BK225.out) k_ hk, Kd.freshB (g := gb226) (o := .cells #[.int .i64 a1_0, .int .i64 t232, .int .i64 a1_2, .int .i64 t231, .string a1_4, .slice A1_5 l1_5.length c1_5] 31 (0, 0)) (qK BK226.out) k_ hk⟩) _ (Nat.le_refl _)) (Below.refl _ _) (Nat.le_refl _) (by simp) ?_; (case hd => rfl); (case hg => rfl); (case hr => go_simp <;> rfl); (case hp => exact (Reps.one (show Kd.FK (Kd.slice 31 kIns) _ _ y233 [.slice Ao56 y233.length co56] from (Kd.FK_slice_mk (Kd.N_reads' (Kd.N_mono (ok' := (fun k_ => (P1_5_ k_ ∨ w.heap.size ≤ k_) ∧ k_ ≠ gb225 ∧ k_ ≠ gb226)) (HO235.out) (fun k_ hk => ⟨hk.1, ⟨hk.2.1, hk.2.2⟩⟩))).2.1 (Kd.N_F (Kd.N_mono (ok' := (fun k_ => (P1_5_ k_ ∨ w.heap.size ≤ k_) ∧ k_ ≠ gb225 ∧ k_ ≠ gb226)) (HO235.out) (fun k_ hk => ⟨hk.1, ⟨hk.2.1, hk.2.2⟩⟩))))) (Reps.none _ _))); intro v237 w57 ho58 hb hg_ hnew_; clear hg_ hnew_; (first | rw [← Ny236.out] at ho58 | (simp only [Int.reduceToNat] at ho58; rw [← Ny236.out] at ho58)); replace HO1_5 := zA (Kd.V_elder' (qV HO1_5.out) (Kd.N_base ho58) hb); have HO238 := zA (Kd.N_lower ho58 (below_size qB)); replace BK225 := qW BK225 hb; replace BK226 := qW BK226 hb; replace HB := qH hb; clear HO235; clear hb ho58; obtain ⟨Ao59, co59, eo59⟩ := Kd.N_slice HO238.out; subst eo59) | (go_at_call 6; (with_reducible refine (ir_Check.calls k (⟨#[102]⟩ : ByteArray) 0 a0_2 _ _ y236 t239 _ ?side1 ?side2 A42.out (hL := ?side99)).mono ?_); (case side1 => repeat (first | exact (Kd.N_reads' HO238.out).2.2 | (with_reducible refine Kd.C_alloc ?_ _) | (with_reducible refine Kd.C_drewN ?_ _) | (with_reducible refine Kd.C_drew ?_))); (case side2 => exact (Kd.N_reads' HO238.out).2.1); (case side99 => exact LaidW.below HLd.out qB); rintro e w60 ⟨rfl, hb⟩; replace HO1_5 := zA (Kd.V_below (qV HO1_5.out) hb); replace HO238 := zA (Kd.N_below (qN HO238.out) hb); replace BK225 := qW BK225 hb; replace BK226 := qW BK226 hb; replace HB := qH hb; (try clear hb)))
       repeat (go_quiet (first | (go_at_call 32; (with_reducible refine (mach_one_1.to a0_0 a0_1 a0_2 a0_3 A0_4 c0_4 l0_4 a1_3 t231 _ ?side1 ?side2 A39.out (hbk := ?side3) (hx := ?side4) (hf := ?side5)).mono ?_); (case side1 => exact qCB HR0_4.out); (case side2 => exact HC0_4.out); (case side3 => exact (qK BK225.out)); (case side4 => exact (blk_cell (show _ = some (Obj.cells #[.int .i64 a1_0, .int .i64 a1_1, .int .i64 a1_2, .int .i64 a1_3, .string a1_4, .slice A1_5 l1_5.length c1_5] 31 (0, 0)) from (qK BK226.out)) 3).trans rfl); (case side5 => exact blk_frozen (show _ = some (Obj.cells #[.int .i64 a1_0, .int .i64 a1_1, .int .i64 a1_2, .int .i64 a1_3, .string a1_4, .slice A1_5 l1_5.length c1_5] 31 (0, 0)) from (qK BK226.out)) 3); rintro e w_ ⟨rfl, w46, hb, rfl⟩; replace HO1_5 := zA (Kd.V_below (qV HO1_5.out) hb); replace BK225 := qW BK225 hb; replace BK226 := qW BK226 hb; replace HB := qH hb; (try clear hb); have z47_0 := bk6 BK226.out; have z48_0 := bk5 BK225.out) | (go_at_call 32; (with_reducible refine (mach_one_1.to a0_0 a0_1 a0_2 a0_3 A0_4 c0_4 l0_4 a1_1 t232 _ ?side1 ?side2 A40.out (hbk := ?side3) (hx := ?side4) (hf := ?side5)).mono ?_); (case side1 => exact Kd.C_below HR0_4.out qB); (case side2 => exact HC0_4.out); (case side3 => exact (by (with_reducible repeat (first | refine blk_drewN ?_ _ | refine blk_drew ?_ | refine blk_alloc ?_ _)); refine blk_far ?_ NB225_226.out _; (with_reducible repeat (first | refine blk_drewN ?_ _ | refine blk_drew ?_ | refine blk_alloc ?_ _)); exact BK225.out)); (case side4 => exact (blk_cell (show _ = some (Obj.cells #[.int .i64 a1_0, .int .i64 a1_1, .int .i64 a1_2, .int .i64 t231, .string a1_4, .slice A1_5 l1_5.length c1_5] 31 (0, 0)) from (by (with_reducible repeat (first | refine blk_drewN ?_ _ | refine blk_drew ?_ | refine blk_alloc ?_ _)); refine blk_put (cs := #[.int .i64 a1_0, .int .i64 a1_1, .int .i64 a1_2, .int .i64 a1_3, .string a1_4, .slice A1_5 l1_5.length c1_5]) ?_ 3 _ rfl; (with_reducible repeat (first | refine blk_drewN ?_ _ | refine blk_drew ?_ | refine blk_alloc ?_ _)); exact BK226.out)) 1).trans rfl); (case side5 => exact blk_frozen (show _ = some (Obj.cells #[.int .i64 a1_0, .int .i64 a1_1, .int .i64 a1_2, .int .i64 t231, .string a1_4, .slice A1_5 l1_5.length c1_5] 31 (0, 0)) from (by (with_reducible repeat (first | refine blk_drewN ?_ _ | refine blk_drew ?_ | refine blk_alloc ?_ _)); refine blk_put (cs := #[.int .i64 a1_0, .int .i64 a1_1, .int .i64 a1_2, .int .i64 a1_3, .string a1_4, .slice A1_5 l1_5.length c1_5]) ?_ 3 _ rfl; (with_reducible repeat (first | refine blk_drewN ?_ _ | refine blk_drew ?_ | refine blk_alloc ?_ _)); exact BK226.out)) 1); rintro e w_ ⟨rfl, w49, hb, rfl⟩; replace HO1_5 := zA (Kd.V_below (by (with_reducible repeat (first | apply Kd.V_alloc | apply Kd.V_drewN | apply Kd.V_drew)); exact (Kd.V_mono (Kd.V_far (p := ⟨gb226, 3, none⟩) (Kd.V_mono HO1_5.out (fun k_ hk => (⟨hk, hk.2⟩ : _ ∧ k_ ≠ gb226))) (fun _ hk => hk.2) (.int .i64 t231)) (fun _ h_ => h_.1))) hb); replace BK225 := zA (blk_below (g := gb225) (o := .cells #[.string a0_0, .int .i64 a0_1, .int .i64 a0_2, .int .i64 a0_3, .slice A0_4 l0_4.length c0_4] 34 (0, 0)) (by (with_reducible repeat (first | refine blk_drewN ?_ _ | refine blk_drew ?_ | refine blk_alloc ?_ _)); refine blk_far ?_ NB225_226.out _; (with_reducible repeat (first | refine blk_drewN ?_ _ | refine blk_drew ?_ | refine blk_alloc ?_ _)); exact BK225.out) hb); replace BK226 := zA (blk_below (g := gb226) (o := .cells #[.int .i64 a1_0, .int .i64 a1_1, .int .i64 a1_2, .int .i64 t231, .string a1_4, .slice A1_5 l1_5.length c1_5] 31 (0, 0)) (by (with_reducible repeat (first | refine blk_drewN ?_ _ | refine blk_drew ?_ | refine blk_alloc ?_ _)); refine blk_put (cs := #[.int .i64 a1_0, .int .i64 a1_1, .int .i64 a1_2, .int .i64 a1_3, .string a1_4, .slice A1_5 l1_5.length c1_5]) ?_ 3 _ rfl; (with_reducible repeat (first | refine blk_drewN ?_ _ | refine blk_drew ?_ | refine blk_alloc ?_ _)); exact BK226.out) hb); replace HB := qH hb; have z50_0 := bk6 BK226.out; generalize hw_ : w49.setCell ⟨gb226, 1, none⟩ (.int .i64 t232) = w51; have hw := hw_.symm; clear hw_; have n0_ : Aside0 (Kd.V (Kd.int .i64) 3 w51 w.heap.size (fun k_ => (P1_5_ k_ ∨ w.heap.size ≤ k_) ∧ k_ ≠ gb225 ∧ k_ ≠ gb226) (.slice A1_5 l1_5.length c1_5) l1_5) := ⟨(by rw [hw]; exact (by (with_reducible repeat (first | apply Kd.V_alloc | apply Kd.V_drewN | apply Kd.V_drew)); exact Kd.V_mono (Kd.V_far (p := ⟨gb226, 1, none⟩) (Kd.V_mono HO1_5.out (fun k_ hk => (⟨hk, hk.2⟩ : _ ∧ k_ ≠ gb226))) (fun _ hk => hk.2) (.int .i64 t232)) (fun _ hk => ⟨hk.1.1.1, ⟨hk.1.1.2, hk.1.2⟩⟩)))⟩; have n1_ : Aside0 (w51.heap[gb225]? = some (.cells #[.string a0_0, .int .i64 a0_1, .int .i64 a0_2, .int .i64 a0_3, .slice A0_4 l0_4.length c0_4] 34 (0, 0))) := ⟨(by rw [hw]; exact (by (with_reducible repeat (first | refine blk_drewN ?_ _ | refine blk_drew ?_ | refine blk_alloc ?_ _)); refine blk_far ?_ NB225_226.out _; (with_reducible repeat (first | refine blk_drewN ?_ _ | refine blk_drew ?_ | refine blk_alloc ?_ _)); exact BK225.out))⟩; have n2_ : Aside0 (w51.heap[gb226]? = some (.cells #[.int .i64 a1_0, .int .i64 t232, .int .i64 a1_2, .int .i64 t231, .string a1_4, .slice A1_5 l1_5.length c1_5] 31 (0, 0))) := ⟨(by rw [hw]; exact (by (with_reducible repeat (first | refine blk_drewN ?_ _ | refine blk_drew ?_ | refine blk_alloc ?_ _)); refine blk_put (cs := #[.int .i64 a1_0, .int .i64 a1_1, .int .i64 a1_2, .int .i64 t231, .string a1_4, .slice A1_5 l1_5.length c1_5]) ?_ 1 _ rfl; (with_reducible repeat (first | refine blk_drewN ?_ _ | refine blk_drew ?_ | refine blk_alloc ?_ _)); exact BK226.out))⟩; have n3_ : Aside0 (Below w.heap.size w w51) := ⟨(by rw [hw]; exact qB)⟩; clear hw; clear HO1_5; clear BK225; clear BK226; clear HB; have HO1_5 := n0_; have BK225 := n1_; have BK226 := n2_; have HB := n3_; clear n0_ n1_ n2_ n3_; have z52_0 := bk6 BK226.out) | ((with_reducible refine gate_dst (N := 101) rfl ?_); (try (refine gate_guard (by rfl) ?_; dsimp only)); refine Kd.N_lit kIns _ 31 ?hg (N' := 101) ?hd (xs := ([(⟨a1_0, t232, a1_2, t231, a1_4, l1_5⟩ : SIns)] : List (SIns))) (inner := [.int .i64 a1_0, .int .i64 t232, .int .i64 a1_2, .int .i64 t231, .string a1_4, .slice A1_5 l1_5.length c1_5]) (ok := (fun k_ => (P1_5_ k_ ∨ w.heap.size ≤ k_) ∧ k_ ≠ gb225 ∧ k_ ≠ gb226)) (okp := (fun k_ => (P1_5_ k_ ∨ w.heap.size ≤ k_) ∧ k_ ≠ gb225 ∧ k_ ≠ gb226)) ?hr ?hp (fun _ hk => hk) ((show ∀ k_, w51.heap.size ≤ k_ → (fun k_ => (P1_5_ k_ ∨ w.heap.size ≤ k_) ∧ k_ ≠ gb225 ∧ k_ ≠ gb226) k_ from fun k_ hk => ⟨(.inr (Nat.le_trans (below_size qB) hk)), Kd.freshB (g := gb225) (o := .cells #[.string a0_0, .int .i64 a0_1, .int .i64 a0_2, .int .i64 a0_3, .slice A0_4 l0_4.length c0_4] 34 (0, 0)) (qK BK225.out) k_ hk, Kd.freshB (g := gb226) (o := .cells #[.int .i64 a1_0, .int .i64 t232, .int .i64 a1_2, .int .i64 t231, .string a1_4, .slice A1_5 l1_5.length c1_5] 31 (0, 0)) (qK BK226.out) k_ hk⟩) _ (Nat.le_refl _)) (Below.refl _ _) (Nat.le_refl _) (by simp) ?_; (case hd => rfl); (case hg => rfl); (case hr => go_simp <;> rfl); (case hp => exact (Reps.c6 (show Kd.FK kIns _ _ (⟨a1_0, t232, a1_2, t231, a1_4, l1_5⟩ : SIns) [.int .i64 a1_0, .int .i64 t232, .int .i64 a1_2, .int .i64 t231, .string a1_4, .slice A1_5 l1_5.length c1_5] from (kIns_mkF _ _ (⟨a1_0, t232, a1_2, t231, a1_4, l1_5⟩ : SIns) (Kd.V_reads' (Kd.V_mono (ok' := (fun k_ => (P1_5_ k_ ∨ w.heap.size ≤ k_) ∧ k_ ≠ gb225 ∧ k_ ≠ gb226)) (HO1_5.out) (fun k_ hk => ⟨hk.1, ⟨hk.2.1, hk.2.2⟩⟩))).2.1 (Kd.V_F (Kd.V_mono (ok' := (fun k_ => (P1_5_ k_ ∨ w.heap.size ≤ k_) ∧ k_ ≠ gb225 ∧ k_ ≠ gb226)) (HO1_5.out) (fun k_ hk => ⟨hk.1, ⟨hk.2.1, hk.2.2⟩⟩))))) (Reps.none _ _))); intro v234 w53 ho54 hb hg_ hnew_; clear hg_ hnew_; (first | rw [← Ny233.out] at ho54 | (simp only [Int.reduceToNat] at ho54; rw [← Ny233.out] at ho54)); replace HO1_5 := zA (Kd.V_elder' (qV HO1_5.out) (Kd.N_base ho54) hb); have HO235 := zA (Kd.N_lower ho54 (below_size qB)); replace BK225 := qW BK225 hb; replace BK226 := qW BK226 hb; replace HB := qH hb; clear hb ho54; have z55_0 := bk5 BK225.out; obtain ⟨Ao56, co56, eo56⟩ := Kd.N_slice HO235.out; subst eo56) | ((with_reducible refine gate_dst (N := 111) rfl ?_); (try (refine gate_guard (by rfl) ?_; dsimp only)); refine Kd.N_lit (Kd.slice 31 kIns) _ 28 ?hg (N' := 111) ?hd (xs := ([y233] : List (List (SIns)))) (inner := [.slice Ao56 y233.length co56]) (ok := (fun k_ => (P1_5_ k_ ∨ w.heap.size ≤ k_) ∧ k_ ≠ gb225 ∧ k_ ≠ gb226)) (okp := (fun k_ => (P1_5_ k_ ∨ w.heap.size ≤ k_) ∧ k_ ≠ gb225 ∧ k_ ≠ gb226)) ?hr ?hp (fun _ hk => hk) ((show ∀ k_, w53.heap.size ≤ k_ → (fun k_ => (P1_5_ k_ ∨ w.heap.size ≤ k_) ∧ k_ ≠ gb225 ∧ k_ ≠ gb226) k_ from fun k_ hk => ⟨(.inr (Nat.le_trans (below_size qB) hk)), Kd.freshB (g := gb225) (o := .cells #[.string a0_0, .int .i64 a0_1, .int .i64 a0_2, .int .i64 a0_3, .slice A0_4 l0_4.length c0_4] 34 (0, 0)) (qK BK225.out) k_ hk, Kd.freshB (g := gb226) (o := .cells #[.int .i64 a1_0, .int .i64 t232, .int .i64 a1_2, .int .i64 t231, .string a1_4, .slice A1_5 l1_5.length c1_5] 31 (0, 0)) (qK BK226.out) k_ hk⟩) _ (Nat.le_refl _)) (Below.refl _ _) (Nat.le_refl _) (by simp) ?_; (case hd => rfl); (case hg => rfl); (case hr => go_simp <;> rfl); (case hp => exact (Reps.one (show Kd.FK (Kd.slice 31 kIns) _ _ y233 [.slice Ao56 y233.length co56] from (Kd.FK_slice_mk (Kd.N_reads' (Kd.N_mono (ok' := (fun k_ => (P1_5_ k_ ∨ w.heap.size ≤ k_) ∧ k_ ≠ gb225 ∧ k_ ≠ gb226)) (HO235.out) (fun k_ hk => ⟨hk.1, ⟨hk.2.1, hk.2.2⟩⟩))).2.1 (Kd.N_F (Kd.N_mono (ok' := (fun k_ => (P1_5_ k_ ∨ w.heap.size ≤ k_) ∧ k_ ≠ gb225 ∧ k_ ≠ gb226)) (HO235.out) (fun k_ hk => ⟨hk.1, ⟨hk.2.1, hk.2.2⟩⟩))))) (Reps.none _ _))); intro v237 w57 ho58 hb hg_ hnew_; clear hg_ hnew_; (first | rw [← Ny236.out] at ho58 | (simp only [Int.reduceToNat] at ho58; rw [← Ny236.out] at ho58)); replace HO1_5 := zA (Kd.V_elder' (qV HO1_5.out) (Kd.N_base ho58) hb); have HO238 := zA (Kd.N_lower ho58 (below_size qB)); replace BK225 := qW BK225 hb; replace BK226 := qW BK226 hb; replace HB := qH hb; clear HO235; clear hb ho58; obtain ⟨Ao59, co59, eo59⟩ := Kd.N_slice HO238.out; subst eo59) | (go_at_call 6; (with_reducible refine (ir_Check.calls k (⟨#[102]⟩ : ByteArray) 0 a0_2 _ _ y236 t239 _ ?side1 ?side2 A42.out (hL := ?side99)).mono ?_); (case side1 => repeat (first | exact (Kd.N_reads' HO238.out).2.2 | (with_reducible refine Kd.C_alloc ?_ _) | (with_reducible refine Kd.C_drewN ?_ _) | (with_reducible refine Kd.C_drew ?_))); (case side2 => exact (Kd.N_reads' HO238.out).2.1); (case side99 => exact LaidW.below HLd.out qB); rintro e w60 ⟨rfl, hb⟩; replace HO1_5 := zA (Kd.V_below (qV HO1_5.out) hb); replace HO238 := zA (Kd.N_below (qN HO238.out) hb); replace BK225 := qW BK225 hb; replace BK226 := qW BK226 hb; replace HB := qH hb; (try clear hb))); try go_wp2_with (first | (go_at_call 32; (with_reducible refine (mach_one_1.calls a0_0 a0_1 a0_2 a0_3 _ _ l0_4 a1_3 t231 _ ?side1 ?side2 A39.out).mono ?_); (case side1 => exact qCB HR0_4.out); (case side2 => exact HC0_4.out); rintro e w46 ⟨rfl, hb⟩; replace HO1_5 := zA (Kd.V_below (qV HO1_5.out) hb); replace BK225 := qW BK225 hb; replace BK226 := qW BK226 hb; replace HB := qH hb; (try clear hb); have z47_0 := bk6 BK226.out; have z48_0 := bk5 BK225.out) | (go_at_call 32; (with_reducible refine (mach_one_1.calls a0_0 a0_1 a0_2 a0_3 _ _ l0_4 a1_1 t232 _ ?side1 ?side2 A40.out).mono ?_); (case side1 => exact Kd.C_below HR0_4.out qB); (case side2 => exact HC0_4.out); rintro e w49 ⟨rfl, hb⟩; replace HO1_5 := zA (Kd.V_below (by (with_reducible repeat (first | apply Kd.V_alloc | apply Kd.V_drewN | apply Kd.V_drew)); exact (Kd.V_mono (Kd.V_far (p := ⟨gb226, 3, none⟩) (Kd.V_mono HO1_5.out (fun k_ hk => (⟨hk, hk.2⟩ : _ ∧ k_ ≠ gb226))) (fun _ hk => hk.2) (.int .i64 t231)) (fun _ h_ => h_.1))) hb); replace BK225 := zA (blk_below (g := gb225) (o := .cells #[.string a0_0, .int .i64 a0_1, .int .i64 a0_2, .int .i64 a0_3, .slice A0_4 l0_4.length c0_4] 34 (0, 0)) (by (with_reducible repeat (first | refine blk_drewN ?_ _ | refine blk_drew ?_ | refine blk_alloc ?_ _)); refine blk_far ?_ NB225_226.out _; (with_reducible repeat (first | refine blk_drewN ?_ _ | refine blk_drew ?_ | refine blk_alloc ?_ _)); exact BK225.out) hb); replace BK226 := zA (blk_below (g := gb226) (o := .cells #[.int .i64 a1_0, .int .i64 a1_1, .int .i64 a1_2, .int .i64 t231, .string a1_4, .slice A1_5 l1_5.length c1_5] 31 (0, 0)) (by (with_reducible repeat (first | refine blk_drewN ?_ _ | refine blk_drew ?_ | refine blk_alloc ?_ _)); refine blk_put (cs := #[.int .i64 a1_0, .int .i64 a1_1, .int .i64 a1_2, .int .i64 a1_3, .string a1_4, .slice A1_5 l1_5.length c1_5]) ?_ 3 _ rfl; (with_reducible repeat (first | refine blk_drewN ?_ _ | refine blk_drew ?_ | refine blk_alloc ?_ _)); exact BK226.out) hb); replace HB := qH hb; have z50_0 := bk6 BK226.out) | ((with_reducible refine gate_store (t := 3) (p := 93) rfl ?_); (try (rw [drewN_self w49]; generalize hq_ : World.drewN w49 _ = w49; have n0_ := zA (Kd.V_at hq_ HO1_5.out); have n1_ := zA (blk_at hq_ BK225.out); have n2_ := zA (blk_at hq_ BK226.out); have n3_ := zA (below_at hq_ HB.out); clear hq_ HO1_5 BK225 BK226 HB; have HO1_5 := n0_; have BK225 := n1_; have BK226 := n2_; have HB := n3_; clear n0_ n1_ n2_ n3_)); refine store_event (t := 3) (p := 93) (v := ?vo_w51) (w1 := (w49.setCell ⟨gb226, 1, none⟩ (.int .i64 t232))) (by rfl) (by rfl) (by rfl) ?hr ?_; (case hr => go_simp <;> rfl); intro w51 hw; have n0_ : Aside0 (Kd.V (Kd.int .i64) 3 w51 w.heap.size (fun k_ => (P1_5_ k_ ∨ w.heap.size ≤ k_) ∧ k_ ≠ gb225 ∧ k_ ≠ gb226) (.slice A1_5 l1_5.length c1_5) l1_5) := ⟨(by rw [hw]; exact (by (with_reducible repeat (first | apply Kd.V_alloc | apply Kd.V_drewN | apply Kd.V_drew)); exact Kd.V_mono (Kd.V_far (p := ⟨gb226, 1, none⟩) (Kd.V_mono HO1_5.out (fun k_ hk => (⟨hk, hk.2⟩ : _ ∧ k_ ≠ gb226))) (fun _ hk => hk.2) (.int .i64 t232)) (fun _ hk => ⟨hk.1.1.1, ⟨hk.1.1.2, hk.1.2⟩⟩)))⟩; have n1_ : Aside0 (w51.heap[gb225]? = some (.cells #[.string a0_0, .int .i64 a0_1, .int .i64 a0_2, .int .i64 a0_3, .slice A0_4 l0_4.length c0_4] 34 (0, 0))) := ⟨(by rw [hw]; exact (by (with_reducible repeat (first | refine blk_drewN ?_ _ | refine blk_drew ?_ | refine blk_alloc ?_ _)); refine blk_far ?_ NB225_226.out _; (with_reducible repeat (first | refine blk_drewN ?_ _ | refine blk_drew ?_ | refine blk_alloc ?_ _)); exact BK225.out))⟩; have n2_ : Aside0 (w51.heap[gb226]? = some (.cells #[.int .i64 a1_0, .int .i64 t232, .int .i64 a1_2, .int .i64 t231, .string a1_4, .slice A1_5 l1_5.length c1_5] 31 (0, 0))) := ⟨(by rw [hw]; exact (by (with_reducible repeat (first | refine blk_drewN ?_ _ | refine blk_drew ?_ | refine blk_alloc ?_ _)); refine blk_put (cs := #[.int .i64 a1_0, .int .i64 a1_1, .int .i64 a1_2, .int .i64 t231, .string a1_4, .slice A1_5 l1_5.length c1_5]) ?_ 1 _ rfl; (with_reducible repeat (first | refine blk_drewN ?_ _ | refine blk_drew ?_ | refine blk_alloc ?_ _)); exact BK226.out))⟩; have n3_ : Aside0 (Below w.heap.size w w51) := ⟨(by rw [hw]; exact qB)⟩; clear hw; clear HO1_5; clear BK225; clear BK226; clear HB; have HO1_5 := n0_; have BK225 := n1_; have BK226 := n2_; have HB := n3_; clear n0_ n1_ n2_ n3_; have z52_0 := bk6 BK226.out) | ((with_reducible refine gate_dst (N := 101) rfl ?_); (try (refine gate_guard (by rfl) ?_; dsimp only)); refine Kd.N_lit kIns _ 31 ?hg (N' := 101) ?hd (xs := ([(⟨a1_0, t232, a1_2, t231, a1_4, l1_5⟩ : SIns)] : List (SIns))) (inner := [.int .i64 a1_0, .int .i64 t232, .int .i64 a1_2, .int .i64 t231, .string a1_4, .slice A1_5 l1_5.length c1_5]) (ok := (fun k_ => (P1_5_ k_ ∨ w.heap.size ≤ k_) ∧ k_ ≠ gb225 ∧ k_ ≠ gb226)) (okp := (fun k_ => (P1_5_ k_ ∨ w.heap.size ≤ k_) ∧ k_ ≠ gb225 ∧ k_ ≠ gb226)) ?hr ?hp (fun _ hk => hk) ((show ∀ k_, w51.heap.size ≤ k_ → (fun k_ => (P1_5_ k_ ∨ w.heap.size ≤ k_) ∧ k_ ≠ gb225 ∧ k_ ≠ gb226) k_ from fun k_ hk => ⟨(.inr (Nat.le_trans (below_size qB) hk)), Kd.freshB (g := gb225) (o := .cells #[.string a0_0, .int .i64 a0_1, .int .i64 a0_2, .int .i64 a0_3, .slice A0_4 l0_4.length c0_4] 34 (0, 0)) (qK BK225.out) k_ hk, Kd.freshB (g := gb226) (o := .cells #[.int .i64 a1_0, .int .i64 t232, .int .i64 a1_2, .int .i64 t231, .string a1_4, .slice A1_5 l1_5.length c1_5] 31 (0, 0)) (qK BK226.out) k_ hk⟩) _ (Nat.le_refl _)) (Below.refl _ _) (Nat.le_refl _) (by simp) ?_; (case hd => rfl); (case hg => rfl); (case hr => go_simp <;> rfl); (case hp => exact (Reps.c6 (show Kd.FK kIns _ _ (⟨a1_0, t232, a1_2, t231, a1_4, l1_5⟩ : SIns) [.int .i64 a1_0, .int .i64 t232, .int .i64 a1_2, .int .i64 t231, .string a1_4, .slice A1_5 l1_5.length c1_5] from (kIns_mkF _ _ (⟨a1_0, t232, a1_2, t231, a1_4, l1_5⟩ : SIns) (Kd.V_reads' (Kd.V_mono (ok' := (fun k_ => (P1_5_ k_ ∨ w.heap.size ≤ k_) ∧ k_ ≠ gb225 ∧ k_ ≠ gb226)) (HO1_5.out) (fun k_ hk => ⟨hk.1, ⟨hk.2.1, hk.2.2⟩⟩))).2.1 (Kd.V_F (Kd.V_mono (ok' := (fun k_ => (P1_5_ k_ ∨ w.heap.size ≤ k_) ∧ k_ ≠ gb225 ∧ k_ ≠ gb226)) (HO1_5.out) (fun k_ hk => ⟨hk.1, ⟨hk.2.1, hk.2.2⟩⟩))))) (Reps.none _ _))); intro v234 w53 ho54 hb hg_ hnew_; clear hg_ hnew_; (first | rw [← Ny233.out] at ho54 | (simp only [Int.reduceToNat] at ho54; rw [← Ny233.out] at ho54)); replace HO1_5 := zA (Kd.V_elder' (qV HO1_5.out) (Kd.N_base ho54) hb); have HO235 := zA (Kd.N_lower ho54 (below_size qB)); replace BK225 := qW BK225 hb; replace BK226 := qW BK226 hb; replace HB := qH hb; clear hb ho54; have z55_0 := bk5 BK225.out; obtain ⟨Ao56, co56, eo56⟩ := Kd.N_slice HO235.out; subst eo56) | ((with_reducible refine gate_dst (N := 111) rfl ?_); (try (refine gate_guard (by rfl) ?_; dsimp only)); refine Kd.N_lit (Kd.slice 31 kIns) _ 28 ?hg (N' := 111) ?hd (xs := ([y233] : List (List (SIns)))) (inner := [.slice Ao56 y233.length co56]) (ok := (fun k_ => (P1_5_ k_ ∨ w.heap.size ≤ k_) ∧ k_ ≠ gb225 ∧ k_ ≠ gb226)) (okp := (fun k_ => (P1_5_ k_ ∨ w.heap.size ≤ k_) ∧ k_ ≠ gb225 ∧ k_ ≠ gb226)) ?hr ?hp (fun _ hk => hk) ((show ∀ k_, w53.heap.size ≤ k_ → (fun k_ => (P1_5_ k_ ∨ w.heap.size ≤ k_) ∧ k_ ≠ gb225 ∧ k_ ≠ gb226) k_ from fun k_ hk => ⟨(.inr (Nat.le_trans (below_size qB) hk)), Kd.freshB (g := gb225) (o := .cells #[.string a0_0, .int .i64 a0_1, .int .i64 a0_2, .int .i64 a0_3, .slice A0_4 l0_4.length c0_4] 34 (0, 0)) (qK BK225.out) k_ hk, Kd.freshB (g := gb226) (o := .cells #[.int .i64 a1_0, .int .i64 t232, .int .i64 a1_2, .int .i64 t231, .string a1_4, .slice A1_5 l1_5.length c1_5] 31 (0, 0)) (qK BK226.out) k_ hk⟩) _ (Nat.le_refl _)) (Below.refl _ _) (Nat.le_refl _) (by simp) ?_; (case hd => rfl); (case hg => rfl); (case hr => go_simp <;> rfl); (case hp => exact (Reps.one (show Kd.FK (Kd.slice 31 kIns) _ _ y233 [.slice Ao56 y233.length co56] from (Kd.FK_slice_mk (Kd.N_reads' (Kd.N_mono (ok' := (fun k_ => (P1_5_ k_ ∨ w.heap.size ≤ k_) ∧ k_ ≠ gb225 ∧ k_ ≠ gb226)) (HO235.out) (fun k_ hk => ⟨hk.1, ⟨hk.2.1, hk.2.2⟩⟩))).2.1 (Kd.N_F (Kd.N_mono (ok' := (fun k_ => (P1_5_ k_ ∨ w.heap.size ≤ k_) ∧ k_ ≠ gb225 ∧ k_ ≠ gb226)) (HO235.out) (fun k_ hk => ⟨hk.1, ⟨hk.2.1, hk.2.2⟩⟩))))) (Reps.none _ _))); intro v237 w57 ho58 hb hg_ hnew_; clear hg_ hnew_; (first | rw [← Ny236.out] at ho58 | (simp only [Int.reduceToNat] at ho58; rw [← Ny236.out] at ho58)); replace HO1_5 := zA (Kd.V_elder' (qV HO1_5.out) (Kd.N_base ho58) hb); have HO238 := zA (Kd.N_lower ho58 (below_size qB)); replace BK225 := qW BK225 hb; replace BK226 := qW BK226 hb; replace HB := qH hb; clear HO235; clear hb ho58; obtain ⟨Ao59, co59, eo59⟩ := Kd.N_slice HO238.out; subst eo59) | (go_at_call 6; (with_reducible refine (ir_Check.calls k (⟨#[102]⟩ : ByteArray) 0 a0_2 _ _ y236 t239 _ ?side1 ?side2 A42.out (hL := ?side99)).mono ?_); (case side1 => repeat (first | exact (Kd.N_reads' HO238.out).2.2 | (with_reducible refine Kd.C_alloc ?_ _) | (with_reducible refine Kd.C_drewN ?_ _) | (with_reducible refine Kd.C_drew ?_))); (case side2 => exact (Kd.N_reads' HO238.out).2.1); (case side99 => exact LaidW.below HLd.out qB); rintro e w60 ⟨rfl, hb⟩; replace HO1_5 := zA (Kd.V_below (qV HO1_5.out) hb); replace HO238 := zA (Kd.N_below (qN HO238.out) hb); replace BK225 := qW BK225 hb; replace BK226 := qW BK226 hb; replace HB := qH hb; (try clear hb))))
       go_ret
       exact ⟨qE, qB⟩
      ·replace c41 := Bool.eq_false_iff.mpr c41
       subst c41
       have H1 : (if y233.length < 1954687338268 then ((ir_Check.f k (⟨#[102]⟩ : ByteArray) 0 a0_2 (([(y233 ++ [(⟨12, 0, 0, 0, (⟨#[]⟩ : ByteArray), ([] : List Int)⟩ : SIns)])] : List (List (SIns))))).bind fun t246 => (some t246)) else (none)) = some r := by rw [zD (show ¬ (false = true) by decide)] at H; exact H
       clear H
       have H := H1
       clear H1
       by_cases c61 : y233.length < 1954687338268
       ·rw [zC c61] at H
        have LMc61 := zA c61
        clear c61
        obtain ⟨y240, hy240⟩ : ∃ y_ : List (SIns), y_ = (y233 ++ [(⟨12, 0, 0, 0, (⟨#[]⟩ : ByteArray), ([] : List Int)⟩ : SIns)]) := ⟨_, rfl⟩
        replace H : ((ir_Check.f k (⟨#[102]⟩ : ByteArray) 0 a0_2 (([y240] : List (List (SIns))))).bind fun t246 => (some t246)) = some r := by (try rw [hy240]); first | with_reducible exact H | exact (zJ _ _).symm.trans H | exact H
        have Ny240 := zA hy240
        clear hy240
        obtain ⟨y243, hy243⟩ : ∃ y_ : List (List (SIns)), y_ = (([y240] : List (List (SIns)))) := ⟨_, rfl⟩
        replace H : ((ir_Check.f k (⟨#[102]⟩ : ByteArray) 0 a0_2 y243).bind fun t246 => (some t246)) = some r := by (try rw [hy243]); first | with_reducible exact H | exact (zJ _ _).symm.trans H | exact H
        have Ny243 := zA hy243
        clear hy243
        replace H := qb H; obtain ⟨t246, A62, H⟩ := H
        obtain rfl := zI H
        have hnb63 := NB226_225.out
        have hnc63 := NB225_226.out
        have z64_0 := bk6 BK226.out
        have z65_0 := bk5 BK225.out
        go_wp2_with (first | (go_at_call 32; (with_reducible refine (mach_one_1.to a0_0 a0_1 a0_2 a0_3 A0_4 c0_4 l0_4 a1_3 t231 _ ?side1 ?side2 A39.out (hbk := ?side3) (hx := ?side4) (hf := ?side5)).mono ?_); (case side1 => exact qCB HR0_4.out); (case side2 => exact HC0_4.out); (case side3 => exact (qK BK225.out)); (case side4 => exact (blk_cell (show _ = some (Obj.cells #[.int .i64 a1_0, .int .i64 a1_1, .int .i64 a1_2, .int .i64 a1_3, .string a1_4, .slice A1_5 l1_5.length c1_5] 31 (0, 0)) from (qK BK226.out)) 3).trans rfl); (case side5 => exact blk_frozen (show _ = some (Obj.cells #[.int .i64 a1_0, .int .i64 a1_1, .int .i64 a1_2, .int .i64 a1_3, .string a1_4, .slice A1_5 l1_5.length c1_5] 31 (0, 0)) from (qK BK226.out)) 3); rintro e w_ ⟨rfl, w66, hb, rfl⟩; replace HO1_5 := zA (Kd.V_below (qV HO1_5.out) hb); replace BK225 := qW BK225 hb; replace BK226 := qW BK226 hb; replace HB := qH hb; (try clear hb); have z67_0 := bk6 BK226.out; have z68_0 := bk5 BK225.out) | (go_at_call 32; (with_reducible refine (mach_one_1.to a0_0 a0_1 a0_2 a0_3 A0_4 c0_4 l0_4 a1_1 t232 _ ?side1 ?side2 A40.out (hbk := ?side3) (hx := ?side4) (hf := ?side5)).mono ?_); (case side1 => exact Kd.C_below HR0_4.out qB); (case side2 => exact HC0_4.out); (case side3 => exact (by (with_reducible repeat (first | refine blk_drewN ?_ _ | refine blk_drew ?_ | refine blk_alloc ?_ _)); refine blk_far ?_ NB225_226.out _; (with_reducible repeat (first | refine blk_drewN ?_ _ | refine blk_drew ?_ | refine blk_alloc ?_ _)); exact BK225.out)); (case side4 => exact (blk_cell (show _ = some (Obj.cells #[.int .i64 a1_0, .int .i64 a1_1, .int .i64 a1_2, .int .i64 t231, .string a1_4, .slice A1_5 l1_5.length c1_5] 31 (0, 0)) from (by (with_reducible repeat (first | refine blk_drewN ?_ _ | refine blk_drew ?_ | refine blk_alloc ?_ _)); refine blk_put (cs := #[.int .i64 a1_0, .int .i64 a1_1, .int .i64 a1_2, .int .i64 a1_3, .string a1_4, .slice A1_5 l1_5.length c1_5]) ?_ 3 _ rfl; (with_reducible repeat (first | refine blk_drewN ?_ _ | refine blk_drew ?_ | refine blk_alloc ?_ _)); exact BK226.out)) 1).trans rfl); (case side5 => exact blk_frozen (show _ = some (Obj.cells #[.int .i64 a1_0, .int .i64 a1_1, .int .i64 a1_2, .int .i64 t231, .string a1_4, .slice A1_5 l1_5.length c1_5] 31 (0, 0)) from (by (with_reducible repeat (first | refine blk_drewN ?_ _ | refine blk_drew ?_ | refine blk_alloc ?_ _)); refine blk_put (cs := #[.int .i64 a1_0, .int .i64 a1_1, .int .i64 a1_2, .int .i64 a1_3, .string a1_4, .slice A1_5 l1_5.length c1_5]) ?_ 3 _ rfl; (with_reducible repeat (first | refine blk_drewN ?_ _ | refine blk_drew ?_ | refine blk_alloc ?_ _)); exact BK226.out)) 1); rintro e w_ ⟨rfl, w69, hb, rfl⟩; replace HO1_5 := zA (Kd.V_below (by (with_reducible repeat (first | apply Kd.V_alloc | apply Kd.V_drewN | apply Kd.V_drew)); exact (Kd.V_mono (Kd.V_far (p := ⟨gb226, 3, none⟩) (Kd.V_mono HO1_5.out (fun k_ hk => (⟨hk, hk.2⟩ : _ ∧ k_ ≠ gb226))) (fun _ hk => hk.2) (.int .i64 t231)) (fun _ h_ => h_.1))) hb); replace BK225 := zA (blk_below (g := gb225) (o := .cells #[.string a0_0, .int .i64 a0_1, .int .i64 a0_2, .int .i64 a0_3, .slice A0_4 l0_4.length c0_4] 34 (0, 0)) (by (with_reducible repeat (first | refine blk_drewN ?_ _ | refine blk_drew ?_ | refine blk_alloc ?_ _)); refine blk_far ?_ NB225_226.out _; (with_reducible repeat (first | refine blk_drewN ?_ _ | refine blk_drew ?_ | refine blk_alloc ?_ _)); exact BK225.out) hb); replace BK226 := zA (blk_below (g := gb226) (o := .cells #[.int .i64 a1_0, .int .i64 a1_1, .int .i64 a1_2, .int .i64 t231, .string a1_4, .slice A1_5 l1_5.length c1_5] 31 (0, 0)) (by (with_reducible repeat (first | refine blk_drewN ?_ _ | refine blk_drew ?_ | refine blk_alloc ?_ _)); refine blk_put (cs := #[.int .i64 a1_0, .int .i64 a1_1, .int .i64 a1_2, .int .i64 a1_3, .string a1_4, .slice A1_5 l1_5.length c1_5]) ?_ 3 _ rfl; (with_reducible repeat (first | refine blk_drewN ?_ _ | refine blk_drew ?_ | refine blk_alloc ?_ _)); exact BK226.out) hb); replace HB := qH hb; have z70_0 := bk6 BK226.out; generalize hw_ : w69.setCell ⟨gb226, 1, none⟩ (.int .i64 t232) = w71; have hw := hw_.symm; clear hw_; have n0_ : Aside0 (Kd.V (Kd.int .i64) 3 w71 w.heap.size (fun k_ => (P1_5_ k_ ∨ w.heap.size ≤ k_) ∧ k_ ≠ gb225 ∧ k_ ≠ gb226) (.slice A1_5 l1_5.length c1_5) l1_5) := ⟨(by rw [hw]; exact (by (with_reducible repeat (first | apply Kd.V_alloc | apply Kd.V_drewN | apply Kd.V_drew)); exact Kd.V_mono (Kd.V_far (p := ⟨gb226, 1, none⟩) (Kd.V_mono HO1_5.out (fun k_ hk => (⟨hk, hk.2⟩ : _ ∧ k_ ≠ gb226))) (fun _ hk => hk.2) (.int .i64 t232)) (fun _ hk => ⟨hk.1.1.1, ⟨hk.1.1.2, hk.1.2⟩⟩)))⟩; have n1_ : Aside0 (w71.heap[gb225]? = some (.cells #[.string a0_0, .int .i64 a0_1, .int .i64 a0_2, .int .i64 a0_3, .slice A0_4 l0_4.length c0_4] 34 (0, 0))) := ⟨(by rw [hw]; exact (by (with_reducible repeat (first | refine blk_drewN ?_ _ | refine blk_drew ?_ | refine blk_alloc ?_ _)); refine blk_far ?_ NB225_226.out _; (with_reducible repeat (first | refine blk_drewN ?_ _ | refine blk_drew ?_ | refine blk_alloc ?_ _)); exact BK225.out))⟩; have n2_ : Aside0 (w71.heap[gb226]? = some (.cells #[.int .i64 a1_0, .int .i64 t232, .int .i64 a1_2, .int .i64 t231, .string a1_4, .slice A1_5 l1_5.length c1_5] 31 (0, 0))) := ⟨(by rw [hw]; exact (by (with_reducible repeat (first | refine blk_drewN ?_ _ | refine blk_drew ?_ | refine blk_alloc ?_ _)); refine blk_put (cs := #[.int .i64 a1_0, .int .i64 a1_1, .int .i64 a1_2, .int .i64 t231, .string a1_4, .slice A1_5 l1_5.length c1_5]) ?_ 1 _ rfl; (with_reducible repeat (first | refine blk_drewN ?_ _ | refine blk_drew ?_ | refine blk_alloc ?_ _)); exact BK226.out))⟩; have n3_ : Aside0 (Below w.heap.size w w71) := ⟨(by rw [hw]; exact qB)⟩; clear hw; clear HO1_5; clear BK225; clear BK226; clear HB; have HO1_5 := n0_; have BK225 := n1_; have BK226 := n2_; have HB := n3_; clear n0_ n1_ n2_ n3_; have z72_0 := bk6 BK226.out) | ((with_reducible refine gate_dst (N := 101) rfl ?_); (try (refine gate_guard (by rfl) ?_; dsimp only)); refine Kd.N_lit kIns _ 31 ?hg (N' := 101) ?hd (xs := ([(⟨a1_0, t232, a1_2, t231, a1_4, l1_5⟩ : SIns)] : List (SIns))) (inner := [.int .i64 a1_0, .int .i64 t232, .int .i64 a1_2, .int .i64 t231, .string a1_4, .slice A1_5 l1_5.length c1_5]) (ok := (fun k_ => (P1_5_ k_ ∨ w.heap.size ≤ k_) ∧ k_ ≠ gb225 ∧ k_ ≠ gb226)) (okp := (fun k_ => (P1_5_ k_ ∨ w.heap.size ≤ k_) ∧ k_ ≠ gb225 ∧ k_ ≠ gb226)) ?hr ?hp (fun _ hk => hk) ((show ∀ k_, w71.heap.size ≤ k_ → (fun k_ => (P1_5_ k_ ∨ w.heap.size ≤ k_) ∧ k_ ≠ gb225 ∧ k_ ≠ gb226) k_ from fun k_ hk => ⟨(.inr (Nat.le_trans (below_size qB) hk)), Kd.freshB (g := gb225) (o := .cells #[.string a0_0, .int .i64 a0_1, .int .i64 a0_2, .int .i64 a0_3, .slice A0_4 l0_4.length c0_4] 34 (0, 0)) (qK BK225.out) k_ hk, Kd.freshB (g := gb226) (o := .cells #[.int .i64 a1_0, .int .i64 t232, .int .i64 a1_2, .int .i64 t231, .string a1_4, .slice A1_5 l1_5.length c1_5] 31 (0, 0)) (qK BK226.out) k_ hk⟩) _ (Nat.le_refl _)) (Below.refl _ _) (Nat.le_refl _) (by simp) ?_; (case hd => rfl); (case hg => rfl); (case hr => go_simp <;> rfl); (case hp => exact (Reps.c6 (show Kd.FK kIns _ _ (⟨a1_0, t232, a1_2, t231, a1_4, l1_5⟩ : SIns) [.int .i64 a1_0, .int .i64 t232, .int .i64 a1_2, .int .i64 t231, .string a1_4, .slice A1_5 l1_5.length c1_5] from (kIns_mkF _ _ (⟨a1_0, t232, a1_2, t231, a1_4, l1_5⟩ : SIns) (Kd.V_reads' (Kd.V_mono (ok' := (fun k_ => (P1_5_ k_ ∨ w.heap.size ≤ k_) ∧ k_ ≠ gb225 ∧ k_ ≠ gb226)) (HO1_5.out) (fun k_ hk => ⟨hk.1, ⟨hk.2.1, hk.2.2⟩⟩))).2.1 (Kd.V_F (Kd.V_mono (ok' := (fun k_ => (P1_5_ k_ ∨ w.heap.size ≤ k_) ∧ k_ ≠ gb225 ∧ k_ ≠ gb226)) (HO1_5.out) (fun k_ hk => ⟨hk.1, ⟨hk.2.1, hk.2.2⟩⟩))))) (Reps.none _ _))); intro v234 w73 ho74 hb hg_ hnew_; clear hg_ hnew_; (first | rw [← Ny233.out] at ho74 | (simp only [Int.reduceToNat] at ho74; rw [← Ny233.out] at ho74)); replace HO1_5 := zA (Kd.V_elder' (qV HO1_5.out) (Kd.N_base ho74) hb); have HO235 := zA (Kd.N_lower ho74 (below_size qB)); replace BK225 := qW BK225 hb; replace BK226 := qW BK226 hb; replace HB := qH hb; clear hb ho74) | ((with_reducible refine gate_builtin (b := .append) (xs := #[.tmp 104, .tmp 106]) rfl ?_); (try (refine gate_guard (by rfl) ?_; dsimp only)); at_builtin; refine Kd.N_append kIns (w0 := w) w.heap.size rfl (.tmp 104) (.tmp 106) 28 31 (.agg #[(.int .i64 0), (.int .i64 0), (.int .i64 0), (.int .i64 0), (.string ⟨#[]⟩), (.slice none 0 0)]) 72 rfl Tryd.underlying28 info31 rfl (by decide) (by omega) v234 y233 (⟨12, 0, 0, 0, (⟨#[]⟩ : ByteArray), ([] : List Int)⟩ : SIns) [.int .i64 12, .int .i64 0, .int .i64 0, .int .i64 0, .string (⟨#[]⟩ : ByteArray), .slice none 0 0] (fun k_ => (P1_5_ k_ ∨ w.heap.size ≤ k_) ∧ k_ ≠ gb225 ∧ k_ ≠ gb226) (fun k_ => ((fun k_ => (P1_5_ k_ ∨ w.heap.size ≤ k_) ∧ k_ ≠ gb225 ∧ k_ ≠ gb226)) k_ ∧ some k_ ≠ (v234 : Value).ownBlock) rfl rfl ?aP (fun _ hk => hk) ?aF ?aO ?aB ?aS ?aL ?_; (case aP => exact (kIns_mkF _ _ (⟨12, 0, 0, 0, (⟨#[]⟩ : ByteArray), ([] : List Int)⟩ : SIns) (Nat.le_refl _) (Kd.F_nil _ _ _))); (case aB => exact qB); (case aF => exact (fun k_ hk => ⟨(.inr (Nat.le_trans (below_size qB) hk)), Kd.freshB (g := gb225) (o := .cells #[.string a0_0, .int .i64 a0_1, .int .i64 a0_2, .int .i64 a0_3, .slice A0_4 l0_4.length c0_4] 34 (0, 0)) (qK BK225.out) k_ hk, Kd.freshB (g := gb226) (o := .cells #[.int .i64 a1_0, .int .i64 t232, .int .i64 a1_2, .int .i64 t231, .string a1_4, .slice A1_5 l1_5.length c1_5] 31 (0, 0)) (qK BK226.out) k_ hk⟩)); (case aO => exact (qN HO235.out)); (case aS => exact (below_size qB)); (case aL => have := LMc61.out; omega); intro v241 w75 ho hb hg hat; rw [← Ny240.out] at ho; replace HO1_5 := zA (Kd.V_afterv (ok := (fun k_ => (P1_5_ k_ ∨ w.heap.size ≤ k_) ∧ k_ ≠ gb225 ∧ k_ ≠ gb226)) (qV HO1_5.out) hg hat); replace BK225 := zA (blk_grown (qK BK225.out) hg (Kd.N_ne HO235.out BK225.out (by decide))); replace BK226 := zA (blk_grown (qK BK226.out) hg (Kd.N_away HO235.out (fun _ hk => hk.2.2))); replace HB := zA (hb); have HO242 := zA (ho); clear HO235; clear ho hb hg hat; have z76_0 := bk5 BK225.out; obtain ⟨Ao77, co77, eo77⟩ := Kd.N_slice HO242.out; subst eo77) | ((with_reducible refine gate_dst (N := 111) rfl ?_); (try (refine gate_guard (by rfl) ?_; dsimp only)); refine Kd.N_lit (Kd.slice 31 kIns) _ 28 ?hg (N' := 111) ?hd (xs := ([y240] : List (List (SIns)))) (inner := [.slice Ao77 y240.length co77]) (ok := (fun k_ => (P1_5_ k_ ∨ w.heap.size ≤ k_) ∧ k_ ≠ gb225 ∧ k_ ≠ gb226)) (okp := (fun k_ => (P1_5_ k_ ∨ w.heap.size ≤ k_) ∧ k_ ≠ gb225 ∧ k_ ≠ gb226)) ?hr ?hp (fun _ hk => hk) ((show ∀ k_, w75.heap.size ≤ k_ → (fun k_ => (P1_5_ k_ ∨ w.heap.size ≤ k_) ∧ k_ ≠ gb225 ∧ k_ ≠ gb226) k_ from fun k_ hk => ⟨(.inr (Nat.le_trans (below_size qB) hk)), Kd.freshB (g := gb225) (o := .cells #[.string a0_0, .int .i64 a0_1, .int .i64 a0_2, .int .i64 a0_3, .slice A0_4 l0_4.length c0_4] 34 (0, 0)) (qK BK225.out) k_ hk, Kd.freshB (g := gb226) (o := .cells #[.int .i64 a1_0, .int .i64 t232, .int .i64 a1_2, .int .i64 t231, .string a1_4, .slice A1_5 l1_5.length c1_5] 31 (0, 0)) (qK BK226.out) k_ hk⟩) _ (Nat.le_refl _)) (Below.refl _ _) (Nat.le_refl _) (by simp) ?_; (case hd => rfl); (case hg => rfl); (case hr => go_simp <;> rfl); (case hp => exact (Reps.one (show Kd.FK (Kd.slice 31 kIns) _ _ y240 [.slice Ao77 y240.length co77] from (Kd.FK_slice_mk (Kd.N_reads' (Kd.N_mono (ok' := (fun k_ => (P1_5_ k_ ∨ w.heap.size ≤ k_) ∧ k_ ≠ gb225 ∧ k_ ≠ gb226)) (HO242.out) (fun k_ hk => ⟨hk.1, ⟨hk.2.1, hk.2.2⟩⟩))).2.1 (Kd.N_F (Kd.N_mono (ok' := (fun k_ => (P1_5_ k_ ∨ w.heap.size ≤ k_) ∧ k_ ≠ gb225 ∧ k_ ≠ gb226)) (HO242.out) (fun k_ hk => ⟨hk.1, ⟨hk.2.1, hk.2.2⟩⟩))))) (Reps.none _ _))); intro v244 w78 ho79 hb hg_ hnew_; clear hg_ hnew_; (first | rw [← Ny243.out] at ho79 | (simp only [Int.reduceToNat] at ho79; rw [← Ny243.out] at ho79)); replace HO1_5 := zA (Kd.V_elder' (qV HO1_5.out) (Kd.N_base ho79) hb); have HO245 := zA (Kd.N_lower ho79 (below_size qB)); replace BK225 := qW BK225 hb; replace BK226 := qW BK226 hb; replace HB := qH hb; clear HO242; clear hb ho79; obtain ⟨Ao80, co80, eo80⟩ := Kd.N_slice HO245.out; subst eo80) | (go_at_call 6; (with_reducible refine (ir_Check.calls k (⟨#[102]⟩ : ByteArray) 0 a0_2 _ _ y243 t246 _ ?side1 ?side2 A62.out (hL := ?side99)).mono ?_); (case side1 => repeat (first | exact (Kd.N_reads' HO245.out).2.2 | (with_reducible refine Kd.C_alloc ?_ _) | (with_reducible refine Kd.C_drewN ?_ _) | (with_reducible refine Kd.C_drew ?_))); (case side2 => exact (Kd.N_reads' HO245.out).2.1); (case side99 => exact LaidW.below HLd.out qB); rintro e w81 ⟨rfl, hb⟩; replace HO1_5 := zA (Kd.V_below (qV HO1_5.out) hb); replace HO245 := zA (Kd.N_below (qN HO245.out) hb); replace BK225 := qW BK225 hb; replace BK226 := qW BK226 hb; replace HB := qH hb; (try clear hb)))
        repeat (go_quiet (first | (go_at_call 32; (with_reducible refine (mach_one_1.to a0_0 a0_1 a0_2 a0_3 A0_4 c0_4 l0_4 a1_3 t231 _ ?side1 ?side2 A39.out (hbk := ?side3) (hx := ?side4) (hf := ?side5)).mono ?_); (case side1 => exact qCB HR0_4.out); (case side2 => exact HC0_4.out); (case side3 => exact (qK BK225.out)); (case side4 => exact (blk_cell (show _ = some (Obj.cells #[.int .i64 a1_0, .int .i64 a1_1, .int .i64 a1_2, .int .i64 a1_3, .string a1_4, .slice A1_5 l1_5.length c1_5] 31 (0, 0)) from (qK BK226.out)) 3).trans rfl); (case side5 => exact blk_frozen (show _ = some (Obj.cells #[.int .i64 a1_0, .int .i64 a1_1, .int .i64 a1_2, .int .i64 a1_3, .string a1_4, .slice A1_5 l1_5.length c1_5] 31 (0, 0)) from (qK BK226.out)) 3); rintro e w_ ⟨rfl, w66, hb, rfl⟩; replace HO1_5 := zA (Kd.V_below (qV HO1_5.out) hb); replace BK225 := qW BK225 hb; replace BK226 := qW BK226 hb; replace HB := qH hb; (try clear hb); have z67_0 := bk6 BK226.out; have z68_0 := bk5 BK225.out) | (go_at_call 32; (with_reducible refine (mach_one_1.to a0_0 a0_1 a0_2 a0_3 A0_4 c0_4 l0_4 a1_1 t232 _ ?side1 ?side2 A40.out (hbk := ?side3) (hx := ?side4) (hf := ?side5)).mono ?_); (case side1 => exact Kd.C_below HR0_4.out qB); (case side2 => exact HC0_4.out); (case side3 => exact (by (with_reducible repeat (first | refine blk_drewN ?_ _ | refine blk_drew ?_ | refine blk_alloc ?_ _)); refine blk_far ?_ NB225_226.out _; (with_reducible repeat (first | refine blk_drewN ?_ _ | refine blk_drew ?_ | refine blk_alloc ?_ _)); exact BK225.out)); (case side4 => exact (blk_cell (show _ = some (Obj.cells #[.int .i64 a1_0, .int .i64 a1_1, .int .i64 a1_2, .int .i64 t231, .string a1_4, .slice A1_5 l1_5.length c1_5] 31 (0, 0)) from (by (with_reducible repeat (first | refine blk_drewN ?_ _ | refine blk_drew ?_ | refine blk_alloc ?_ _)); refine blk_put (cs := #[.int .i64 a1_0, .int .i64 a1_1, .int .i64 a1_2, .int .i64 a1_3, .string a1_4, .slice A1_5 l1_5.length c1_5]) ?_ 3 _ rfl; (with_reducible repeat (first | refine blk_drewN ?_ _ | refine blk_drew ?_ | refine blk_alloc ?_ _)); exact BK226.out)) 1).trans rfl); (case side5 => exact blk_frozen (show _ = some (Obj.cells #[.int .i64 a1_0, .int .i64 a1_1, .int .i64 a1_2, .int .i64 t231, .string a1_4, .slice A1_5 l1_5.length c1_5] 31 (0, 0)) from (by (with_reducible repeat (first | refine blk_drewN ?_ _ | refine blk_drew ?_ | refine blk_alloc ?_ _)); refine blk_put (cs := #[.int .i64 a1_0, .int .i64 a1_1, .int .i64 a1_2, .int .i64 a1_3, .string a1_4, .slice A1_5 l1_5.length c1_5]) ?_ 3 _ rfl; (with_reducible repeat (first | refine blk_drewN ?_ _ | refine blk_drew ?_ | refine blk_alloc ?_ _)); exact BK226.out)) 1); rintro e w_ ⟨rfl, w69, hb, rfl⟩; replace HO1_5 := zA (Kd.V_below (by (with_reducible repeat (first | apply Kd.V_alloc | apply Kd.V_drewN | apply Kd.V_drew)); exact (Kd.V_mono (Kd.V_far (p := ⟨gb226, 3, none⟩) (Kd.V_mono HO1_5.out (fun k_ hk => (⟨hk, hk.2⟩ : _ ∧ k_ ≠ gb226))) (fun _ hk => hk.2) (.int .i64 t231)) (fun _ h_ => h_.1))) hb); replace BK225 := zA (blk_below (g := gb225) (o := .cells #[.string a0_0, .int .i64 a0_1, .int .i64 a0_2, .int .i64 a0_3, .slice A0_4 l0_4.length c0_4] 34 (0, 0)) (by (with_reducible repeat (first | refine blk_drewN ?_ _ | refine blk_drew ?_ | refine blk_alloc ?_ _)); refine blk_far ?_ NB225_226.out _; (with_reducible repeat (first | refine blk_drewN ?_ _ | refine blk_drew ?_ | refine blk_alloc ?_ _)); exact BK225.out) hb); replace BK226 := zA (blk_below (g := gb226) (o := .cells #[.int .i64 a1_0, .int .i64 a1_1, .int .i64 a1_2, .int .i64 t231, .string a1_4, .slice A1_5 l1_5.length c1_5] 31 (0, 0)) (by (with_reducible repeat (first | refine blk_drewN ?_ _ | refine blk_drew ?_ | refine blk_alloc ?_ _)); refine blk_put (cs := #[.int .i64 a1_0, .int .i64 a1_1, .int .i64 a1_2, .int .i64 a1_3, .string a1_4, .slice A1_5 l1_5.length c1_5]) ?_ 3 _ rfl; (with_reducible repeat (first | refine blk_drewN ?_ _ | refine blk_drew ?_ | refine blk_alloc ?_ _)); exact BK226.out) hb); replace HB := qH hb; have z70_0 := bk6 BK226.out; generalize hw_ : w69.setCell ⟨gb226, 1, none⟩ (.int .i64 t232) = w71; have hw := hw_.symm; clear hw_; have n0_ : Aside0 (Kd.V (Kd.int .i64) 3 w71 w.heap.size (fun k_ => (P1_5_ k_ ∨ w.heap.size ≤ k_) ∧ k_ ≠ gb225 ∧ k_ ≠ gb226) (.slice A1_5 l1_5.length c1_5) l1_5) := ⟨(by rw [hw]; exact (by (with_reducible repeat (first | apply Kd.V_alloc | apply Kd.V_drewN | apply Kd.V_drew)); exact Kd.V_mono (Kd.V_far (p := ⟨gb226, 1, none⟩) (Kd.V_mono HO1_5.out (fun k_ hk => (⟨hk, hk.2⟩ : _ ∧ k_ ≠ gb226))) (fun _ hk => hk.2) (.int .i64 t232)) (fun _ hk => ⟨hk.1.1.1, ⟨hk.1.1.2, hk.1.2⟩⟩)))⟩; have n1_ : Aside0 (w71.heap[gb225]? = some (.cells #[.string a0_0, .int .i64 a0_1, .int .i64 a0_2, .int .i64 a0_3, .slice A0_4 l0_4.length c0_4] 34 (0, 0))) := ⟨(by rw [hw]; exact (by (with_reducible repeat (first | refine blk_drewN ?_ _ | refine blk_drew ?_ | refine blk_alloc ?_ _)); refine blk_far ?_ NB225_226.out _; (with_reducible repeat (first | refine blk_drewN ?_ _ | refine blk_drew ?_ | refine blk_alloc ?_ _)); exact BK225.out))⟩; have n2_ : Aside0 (w71.heap[gb226]? = some (.cells #[.int .i64 a1_0, .int .i64 t232, .int .i64 a1_2, .int .i64 t231, .string a1_4, .slice A1_5 l1_5.length c1_5] 31 (0, 0))) := ⟨(by rw [hw]; exact (by (with_reducible repeat (first | refine blk_drewN ?_ _ | refine blk_drew ?_ | refine blk_alloc ?_ _)); refine blk_put (cs := #[.int .i64 a1_0, .int .i64 a1_1, .int .i64 a1_2, .int .i64 t231, .string a1_4, .slice A1_5 l1_5.length c1_5]) ?_ 1 _ rfl; (with_reducible repeat (first | refine blk_drewN ?_ _ | refine blk_drew ?_ | refine blk_alloc ?_ _)); exact BK226.out))⟩; have n3_ : Aside0 (Below w.heap.size w w71) := ⟨(by rw [hw]; exact qB)⟩; clear hw; clear HO1_5; clear BK225; clear BK226; clear HB; have HO1_5 := n0_; have BK225 := n1_; have BK226 := n2_; have HB := n3_; clear n0_ n1_ n2_ n3_; have z72_0 := bk6 BK226.out) | ((with_reducible refine gate_dst (N := 101) rfl ?_); (try (refine gate_guard (by rfl) ?_; dsimp only)); refine Kd.N_lit kIns _ 31 ?hg (N' := 101) ?hd (xs := ([(⟨a1_0, t232, a1_2, t231, a1_4, l1_5⟩ : SIns)] : List (SIns))) (inner := [.int .i64 a1_0, .int .i64 t232, .int .i64 a1_2, .int .i64 t231, .string a1_4, .slice A1_5 l1_5.length c1_5]) (ok := (fun k_ => (P1_5_ k_ ∨ w.heap.size ≤ k_) ∧ k_ ≠ gb225 ∧ k_ ≠ gb226)) (okp := (fun k_ => (P1_5_ k_ ∨ w.heap.size ≤ k_) ∧ k_ ≠ gb225 ∧ k_ ≠ gb226)) ?hr ?hp (fun _ hk => hk) ((show ∀ k_, w71.heap.size ≤ k_ → (fun k_ => (P1_5_ k_ ∨ w.heap.size ≤ k_) ∧ k_ ≠ gb225 ∧ k_ ≠ gb226) k_ from fun k_ hk => ⟨(.inr (Nat.le_trans (below_size qB) hk)), Kd.freshB (g := gb225) (o := .cells #[.string a0_0, .int .i64 a0_1, .int .i64 a0_2, .int .i64 a0_3, .slice A0_4 l0_4.length c0_4] 34 (0, 0)) (qK BK225.out) k_ hk, Kd.freshB (g := gb226) (o := .cells #[.int .i64 a1_0, .int .i64 t232, .int .i64 a1_2, .int .i64 t231, .string a1_4, .slice A1_5 l1_5.length c1_5] 31 (0, 0)) (qK BK226.out) k_ hk⟩) _ (Nat.le_refl _)) (Below.refl _ _) (Nat.le_refl _) (by simp) ?_; (case hd => rfl); (case hg => rfl); (case hr => go_simp <;> rfl); (case hp => exact (Reps.c6 (show Kd.FK kIns _ _ (⟨a1_0, t232, a1_2, t231, a1_4, l1_5⟩ : SIns) [.int .i64 a1_0, .int .i64 t232, .int .i64 a1_2, .int .i64 t231, .string a1_4, .slice A1_5 l1_5.length c1_5] from (kIns_mkF _ _ (⟨a1_0, t232, a1_2, t231, a1_4, l1_5⟩ : SIns) (Kd.V_reads' (Kd.V_mono (ok' := (fun k_ => (P1_5_ k_ ∨ w.heap.size ≤ k_) ∧ k_ ≠ gb225 ∧ k_ ≠ gb226)) (HO1_5.out) (fun k_ hk => ⟨hk.1, ⟨hk.2.1, hk.2.2⟩⟩))).2.1 (Kd.V_F (Kd.V_mono (ok' := (fun k_ => (P1_5_ k_ ∨ w.heap.size ≤ k_) ∧ k_ ≠ gb225 ∧ k_ ≠ gb226)) (HO1_5.out) (fun k_ hk => ⟨hk.1, ⟨hk.2.1, hk.2.2⟩⟩))))) (Reps.none _ _))); intro v234 w73 ho74 hb hg_ hnew_; clear hg_ hnew_; (first | rw [← Ny233.out] at ho74 | (simp only [Int.reduceToNat] at ho74; rw [← Ny233.out] at ho74)); replace HO1_5 := zA (Kd.V_elder' (qV HO1_5.out) (Kd.N_base ho74) hb); have HO235 := zA (Kd.N_lower ho74 (below_size qB)); replace BK225 := qW BK225 hb; replace BK226 := qW BK226 hb; replace HB := qH hb; clear hb ho74) | ((with_reducible refine gate_builtin (b := .append) (xs := #[.tmp 104, .tmp 106]) rfl ?_); (try (refine gate_guard (by rfl) ?_; dsimp only)); at_builtin; refine Kd.N_append kIns (w0 := w) w.heap.size rfl (.tmp 104) (.tmp 106) 28 31 (.agg #[(.int .i64 0), (.int .i64 0), (.int .i64 0), (.int .i64 0), (.string ⟨#[]⟩), (.slice none 0 0)]) 72 rfl Tryd.underlying28 info31 rfl (by decide) (by omega) v234 y233 (⟨12, 0, 0, 0, (⟨#[]⟩ : ByteArray), ([] : List Int)⟩ : SIns) [.int .i64 12, .int .i64 0, .int .i64 0, .int .i64 0, .string (⟨#[]⟩ : ByteArray), .slice none 0 0] (fun k_ => (P1_5_ k_ ∨ w.heap.size ≤ k_) ∧ k_ ≠ gb225 ∧ k_ ≠ gb226) (fun k_ => ((fun k_ => (P1_5_ k_ ∨ w.heap.size ≤ k_) ∧ k_ ≠ gb225 ∧ k_ ≠ gb226)) k_ ∧ some k_ ≠ (v234 : Value).ownBlock) rfl rfl ?aP (fun _ hk => hk) ?aF ?aO ?aB ?aS ?aL ?_; (case aP => exact (kIns_mkF _ _ (⟨12, 0, 0, 0, (⟨#[]⟩ : ByteArray), ([] : List Int)⟩ : SIns) (Nat.le_refl _) (Kd.F_nil _ _ _))); (case aB => exact qB); (case aF => exact (fun k_ hk => ⟨(.inr (Nat.le_trans (below_size qB) hk)), Kd.freshB (g := gb225) (o := .cells #[.string a0_0, .int .i64 a0_1, .int .i64 a0_2, .int .i64 a0_3, .slice A0_4 l0_4.length c0_4] 34 (0, 0)) (qK BK225.out) k_ hk, Kd.freshB (g := gb226) (o := .cells #[.int .i64 a1_0, .int .i64 t232, .int .i64 a1_2, .int .i64 t231, .string a1_4, .slice A1_5 l1_5.length c1_5] 31 (0, 0)) (qK BK226.out) k_ hk⟩)); (case aO => exact (qN HO235.out)); (case aS => exact (below_size qB)); (case aL => have := LMc61.out; omega); intro v241 w75 ho hb hg hat; rw [← Ny240.out] at ho; replace HO1_5 := zA (Kd.V_afterv (ok := (fun k_ => (P1_5_ k_ ∨ w.heap.size ≤ k_) ∧ k_ ≠ gb225 ∧ k_ ≠ gb226)) (qV HO1_5.out) hg hat); replace BK225 := zA (blk_grown (qK BK225.out) hg (Kd.N_ne HO235.out BK225.out (by decide))); replace BK226 := zA (blk_grown (qK BK226.out) hg (Kd.N_away HO235.out (fun _ hk => hk.2.2))); replace HB := zA (hb); have HO242 := zA (ho); clear HO235; clear ho hb hg hat; have z76_0 := bk5 BK225.out; obtain ⟨Ao77, co77, eo77⟩ := Kd.N_slice HO242.out; subst eo77) | ((with_reducible refine gate_dst (N := 111) rfl ?_); (try (refine gate_guard (by rfl) ?_; dsimp only)); refine Kd.N_lit (Kd.slice 31 kIns) _ 28 ?hg (N' := 111) ?hd (xs := ([y240] : List (List (SIns)))) (inner := [.slice Ao77 y240.length co77]) (ok := (fun k_ => (P1_5_ k_ ∨ w.heap.size ≤ k_) ∧ k_ ≠ gb225 ∧ k_ ≠ gb226)) (okp := (fun k_ => (P1_5_ k_ ∨ w.heap.size ≤ k_) ∧ k_ ≠ gb225 ∧ k_ ≠ gb226)) ?hr ?hp (fun _ hk => hk) ((show ∀ k_, w75.heap.size ≤ k_ → (fun k_ => (P1_5_ k_ ∨ w.heap.size ≤ k_) ∧ k_ ≠ gb225 ∧ k_ ≠ gb226) k_ from fun k_ hk => ⟨(.inr (Nat.le_trans (below_size qB) hk)), Kd.freshB (g := gb225) (o := .cells #[.string a0_0, .int .i64 a0_1, .int .i64 a0_2, .int .i64 a0_3, .slice A0_4 l0_4.length c0_4] 34 (0, 0)) (qK BK225.out) k_ hk, Kd.freshB (g := gb226) (o := .cells #[.int .i64 a1_0, .int .i64 t232, .int .i64 a1_2, .int .i64 t231, .string a1_4, .slice A1_5 l1_5.length c1_5] 31 (0, 0)) (qK BK226.out) k_ hk⟩) _ (Nat.le_refl _)) (Below.refl _ _) (Nat.le_refl _) (by simp) ?_; (case hd => rfl); (case hg => rfl); (case hr => go_simp <;> rfl); (case hp => exact (Reps.one (show Kd.FK (Kd.slice 31 kIns) _ _ y240 [.slice Ao77 y240.length co77] from (Kd.FK_slice_mk (Kd.N_reads' (Kd.N_mono (ok' := (fun k_ => (P1_5_ k_ ∨ w.heap.size ≤ k_) ∧ k_ ≠ gb225 ∧ k_ ≠ gb226)) (HO242.out) (fun k_ hk => ⟨hk.1, ⟨hk.2.1, hk.2.2⟩⟩))).2.1 (Kd.N_F (Kd.N_mono (ok' := (fun k_ => (P1_5_ k_ ∨ w.heap.size ≤ k_) ∧ k_ ≠ gb225 ∧ k_ ≠ gb226)) (HO242.out) (fun k_ hk => ⟨hk.1, ⟨hk.2.1, hk.2.2⟩⟩))))) (Reps.none _ _))); intro v244 w78 ho79 hb hg_ hnew_; clear hg_ hnew_; (first | rw [← Ny243.out] at ho79 | (simp only [Int.reduceToNat] at ho79; rw [← Ny243.out] at ho79)); replace HO1_5 := zA (Kd.V_elder' (qV HO1_5.out) (Kd.N_base ho79) hb); have HO245 := zA (Kd.N_lower ho79 (below_size qB)); replace BK225 := qW BK225 hb; replace BK226 := qW BK226 hb; replace HB := qH hb; clear HO242; clear hb ho79; obtain ⟨Ao80, co80, eo80⟩ := Kd.N_slice HO245.out; subst eo80) | (go_at_call 6; (with_reducible refine (ir_Check.calls k (⟨#[102]⟩ : ByteArray) 0 a0_2 _ _ y243 t246 _ ?side1 ?side2 A62.out (hL := ?side99)).mono ?_); (case side1 => repeat (first | exact (Kd.N_reads' HO245.out).2.2 | (with_reducible refine Kd.C_alloc ?_ _) | (with_reducible refine Kd.C_drewN ?_ _) | (with_reducible refine Kd.C_drew ?_))); (case side2 => exact (Kd.N_reads' HO245.out).2.1); (case side99 => exact LaidW.below HLd.out qB); rintro e w81 ⟨rfl, hb⟩; replace HO1_5 := zA (Kd.V_below (qV HO1_5.out) hb); replace HO245 := zA (Kd.N_below (qN HO245.out) hb); replace BK225 := qW BK225 hb; replace BK226 := qW BK226 hb; replace HB := qH hb; (try clear hb))); try go_wp2_with (first | (go_at_call 32; (with_reducible refine (mach_one_1.calls a0_0 a0_1 a0_2 a0_3 _ _ l0_4 a1_3 t231 _ ?side1 ?side2 A39.out).mono ?_); (case side1 => exact qCB HR0_4.out); (case side2 => exact HC0_4.out); rintro e w66 ⟨rfl, hb⟩; replace HO1_5 := zA (Kd.V_below (qV HO1_5.out) hb); replace BK225 := qW BK225 hb; replace BK226 := qW BK226 hb; replace HB := qH hb; (try clear hb); have z67_0 := bk6 BK226.out; have z68_0 := bk5 BK225.out) | (go_at_call 32; (with_reducible refine (mach_one_1.calls a0_0 a0_1 a0_2 a0_3 _ _ l0_4 a1_1 t232 _ ?side1 ?side2 A40.out).mono ?_); (case side1 => exact Kd.C_below HR0_4.out qB); (case side2 => exact HC0_4.out); rintro e w69 ⟨rfl, hb⟩; replace HO1_5 := zA (Kd.V_below (by (with_reducible repeat (first | apply Kd.V_alloc | apply Kd.V_drewN | apply Kd.V_drew)); exact (Kd.V_mono (Kd.V_far (p := ⟨gb226, 3, none⟩) (Kd.V_mono HO1_5.out (fun k_ hk => (⟨hk, hk.2⟩ : _ ∧ k_ ≠ gb226))) (fun _ hk => hk.2) (.int .i64 t231)) (fun _ h_ => h_.1))) hb); replace BK225 := zA (blk_below (g := gb225) (o := .cells #[.string a0_0, .int .i64 a0_1, .int .i64 a0_2, .int .i64 a0_3, .slice A0_4 l0_4.length c0_4] 34 (0, 0)) (by (with_reducible repeat (first | refine blk_drewN ?_ _ | refine blk_drew ?_ | refine blk_alloc ?_ _)); refine blk_far ?_ NB225_226.out _; (with_reducible repeat (first | refine blk_drewN ?_ _ | refine blk_drew ?_ | refine blk_alloc ?_ _)); exact BK225.out) hb); replace BK226 := zA (blk_below (g := gb226) (o := .cells #[.int .i64 a1_0, .int .i64 a1_1, .int .i64 a1_2, .int .i64 t231, .string a1_4, .slice A1_5 l1_5.length c1_5] 31 (0, 0)) (by (with_reducible repeat (first | refine blk_drewN ?_ _ | refine blk_drew ?_ | refine blk_alloc ?_ _)); refine blk_put (cs := #[.int .i64 a1_0, .int .i64 a1_1, .int .i64 a1_2, .int .i64 a1_3, .string a1_4, .slice A1_5 l1_5.length c1_5]) ?_ 3 _ rfl; (with_reducible repeat (first | refine blk_drewN ?_ _ | refine blk_drew ?_ | refine blk_alloc ?_ _)); exact BK226.out) hb); replace HB := qH hb; have z70_0 := bk6 BK226.out) | ((with_reducible refine gate_store (t := 3) (p := 93) rfl ?_); (try (rw [drewN_self w69]; generalize hq_ : World.drewN w69 _ = w69; have n0_ := zA (Kd.V_at hq_ HO1_5.out); have n1_ := zA (blk_at hq_ BK225.out); have n2_ := zA (blk_at hq_ BK226.out); have n3_ := zA (below_at hq_ HB.out); clear hq_ HO1_5 BK225 BK226 HB; have HO1_5 := n0_; have BK225 := n1_; have BK226 := n2_; have HB := n3_; clear n0_ n1_ n2_ n3_)); refine store_event (t := 3) (p := 93) (v := ?vo_w71) (w1 := (w69.setCell ⟨gb226, 1, none⟩ (.int .i64 t232))) (by rfl) (by rfl) (by rfl) ?hr ?_; (case hr => go_simp <;> rfl); intro w71 hw; have n0_ : Aside0 (Kd.V (Kd.int .i64) 3 w71 w.heap.size (fun k_ => (P1_5_ k_ ∨ w.heap.size ≤ k_) ∧ k_ ≠ gb225 ∧ k_ ≠ gb226) (.slice A1_5 l1_5.length c1_5) l1_5) := ⟨(by rw [hw]; exact (by (with_reducible repeat (first | apply Kd.V_alloc | apply Kd.V_drewN | apply Kd.V_drew)); exact Kd.V_mono (Kd.V_far (p := ⟨gb226, 1, none⟩) (Kd.V_mono HO1_5.out (fun k_ hk => (⟨hk, hk.2⟩ : _ ∧ k_ ≠ gb226))) (fun _ hk => hk.2) (.int .i64 t232)) (fun _ hk => ⟨hk.1.1.1, ⟨hk.1.1.2, hk.1.2⟩⟩)))⟩; have n1_ : Aside0 (w71.heap[gb225]? = some (.cells #[.string a0_0, .int .i64 a0_1, .int .i64 a0_2, .int .i64 a0_3, .slice A0_4 l0_4.length c0_4] 34 (0, 0))) := ⟨(by rw [hw]; exact (by (with_reducible repeat (first | refine blk_drewN ?_ _ | refine blk_drew ?_ | refine blk_alloc ?_ _)); refine blk_far ?_ NB225_226.out _; (with_reducible repeat (first | refine blk_drewN ?_ _ | refine blk_drew ?_ | refine blk_alloc ?_ _)); exact BK225.out))⟩; have n2_ : Aside0 (w71.heap[gb226]? = some (.cells #[.int .i64 a1_0, .int .i64 t232, .int .i64 a1_2, .int .i64 t231, .string a1_4, .slice A1_5 l1_5.length c1_5] 31 (0, 0))) := ⟨(by rw [hw]; exact (by (with_reducible repeat (first | refine blk_drewN ?_ _ | refine blk_drew ?_ | refine blk_alloc ?_ _)); refine blk_put (cs := #[.int .i64 a1_0, .int .i64 a1_1, .int .i64 a1_2, .int .i64 t231, .string a1_4, .slice A1_5 l1_5.length c1_5]) ?_ 1 _ rfl; (with_reducible repeat (first | refine blk_drewN ?_ _ | refine blk_drew ?_ | refine blk_alloc ?_ _)); exact BK226.out))⟩; have n3_ : Aside0 (Below w.heap.size w w71) := ⟨(by rw [hw]; exact qB)⟩; clear hw; clear HO1_5; clear BK225; clear BK226; clear HB; have HO1_5 := n0_; have BK225 := n1_; have BK226 := n2_; have HB := n3_; clear n0_ n1_ n2_ n3_; have z72_0 := bk6 BK226.out) | ((with_reducible refine gate_dst (N := 101) rfl ?_); (try (refine gate_guard (by rfl) ?_; dsimp only)); refine Kd.N_lit kIns _ 31 ?hg (N' := 101) ?hd (xs := ([(⟨a1_0, t232, a1_2, t231, a1_4, l1_5⟩ : SIns)] : List (SIns))) (inner := [.int .i64 a1_0, .int .i64 t232, .int .i64 a1_2, .int .i64 t231, .string a1_4, .slice A1_5 l1_5.length c1_5]) (ok := (fun k_ => (P1_5_ k_ ∨ w.heap.size ≤ k_) ∧ k_ ≠ gb225 ∧ k_ ≠ gb226)) (okp := (fun k_ => (P1_5_ k_ ∨ w.heap.size ≤ k_) ∧ k_ ≠ gb225 ∧ k_ ≠ gb226)) ?hr ?hp (fun _ hk => hk) ((show ∀ k_, w71.heap.size ≤ k_ → (fun k_ => (P1_5_ k_ ∨ w.heap.size ≤ k_) ∧ k_ ≠ gb225 ∧ k_ ≠ gb226) k_ from fun k_ hk => ⟨(.inr (Nat.le_trans (below_size qB) hk)), Kd.freshB (g := gb225) (o := .cells #[.string a0_0, .int .i64 a0_1, .int .i64 a0_2, .int .i64 a0_3, .slice A0_4 l0_4.length c0_4] 34 (0, 0)) (qK BK225.out) k_ hk, Kd.freshB (g := gb226) (o := .cells #[.int .i64 a1_0, .int .i64 t232, .int .i64 a1_2, .int .i64 t231, .string a1_4, .slice A1_5 l1_5.length c1_5] 31 (0, 0)) (qK BK226.out) k_ hk⟩) _ (Nat.le_refl _)) (Below.refl _ _) (Nat.le_refl _) (by simp) ?_; (case hd => rfl); (case hg => rfl); (case hr => go_simp <;> rfl); (case hp => exact (Reps.c6 (show Kd.FK kIns _ _ (⟨a1_0, t232, a1_2, t231, a1_4, l1_5⟩ : SIns) [.int .i64 a1_0, .int .i64 t232, .int .i64 a1_2, .int .i64 t231, .string a1_4, .slice A1_5 l1_5.length c1_5] from (kIns_mkF _ _ (⟨a1_0, t232, a1_2, t231, a1_4, l1_5⟩ : SIns) (Kd.V_reads' (Kd.V_mono (ok' := (fun k_ => (P1_5_ k_ ∨ w.heap.size ≤ k_) ∧ k_ ≠ gb225 ∧ k_ ≠ gb226)) (HO1_5.out) (fun k_ hk => ⟨hk.1, ⟨hk.2.1, hk.2.2⟩⟩))).2.1 (Kd.V_F (Kd.V_mono (ok' := (fun k_ => (P1_5_ k_ ∨ w.heap.size ≤ k_) ∧ k_ ≠ gb225 ∧ k_ ≠ gb226)) (HO1_5.out) (fun k_ hk => ⟨hk.1, ⟨hk.2.1, hk.2.2⟩⟩))))) (Reps.none _ _))); intro v234 w73 ho74 hb hg_ hnew_; clear hg_ hnew_; (first | rw [← Ny233.out] at ho74 | (simp only [Int.reduceToNat] at ho74; rw [← Ny233.out] at ho74)); replace HO1_5 := zA (Kd.V_elder' (qV HO1_5.out) (Kd.N_base ho74) hb); have HO235 := zA (Kd.N_lower ho74 (below_size qB)); replace BK225 := qW BK225 hb; replace BK226 := qW BK226 hb; replace HB := qH hb; clear hb ho74) | ((with_reducible refine gate_builtin (b := .append) (xs := #[.tmp 104, .tmp 106]) rfl ?_); (try (refine gate_guard (by rfl) ?_; dsimp only)); at_builtin; refine Kd.N_append kIns (w0 := w) w.heap.size rfl (.tmp 104) (.tmp 106) 28 31 (.agg #[(.int .i64 0), (.int .i64 0), (.int .i64 0), (.int .i64 0), (.string ⟨#[]⟩), (.slice none 0 0)]) 72 rfl Tryd.underlying28 info31 rfl (by decide) (by omega) v234 y233 (⟨12, 0, 0, 0, (⟨#[]⟩ : ByteArray), ([] : List Int)⟩ : SIns) [.int .i64 12, .int .i64 0, .int .i64 0, .int .i64 0, .string (⟨#[]⟩ : ByteArray), .slice none 0 0] (fun k_ => (P1_5_ k_ ∨ w.heap.size ≤ k_) ∧ k_ ≠ gb225 ∧ k_ ≠ gb226) (fun k_ => ((fun k_ => (P1_5_ k_ ∨ w.heap.size ≤ k_) ∧ k_ ≠ gb225 ∧ k_ ≠ gb226)) k_ ∧ some k_ ≠ (v234 : Value).ownBlock) rfl rfl ?aP (fun _ hk => hk) ?aF ?aO ?aB ?aS ?aL ?_; (case aP => exact (kIns_mkF _ _ (⟨12, 0, 0, 0, (⟨#[]⟩ : ByteArray), ([] : List Int)⟩ : SIns) (Nat.le_refl _) (Kd.F_nil _ _ _))); (case aB => exact qB); (case aF => exact (fun k_ hk => ⟨(.inr (Nat.le_trans (below_size qB) hk)), Kd.freshB (g := gb225) (o := .cells #[.string a0_0, .int .i64 a0_1, .int .i64 a0_2, .int .i64 a0_3, .slice A0_4 l0_4.length c0_4] 34 (0, 0)) (qK BK225.out) k_ hk, Kd.freshB (g := gb226) (o := .cells #[.int .i64 a1_0, .int .i64 t232, .int .i64 a1_2, .int .i64 t231, .string a1_4, .slice A1_5 l1_5.length c1_5] 31 (0, 0)) (qK BK226.out) k_ hk⟩)); (case aO => exact (qN HO235.out)); (case aS => exact (below_size qB)); (case aL => have := LMc61.out; omega); intro v241 w75 ho hb hg hat; rw [← Ny240.out] at ho; replace HO1_5 := zA (Kd.V_afterv (ok := (fun k_ => (P1_5_ k_ ∨ w.heap.size ≤ k_) ∧ k_ ≠ gb225 ∧ k_ ≠ gb226)) (qV HO1_5.out) hg hat); replace BK225 := zA (blk_grown (qK BK225.out) hg (Kd.N_ne HO235.out BK225.out (by decide))); replace BK226 := zA (blk_grown (qK BK226.out) hg (Kd.N_away HO235.out (fun _ hk => hk.2.2))); replace HB := zA (hb); have HO242 := zA (ho); clear HO235; clear ho hb hg hat; have z76_0 := bk5 BK225.out; obtain ⟨Ao77, co77, eo77⟩ := Kd.N_slice HO242.out; subst eo77) | ((with_reducible refine gate_dst (N := 111) rfl ?_); (try (refine gate_guard (by rfl) ?_; dsimp only)); refine Kd.N_lit (Kd.slice 31 kIns) _ 28 ?hg (N' := 111) ?hd (xs := ([y240] : List (List (SIns)))) (inner := [.slice Ao77 y240.length co77]) (ok := (fun k_ => (P1_5_ k_ ∨ w.heap.size ≤ k_) ∧ k_ ≠ gb225 ∧ k_ ≠ gb226)) (okp := (fun k_ => (P1_5_ k_ ∨ w.heap.size ≤ k_) ∧ k_ ≠ gb225 ∧ k_ ≠ gb226)) ?hr ?hp (fun _ hk => hk) ((show ∀ k_, w75.heap.size ≤ k_ → (fun k_ => (P1_5_ k_ ∨ w.heap.size ≤ k_) ∧ k_ ≠ gb225 ∧ k_ ≠ gb226) k_ from fun k_ hk => ⟨(.inr (Nat.le_trans (below_size qB) hk)), Kd.freshB (g := gb225) (o := .cells #[.string a0_0, .int .i64 a0_1, .int .i64 a0_2, .int .i64 a0_3, .slice A0_4 l0_4.length c0_4] 34 (0, 0)) (qK BK225.out) k_ hk, Kd.freshB (g := gb226) (o := .cells #[.int .i64 a1_0, .int .i64 t232, .int .i64 a1_2, .int .i64 t231, .string a1_4, .slice A1_5 l1_5.length c1_5] 31 (0, 0)) (qK BK226.out) k_ hk⟩) _ (Nat.le_refl _)) (Below.refl _ _) (Nat.le_refl _) (by simp) ?_; (case hd => rfl); (case hg => rfl); (case hr => go_simp <;> rfl); (case hp => exact (Reps.one (show Kd.FK (Kd.slice 31 kIns) _ _ y240 [.slice Ao77 y240.length co77] from (Kd.FK_slice_mk (Kd.N_reads' (Kd.N_mono (ok' := (fun k_ => (P1_5_ k_ ∨ w.heap.size ≤ k_) ∧ k_ ≠ gb225 ∧ k_ ≠ gb226)) (HO242.out) (fun k_ hk => ⟨hk.1, ⟨hk.2.1, hk.2.2⟩⟩))).2.1 (Kd.N_F (Kd.N_mono (ok' := (fun k_ => (P1_5_ k_ ∨ w.heap.size ≤ k_) ∧ k_ ≠ gb225 ∧ k_ ≠ gb226)) (HO242.out) (fun k_ hk => ⟨hk.1, ⟨hk.2.1, hk.2.2⟩⟩))))) (Reps.none _ _))); intro v244 w78 ho79 hb hg_ hnew_; clear hg_ hnew_; (first | rw [← Ny243.out] at ho79 | (simp only [Int.reduceToNat] at ho79; rw [← Ny243.out] at ho79)); replace HO1_5 := zA (Kd.V_elder' (qV HO1_5.out) (Kd.N_base ho79) hb); have HO245 := zA (Kd.N_lower ho79 (below_size qB)); replace BK225 := qW BK225 hb; replace BK226 := qW BK226 hb; replace HB := qH hb; clear HO242; clear hb ho79; obtain ⟨Ao80, co80, eo80⟩ := Kd.N_slice HO245.out; subst eo80) | (go_at_call 6; (with_reducible refine (ir_Check.calls k (⟨#[102]⟩ : ByteArray) 0 a0_2 _ _ y243 t246 _ ?side1 ?side2 A62.out (hL := ?side99)).mono ?_); (case side1 => repeat (first | exact (Kd.N_reads' HO245.out).2.2 | (with_reducible refine Kd.C_alloc ?_ _) | (with_reducible refine Kd.C_drewN ?_ _) | (with_reducible refine Kd.C_drew ?_))); (case side2 => exact (Kd.N_reads' HO245.out).2.1); (case side99 => exact LaidW.below HLd.out qB); rintro e w81 ⟨rfl, hb⟩; replace HO1_5 := zA (Kd.V_below (qV HO1_5.out) hb); replace HO245 := zA (Kd.N_below (qN HO245.out) hb); replace BK225 := qW BK225 hb; replace BK226 := qW BK226 hb; replace HB := qH hb; (try clear hb))))
        go_ret
        exact ⟨qE, qB⟩
       ·rw [zD c61] at H
        exact absurd H (by simp)
     ·rw [zD c38] at H
      obtain ⟨c38b0, c38b1⟩ := qn c38
      by_cases c82 : a1_0 = 12
      ·rw [zC c82] at H
       obtain ⟨c82b0, c82b1⟩ := qe c82; clear c82
       replace H := qb H; obtain ⟨t247, A83, H⟩ := H
       obtain ⟨y248, hy248⟩ : ∃ y_ : List (SIns), y_ = (([(⟨a1_0, a1_1, t247, a1_3, a1_4, l1_5⟩ : SIns)] : List (SIns))) := ⟨_, rfl⟩
       replace H : (if a2 = true then ((ir_Check.f k (⟨#[102]⟩ : ByteArray) 0 a0_2 (([y248] : List (List (SIns))))).bind fun t254 => (some t254)) else (if y248.length < 1954687338268 then ((ir_Check.f k (⟨#[102]⟩ : ByteArray) 0 a0_2 (([(y248 ++ [(⟨12, 0, 0, 0, (⟨#[]⟩ : ByteArray), ([] : List Int)⟩ : SIns)])] : List (List (SIns))))).bind fun t261 => (some t261)) else (none))) = some r := by (try rw [hy248]); first | with_reducible exact H | exact (zJ _ _).symm.trans H | exact H
       have Ny248 := zA hy248
       clear hy248
       by_cases c84 : a2 = true
       ·subst c84
        have H1 : ((ir_Check.f k (⟨#[102]⟩ : ByteArray) 0 a0_2 (([y248] : List (List (SIns))))).bind fun t254 => (some t254)) = some r := by rw [zC rfl] at H; exact H
        clear H
        have H := H1
        clear H1
        obtain ⟨y251, hy251⟩ : ∃ y_ : List (List (SIns)), y_ = (([y248] : List (List (SIns)))) := ⟨_, rfl⟩
        replace H : ((ir_Check.f k (⟨#[102]⟩ : ByteArray) 0 a0_2 y251).bind fun t254 => (some t254)) = some r := by (try rw [hy251]); first | with_reducible exact H | exact (zJ _ _).symm.trans H | exact H
        have Ny251 := zA hy251
        clear hy251
        replace H := qb H; obtain ⟨t254, A85, H⟩ := H
        obtain rfl := zI H
        have hnb86 := NB226_225.out
        have hnc86 := NB225_226.out
        have z87_0 := bk6 BK226.out
        have z88_0 := bk5 BK225.out
        go_wp2_with (first | (go_at_call 32; (with_reducible refine (mach_one_1.to a0_0 a0_1 a0_2 a0_3 A0_4 c0_4 l0_4 a1_2 t247 _ ?side1 ?side2 A83.out (hbk := ?side3) (hx := ?side4) (hf := ?side5)).mono ?_); (case side1 => exact qCB HR0_4.out); (case side2 => exact HC0_4.out); (case side3 => exact (qK BK225.out)); (case side4 => exact (blk_cell (show _ = some (Obj.cells #[.int .i64 a1_0, .int .i64 a1_1, .int .i64 a1_2, .int .i64 a1_3, .string a1_4, .slice A1_5 l1_5.length c1_5] 31 (0, 0)) from (qK BK226.out)) 2).trans rfl); (case side5 => exact blk_frozen (show _ = some (Obj.cells #[.int .i64 a1_0, .int .i64 a1_1, .int .i64 a1_2, .int .i64 a1_3, .string a1_4, .slice A1_5 l1_5.length c1_5] 31 (0, 0)) from (qK BK226.out)) 2); rintro e w_ ⟨rfl, w89, hb, rfl⟩; replace HO1_5 := zA (Kd.V_below (qV HO1_5.out) hb); replace BK225 := qW BK225 hb; replace BK226 := qW BK226 hb; replace HB := qH hb; (try clear hb); have z90_0 := bk6 BK226.out; generalize hw_ : w89.setCell ⟨gb226, 2, none⟩ (.int .i64 t247) = w91; have hw := hw_.symm; clear hw_; have n0_ : Aside0 (Kd.V (Kd.int .i64) 3 w91 w.heap.size (fun k_ => (P1_5_ k_ ∨ w.heap.size ≤ k_) ∧ k_ ≠ gb225 ∧ k_ ≠ gb226) (.slice A1_5 l1_5.length c1_5) l1_5) := ⟨(by rw [hw]; exact (by (with_reducible repeat (first | apply Kd.V_alloc | apply Kd.V_drewN | apply Kd.V_drew)); exact Kd.V_mono (Kd.V_far (p := ⟨gb226, 2, none⟩) (Kd.V_mono HO1_5.out (fun k_ hk => (⟨hk, hk.2⟩ : _ ∧ k_ ≠ gb226))) (fun _ hk => hk.2) (.int .i64 t247)) (fun _ hk => ⟨hk.1.1.1, ⟨hk.1.1.2, hk.1.2⟩⟩)))⟩; have n1_ : Aside0 (w91.heap[gb225]? = some (.cells #[.string a0_0, .int .i64 a0_1, .int .i64 a0_2, .int .i64 a0_3, .slice A0_4 l0_4.length c0_4] 34 (0, 0))) := ⟨(by rw [hw]; exact (by (with_reducible repeat (first | refine blk_drewN ?_ _ | refine blk_drew ?_ | refine blk_alloc ?_ _)); refine blk_far ?_ NB225_226.out _; (with_reducible repeat (first | refine blk_drewN ?_ _ | refine blk_drew ?_ | refine blk_alloc ?_ _)); exact BK225.out))⟩; have n2_ : Aside0 (w91.heap[gb226]? = some (.cells #[.int .i64 a1_0, .int .i64 a1_1, .int .i64 t247, .int .i64 a1_3, .string a1_4, .slice A1_5 l1_5.length c1_5] 31 (0, 0))) := ⟨(by rw [hw]; exact (by (with_reducible repeat (first | refine blk_drewN ?_ _ | refine blk_drew ?_ | refine blk_alloc ?_ _)); refine blk_put (cs := #[.int .i64 a1_0, .int .i64 a1_1, .int .i64 a1_2, .int .i64 a1_3, .string a1_4, .slice A1_5 l1_5.length c1_5]) ?_ 2 _ rfl; (with_reducible repeat (first | refine blk_drewN ?_ _ | refine blk_drew ?_ | refine blk_alloc ?_ _)); exact BK226.out))⟩; have n3_ : Aside0 (Below w.heap.size w w91) := ⟨(by rw [hw]; exact qB)⟩; clear hw; clear HO1_5; clear BK225; clear BK226; clear HB; have HO1_5 := n0_; have BK225 := n1_; have BK226 := n2_; have HB := n3_; clear n0_ n1_ n2_ n3_; have z92_0 := bk6 BK226.out) | ((with_reducible refine gate_dst (N := 101) rfl ?_); (try (refine gate_guard (by rfl) ?_; dsimp only)); refine Kd.N_lit kIns _ 31 ?hg (N' := 101) ?hd (xs := ([(⟨a1_0, a1_1, t247, a1_3, a1_4, l1_5⟩ : SIns)] : List (SIns))) (inner := [.int .i64 a1_0, .int .i64 a1_1, .int .i64 t247, .int .i64 a1_3, .string a1_4, .slice A1_5 l1_5.length c1_5]) (ok := (fun k_ => (P1_5_ k_ ∨ w.heap.size ≤ k_) ∧ k_ ≠ gb225 ∧ k_ ≠ gb226)) (okp := (fun k_ => (P1_5_ k_ ∨ w.heap.size ≤ k_) ∧ k_ ≠ gb225 ∧ k_ ≠ gb226)) ?hr ?hp (fun _ hk => hk) ((show ∀ k_, w91.heap.size ≤ k_ → (fun k_ => (P1_5_ k_ ∨ w.heap.size ≤ k_) ∧ k_ ≠ gb225 ∧ k_ ≠ gb226) k_ from fun k_ hk => ⟨(.inr (Nat.le_trans (below_size qB) hk)), Kd.freshB (g := gb225) (o := .cells #[.string a0_0, .int .i64 a0_1, .int .i64 a0_2, .int .i64 a0_3, .slice A0_4 l0_4.length c0_4] 34 (0, 0)) (qK BK225.out) k_ hk, Kd.freshB (g := gb226) (o := .cells #[.int .i64 a1_0, .int .i64 a1_1, .int .i64 t247, .int .i64 a1_3, .string a1_4, .slice A1_5 l1_5.length c1_5] 31 (0, 0)) (qK BK226.out) k_ hk⟩) _ (Nat.le_refl _)) (Below.refl _ _) (Nat.le_refl _) (by simp) ?_; (case hd => rfl); (case hg => rfl); (case hr => go_simp <;> rfl); (case hp => exact (Reps.c6 (show Kd.FK kIns _ _ (⟨a1_0, a1_1, t247, a1_3, a1_4, l1_5⟩ : SIns) [.int .i64 a1_0, .int .i64 a1_1, .int .i64 t247, .int .i64 a1_3, .string a1_4, .slice A1_5 l1_5.length c1_5] from (kIns_mkF _ _ (⟨a1_0, a1_1, t247, a1_3, a1_4, l1_5⟩ : SIns) (Kd.V_reads' (Kd.V_mono (ok' := (fun k_ => (P1_5_ k_ ∨ w.heap.size ≤ k_) ∧ k_ ≠ gb225 ∧ k_ ≠ gb226)) (HO1_5.out) (fun k_ hk => ⟨hk.1, ⟨hk.2.1, hk.2.2⟩⟩))).2.1 (Kd.V_F (Kd.V_mono (ok' := (fun k_ => (P1_5_ k_ ∨ w.heap.size ≤ k_) ∧ k_ ≠ gb225 ∧ k_ ≠ gb226)) (HO1_5.out) (fun k_ hk => ⟨hk.1, ⟨hk.2.1, hk.2.2⟩⟩))))) (Reps.none _ _))); intro v249 w93 ho94 hb hg_ hnew_; clear hg_ hnew_; (first | rw [← Ny248.out] at ho94 | (simp only [Int.reduceToNat] at ho94; rw [← Ny248.out] at ho94)); replace HO1_5 := zA (Kd.V_elder' (qV HO1_5.out) (Kd.N_base ho94) hb); have HO250 := zA (Kd.N_lower ho94 (below_size qB)); replace BK225 := qW BK225 hb; replace BK226 := qW BK226 hb; replace HB := qH hb; clear hb ho94; have z95_0 := bk5 BK225.out; obtain ⟨Ao96, co96, eo96⟩ := Kd.N_slice HO250.out; subst eo96) | ((with_reducible refine gate_dst (N := 111) rfl ?_); (try (refine gate_guard (by rfl) ?_; dsimp only)); refine Kd.N_lit (Kd.slice 31 kIns) _ 28 ?hg (N' := 111) ?hd (xs := ([y248] : List (List (SIns)))) (inner := [.slice Ao96 y248.length co96]) (ok := (fun k_ => (P1_5_ k_ ∨ w.heap.size ≤ k_) ∧ k_ ≠ gb225 ∧ k_ ≠ gb226)) (okp := (fun k_ => (P1_5_ k_ ∨ w.heap.size ≤ k_) ∧ k_ ≠ gb225 ∧ k_ ≠ gb226)) ?hr ?hp (fun _ hk => hk) ((show ∀ k_, w93.heap.size ≤ k_ → (fun k_ => (P1_5_ k_ ∨ w.heap.size ≤ k_) ∧ k_ ≠ gb225 ∧ k_ ≠ gb226) k_ from fun k_ hk => ⟨(.inr (Nat.le_trans (below_size qB) hk)), Kd.freshB (g := gb225) (o := .cells #[.string a0_0, .int .i64 a0_1, .int .i64 a0_2, .int .i64 a0_3, .slice A0_4 l0_4.length c0_4] 34 (0, 0)) (qK BK225.out) k_ hk, Kd.freshB (g := gb226) (o := .cells #[.int .i64 a1_0, .int .i64 a1_1, .int .i64 t247, .int .i64 a1_3, .string a1_4, .slice A1_5 l1_5.length c1_5] 31 (0, 0)) (qK BK226.out) k_ hk⟩) _ (Nat.le_refl _)) (Below.refl _ _) (Nat.le_refl _) (by simp) ?_; (case hd => rfl); (case hg => rfl); (case hr => go_simp <;> rfl); (case hp => exact (Reps.one (show Kd.FK (Kd.slice 31 kIns) _ _ y248 [.slice Ao96 y248.length co96] from (Kd.FK_slice_mk (Kd.N_reads' (Kd.N_mono (ok' := (fun k_ => (P1_5_ k_ ∨ w.heap.size ≤ k_) ∧ k_ ≠ gb225 ∧ k_ ≠ gb226)) (HO250.out) (fun k_ hk => ⟨hk.1, ⟨hk.2.1, hk.2.2⟩⟩))).2.1 (Kd.N_F (Kd.N_mono (ok' := (fun k_ => (P1_5_ k_ ∨ w.heap.size ≤ k_) ∧ k_ ≠ gb225 ∧ k_ ≠ gb226)) (HO250.out) (fun k_ hk => ⟨hk.1, ⟨hk.2.1, hk.2.2⟩⟩))))) (Reps.none _ _))); intro v252 w97 ho98 hb hg_ hnew_; clear hg_ hnew_; (first | rw [← Ny251.out] at ho98 | (simp only [Int.reduceToNat] at ho98; rw [← Ny251.out] at ho98)); replace HO1_5 := zA (Kd.V_elder' (qV HO1_5.out) (Kd.N_base ho98) hb); have HO253 := zA (Kd.N_lower ho98 (below_size qB)); replace BK225 := qW BK225 hb; replace BK226 := qW BK226 hb; replace HB := qH hb; clear HO250; clear hb ho98; obtain ⟨Ao99, co99, eo99⟩ := Kd.N_slice HO253.out; subst eo99) | (go_at_call 6; (with_reducible refine (ir_Check.calls k (⟨#[102]⟩ : ByteArray) 0 a0_2 _ _ y251 t254 _ ?side1 ?side2 A85.out (hL := ?side99)).mono ?_); (case side1 => repeat (first | exact (Kd.N_reads' HO253.out).2.2 | (with_reducible refine Kd.C_alloc ?_ _) | (with_reducible refine Kd.C_drewN ?_ _) | (with_reducible refine Kd.C_drew ?_))); (case side2 => exact (Kd.N_reads' HO253.out).2.1); (case side99 => exact LaidW.below HLd.out qB); rintro e w100 ⟨rfl, hb⟩; replace HO1_5 := zA (Kd.V_below (qV HO1_5.out) hb); replace HO253 := zA (Kd.N_below (qN HO253.out) hb); replace BK225 := qW BK225 hb; replace BK226 := qW BK226 hb; replace HB := qH hb; (try clear hb)))
        repeat (go_quiet (first | (go_at_call 32; (with_reducible refine (mach_one_1.to a0_0 a0_1 a0_2 a0_3 A0_4 c0_4 l0_4 a1_2 t247 _ ?side1 ?side2 A83.out (hbk := ?side3) (hx := ?side4) (hf := ?side5)).mono ?_); (case side1 => exact qCB HR0_4.out); (case side2 => exact HC0_4.out); (case side3 => exact (qK BK225.out)); (case side4 => exact (blk_cell (show _ = some (Obj.cells #[.int .i64 a1_0, .int .i64 a1_1, .int .i64 a1_2, .int .i64 a1_3, .string a1_4, .slice A1_5 l1_5.length c1_5] 31 (0, 0)) from (qK BK226.out)) 2).trans rfl); (case side5 => exact blk_frozen (show _ = some (Obj.cells #[.int .i64 a1_0, .int .i64 a1_1, .int .i64 a1_2, .int .i64 a1_3, .string a1_4, .slice A1_5 l1_5.length c1_5] 31 (0, 0)) from (qK BK226.out)) 2); rintro e w_ ⟨rfl, w89, hb, rfl⟩; replace HO1_5 := zA (Kd.V_below (qV HO1_5.out) hb); replace BK225 := qW BK225 hb; replace BK226 := qW BK226 hb; replace HB := qH hb; (try clear hb); have z90_0 := bk6 BK226.out; generalize hw_ : w89.setCell ⟨gb226, 2, none⟩ (.int .i64 t247) = w91; have hw := hw_.symm; clear hw_; have n0_ : Aside0 (Kd.V (Kd.int .i64) 3 w91 w.heap.size (fun k_ => (P1_5_ k_ ∨ w.heap.size ≤ k_) ∧ k_ ≠ gb225 ∧ k_ ≠ gb226) (.slice A1_5 l1_5.length c1_5) l1_5) := ⟨(by rw [hw]; exact (by (with_reducible repeat (first | apply Kd.V_alloc | apply Kd.V_drewN | apply Kd.V_drew)); exact Kd.V_mono (Kd.V_far (p := ⟨gb226, 2, none⟩) (Kd.V_mono HO1_5.out (fun k_ hk => (⟨hk, hk.2⟩ : _ ∧ k_ ≠ gb226))) (fun _ hk => hk.2) (.int .i64 t247)) (fun _ hk => ⟨hk.1.1.1, ⟨hk.1.1.2, hk.1.2⟩⟩)))⟩; have n1_ : Aside0 (w91.heap[gb225]? = some (.cells #[.string a0_0, .int .i64 a0_1, .int .i64 a0_2, .int .i64 a0_3, .slice A0_4 l0_4.length c0_4] 34 (0, 0))) := ⟨(by rw [hw]; exact (by (with_reducible repeat (first | refine blk_drewN ?_ _ | refine blk_drew ?_ | refine blk_alloc ?_ _)); refine blk_far ?_ NB225_226.out _; (with_reducible repeat (first | refine blk_drewN ?_ _ | refine blk_drew ?_ | refine blk_alloc ?_ _)); exact BK225.out))⟩; have n2_ : Aside0 (w91.heap[gb226]? = some (.cells #[.int .i64 a1_0, .int .i64 a1_1, .int .i64 t247, .int .i64 a1_3, .string a1_4, .slice A1_5 l1_5.length c1_5] 31 (0, 0))) := ⟨(by rw [hw]; exact (by (with_reducible repeat (first | refine blk_drewN ?_ _ | refine blk_drew ?_ | refine blk_alloc ?_ _)); refine blk_put (cs := #[.int .i64 a1_0, .int .i64 a1_1, .int .i64 a1_2, .int .i64 a1_3, .string a1_4, .slice A1_5 l1_5.length c1_5]) ?_ 2 _ rfl; (with_reducible repeat (first | refine blk_drewN ?_ _ | refine blk_drew ?_ | refine blk_alloc ?_ _)); exact BK226.out))⟩; have n3_ : Aside0 (Below w.heap.size w w91) := ⟨(by rw [hw]; exact qB)⟩; clear hw; clear HO1_5; clear BK225; clear BK226; clear HB; have HO1_5 := n0_; have BK225 := n1_; have BK226 := n2_; have HB := n3_; clear n0_ n1_ n2_ n3_; have z92_0 := bk6 BK226.out) | ((with_reducible refine gate_dst (N := 101) rfl ?_); (try (refine gate_guard (by rfl) ?_; dsimp only)); refine Kd.N_lit kIns _ 31 ?hg (N' := 101) ?hd (xs := ([(⟨a1_0, a1_1, t247, a1_3, a1_4, l1_5⟩ : SIns)] : List (SIns))) (inner := [.int .i64 a1_0, .int .i64 a1_1, .int .i64 t247, .int .i64 a1_3, .string a1_4, .slice A1_5 l1_5.length c1_5]) (ok := (fun k_ => (P1_5_ k_ ∨ w.heap.size ≤ k_) ∧ k_ ≠ gb225 ∧ k_ ≠ gb226)) (okp := (fun k_ => (P1_5_ k_ ∨ w.heap.size ≤ k_) ∧ k_ ≠ gb225 ∧ k_ ≠ gb226)) ?hr ?hp (fun _ hk => hk) ((show ∀ k_, w91.heap.size ≤ k_ → (fun k_ => (P1_5_ k_ ∨ w.heap.size ≤ k_) ∧ k_ ≠ gb225 ∧ k_ ≠ gb226) k_ from fun k_ hk => ⟨(.inr (Nat.le_trans (below_size qB) hk)), Kd.freshB (g := gb225) (o := .cells #[.string a0_0, .int .i64 a0_1, .int .i64 a0_2, .int .i64 a0_3, .slice A0_4 l0_4.length c0_4] 34 (0, 0)) (qK BK225.out) k_ hk, Kd.freshB (g := gb226) (o := .cells #[.int .i64 a1_0, .int .i64 a1_1, .int .i64 t247, .int .i64 a1_3, .string a1_4, .slice A1_5 l1_5.length c1_5] 31 (0, 0)) (qK BK226.out) k_ hk⟩) _ (Nat.le_refl _)) (Below.refl _ _) (Nat.le_refl _) (by simp) ?_; (case hd => rfl); (case hg => rfl); (case hr => go_simp <;> rfl); (case hp => exact (Reps.c6 (show Kd.FK kIns _ _ (⟨a1_0, a1_1, t247, a1_3, a1_4, l1_5⟩ : SIns) [.int .i64 a1_0, .int .i64 a1_1, .int .i64 t247, .int .i64 a1_3, .string a1_4, .slice A1_5 l1_5.length c1_5] from (kIns_mkF _ _ (⟨a1_0, a1_1, t247, a1_3, a1_4, l1_5⟩ : SIns) (Kd.V_reads' (Kd.V_mono (ok' := (fun k_ => (P1_5_ k_ ∨ w.heap.size ≤ k_) ∧ k_ ≠ gb225 ∧ k_ ≠ gb226)) (HO1_5.out) (fun k_ hk => ⟨hk.1, ⟨hk.2.1, hk.2.2⟩⟩))).2.1 (Kd.V_F (Kd.V_mono (ok' := (fun k_ => (P1_5_ k_ ∨ w.heap.size ≤ k_) ∧ k_ ≠ gb225 ∧ k_ ≠ gb226)) (HO1_5.out) (fun k_ hk => ⟨hk.1, ⟨hk.2.1, hk.2.2⟩⟩))))) (Reps.none _ _))); intro v249 w93 ho94 hb hg_ hnew_; clear hg_ hnew_; (first | rw [← Ny248.out] at ho94 | (simp only [Int.reduceToNat] at ho94; rw [← Ny248.out] at ho94)); replace HO1_5 := zA (Kd.V_elder' (qV HO1_5.out) (Kd.N_base ho94) hb); have HO250 := zA (Kd.N_lower ho94 (below_size qB)); replace BK225 := qW BK225 hb; replace BK226 := qW BK226 hb; replace HB := qH hb; clear hb ho94; have z95_0 := bk5 BK225.out; obtain ⟨Ao96, co96, eo96⟩ := Kd.N_slice HO250.out; subst eo96) | ((with_reducible refine gate_dst (N := 111) rfl ?_); (try (refine gate_guard (by rfl) ?_; dsimp only)); refine Kd.N_lit (Kd.slice 31 kIns) _ 28 ?hg (N' := 111) ?hd (xs := ([y248] : List (List (SIns)))) (inner := [.slice Ao96 y248.length co96]) (ok := (fun k_ => (P1_5_ k_ ∨ w.heap.size ≤ k_) ∧ k_ ≠ gb225 ∧ k_ ≠ gb226)) (okp := (fun k_ => (P1_5_ k_ ∨ w.heap.size ≤ k_) ∧ k_ ≠ gb225 ∧ k_ ≠ gb226)) ?hr ?hp (fun _ hk => hk) ((show ∀ k_, w93.heap.size ≤ k_ → (fun k_ => (P1_5_ k_ ∨ w.heap.size ≤ k_) ∧ k_ ≠ gb225 ∧ k_ ≠ gb226) k_ from fun k_ hk => ⟨(.inr (Nat.le_trans (below_size qB) hk)), Kd.freshB (g := gb225) (o := .cells #[.string a0_0, .int .i64 a0_1, .int .i64 a0_2, .int .i64 a0_3, .slice A0_4 l0_4.length c0_4] 34 (0, 0)) (qK BK225.out) k_ hk, Kd.freshB (g := gb226) (o := .cells #[.int .i64 a1_0, .int .i64 a1_1, .int .i64 t247, .int .i64 a1_3, .string a1_4, .slice A1_5 l1_5.length c1_5] 31 (0, 0)) (qK BK226.out) k_ hk⟩) _ (Nat.le_refl _)) (Below.refl _ _) (Nat.le_refl _) (by simp) ?_; (case hd => rfl); (case hg => rfl); (case hr => go_simp <;> rfl); (case hp => exact (Reps.one (show Kd.FK (Kd.slice 31 kIns) _ _ y248 [.slice Ao96 y248.length co96] from (Kd.FK_slice_mk (Kd.N_reads' (Kd.N_mono (ok' := (fun k_ => (P1_5_ k_ ∨ w.heap.size ≤ k_) ∧ k_ ≠ gb225 ∧ k_ ≠ gb226)) (HO250.out) (fun k_ hk => ⟨hk.1, ⟨hk.2.1, hk.2.2⟩⟩))).2.1 (Kd.N_F (Kd.N_mono (ok' := (fun k_ => (P1_5_ k_ ∨ w.heap.size ≤ k_) ∧ k_ ≠ gb225 ∧ k_ ≠ gb226)) (HO250.out) (fun k_ hk => ⟨hk.1, ⟨hk.2.1, hk.2.2⟩⟩))))) (Reps.none _ _))); intro v252 w97 ho98 hb hg_ hnew_; clear hg_ hnew_; (first | rw [← Ny251.out] at ho98 | (simp only [Int.reduceToNat] at ho98; rw [← Ny251.out] at ho98)); replace HO1_5 := zA (Kd.V_elder' (qV HO1_5.out) (Kd.N_base ho98) hb); have HO253 := zA (Kd.N_lower ho98 (below_size qB)); replace BK225 := qW BK225 hb; replace BK226 := qW BK226 hb; replace HB := qH hb; clear HO250; clear hb ho98; obtain ⟨Ao99, co99, eo99⟩ := Kd.N_slice HO253.out; subst eo99) | (go_at_call 6; (with_reducible refine (ir_Check.calls k (⟨#[102]⟩ : ByteArray) 0 a0_2 _ _ y251 t254 _ ?side1 ?side2 A85.out (hL := ?side99)).mono ?_); (case side1 => repeat (first | exact (Kd.N_reads' HO253.out).2.2 | (with_reducible refine Kd.C_alloc ?_ _) | (with_reducible refine Kd.C_drewN ?_ _) | (with_reducible refine Kd.C_drew ?_))); (case side2 => exact (Kd.N_reads' HO253.out).2.1); (case side99 => exact LaidW.below HLd.out qB); rintro e w100 ⟨rfl, hb⟩; replace HO1_5 := zA (Kd.V_below (qV HO1_5.out) hb); replace HO253 := zA (Kd.N_below (qN HO253.out) hb); replace BK225 := qW BK225 hb; replace BK226 := qW BK226 hb; replace HB := qH hb; (try clear hb))); try go_wp2_with (first | (go_at_call 32; (with_reducible refine (mach_one_1.calls a0_0 a0_1 a0_2 a0_3 _ _ l0_4 a1_2 t247 _ ?side1 ?side2 A83.out).mono ?_); (case side1 => exact qCB HR0_4.out); (case side2 => exact HC0_4.out); rintro e w89 ⟨rfl, hb⟩; replace HO1_5 := zA (Kd.V_below (qV HO1_5.out) hb); replace BK225 := qW BK225 hb; replace BK226 := qW BK226 hb; replace HB := qH hb; (try clear hb); have z90_0 := bk6 BK226.out) | ((with_reducible refine gate_store (t := 3) (p := 98) rfl ?_); (try (rw [drewN_self w89]; generalize hq_ : World.drewN w89 _ = w89; have n0_ := zA (Kd.V_at hq_ HO1_5.out); have n1_ := zA (blk_at hq_ BK225.out); have n2_ := zA (blk_at hq_ BK226.out); have n3_ := zA (below_at hq_ HB.out); clear hq_ HO1_5 BK225 BK226 HB; have HO1_5 := n0_; have BK225 := n1_; have BK226 := n2_; have HB := n3_; clear n0_ n1_ n2_ n3_)); refine store_event (t := 3) (p := 98) (v := ?vo_w91) (w1 := (w89.setCell ⟨gb226, 2, none⟩ (.int .i64 t247))) (by rfl) (by rfl) (by rfl) ?hr ?_; (case hr => go_simp <;> rfl); intro w91 hw; have n0_ : Aside0 (Kd.V (Kd.int .i64) 3 w91 w.heap.size (fun k_ => (P1_5_ k_ ∨ w.heap.size ≤ k_) ∧ k_ ≠ gb225 ∧ k_ ≠ gb226) (.slice A1_5 l1_5.length c1_5) l1_5) := ⟨(by rw [hw]; exact (by (with_reducible repeat (first | apply Kd.V_alloc | apply Kd.V_drewN | apply Kd.V_drew)); exact Kd.V_mono (Kd.V_far (p := ⟨gb226, 2, none⟩) (Kd.V_mono HO1_5.out (fun k_ hk => (⟨hk, hk.2⟩ : _ ∧ k_ ≠ gb226))) (fun _ hk => hk.2) (.int .i64 t247)) (fun _ hk => ⟨hk.1.1.1, ⟨hk.1.1.2, hk.1.2⟩⟩)))⟩; have n1_ : Aside0 (w91.heap[gb225]? = some (.cells #[.string a0_0, .int .i64 a0_1, .int .i64 a0_2, .int .i64 a0_3, .slice A0_4 l0_4.length c0_4] 34 (0, 0))) := ⟨(by rw [hw]; exact (by (with_reducible repeat (first | refine blk_drewN ?_ _ | refine blk_drew ?_ | refine blk_alloc ?_ _)); refine blk_far ?_ NB225_226.out _; (with_reducible repeat (first | refine blk_drewN ?_ _ | refine blk_drew ?_ | refine blk_alloc ?_ _)); exact BK225.out))⟩; have n2_ : Aside0 (w91.heap[gb226]? = some (.cells #[.int .i64 a1_0, .int .i64 a1_1, .int .i64 t247, .int .i64 a1_3, .string a1_4, .slice A1_5 l1_5.length c1_5] 31 (0, 0))) := ⟨(by rw [hw]; exact (by (with_reducible repeat (first | refine blk_drewN ?_ _ | refine blk_drew ?_ | refine blk_alloc ?_ _)); refine blk_put (cs := #[.int .i64 a1_0, .int .i64 a1_1, .int .i64 a1_2, .int .i64 a1_3, .string a1_4, .slice A1_5 l1_5.length c1_5]) ?_ 2 _ rfl; (with_reducible repeat (first | refine blk_drewN ?_ _ | refine blk_drew ?_ | refine blk_alloc ?_ _)); exact BK226.out))⟩; have n3_ : Aside0 (Below w.heap.size w w91) := ⟨(by rw [hw]; exact qB)⟩; clear hw; clear HO1_5; clear BK225; clear BK226; clear HB; have HO1_5 := n0_; have BK225 := n1_; have BK226 := n2_; have HB := n3_; clear n0_ n1_ n2_ n3_; have z92_0 := bk6 BK226.out) | ((with_reducible refine gate_dst (N := 101) rfl ?_); (try (refine gate_guard (by rfl) ?_; dsimp only)); refine Kd.N_lit kIns _ 31 ?hg (N' := 101) ?hd (xs := ([(⟨a1_0, a1_1, t247, a1_3, a1_4, l1_5⟩ : SIns)] : List (SIns))) (inner := [.int .i64 a1_0, .int .i64 a1_1, .int .i64 t247, .int .i64 a1_3, .string a1_4, .slice A1_5 l1_5.length c1_5]) (ok := (fun k_ => (P1_5_ k_ ∨ w.heap.size ≤ k_) ∧ k_ ≠ gb225 ∧ k_ ≠ gb226)) (okp := (fun k_ => (P1_5_ k_ ∨ w.heap.size ≤ k_) ∧ k_ ≠ gb225 ∧ k_ ≠ gb226)) ?hr ?hp (fun _ hk => hk) ((show ∀ k_, w91.heap.size ≤ k_ → (fun k_ => (P1_5_ k_ ∨ w.heap.size ≤ k_) ∧ k_ ≠ gb225 ∧ k_ ≠ gb226) k_ from fun k_ hk => ⟨(.inr (Nat.le_trans (below_size qB) hk)), Kd.freshB (g := gb225) (o := .cells #[.string a0_0, .int .i64 a0_1, .int .i64 a0_2, .int .i64 a0_3, .slice A0_4 l0_4.length c0_4] 34 (0, 0)) (qK BK225.out) k_ hk, Kd.freshB (g := gb226) (o := .cells #[.int .i64 a1_0, .int .i64 a1_1, .int .i64 t247, .int .i64 a1_3, .string a1_4, .slice A1_5 l1_5.length c1_5] 31 (0, 0)) (qK BK226.out) k_ hk⟩) _ (Nat.le_refl _)) (Below.refl _ _) (Nat.le_refl _) (by simp) ?_; (case hd => rfl); (case hg => rfl); (case hr => go_simp <;> rfl); (case hp => exact (Reps.c6 (show Kd.FK kIns _ _ (⟨a1_0, a1_1, t247, a1_3, a1_4, l1_5⟩ : SIns) [.int .i64 a1_0, .int .i64 a1_1, .int .i64 t247, .int .i64 a1_3, .string a1_4, .slice A1_5 l1_5.length c1_5] from (kIns_mkF _ _ (⟨a1_0, a1_1, t247, a1_3, a1_4, l1_5⟩ : SIns) (Kd.V_reads' (Kd.V_mono (ok' := (fun k_ => (P1_5_ k_ ∨ w.heap.size ≤ k_) ∧ k_ ≠ gb225 ∧ k_ ≠ gb226)) (HO1_5.out) (fun k_ hk => ⟨hk.1, ⟨hk.2.1, hk.2.2⟩⟩))).2.1 (Kd.V_F (Kd.V_mono (ok' := (fun k_ => (P1_5_ k_ ∨ w.heap.size ≤ k_) ∧ k_ ≠ gb225 ∧ k_ ≠ gb226)) (HO1_5.out) (fun k_ hk => ⟨hk.1, ⟨hk.2.1, hk.2.2⟩⟩))))) (Reps.none _ _))); intro v249 w93 ho94 hb hg_ hnew_; clear hg_ hnew_; (first | rw [← Ny248.out] at ho94 | (simp only [Int.reduceToNat] at ho94; rw [← Ny248.out] at ho94)); replace HO1_5 := zA (Kd.V_elder' (qV HO1_5.out) (Kd.N_base ho94) hb); have HO250 := zA (Kd.N_lower ho94 (below_size qB)); replace BK225 := qW BK225 hb; replace BK226 := qW BK226 hb; replace HB := qH hb; clear hb ho94; have z95_0 := bk5 BK225.out; obtain ⟨Ao96, co96, eo96⟩ := Kd.N_slice HO250.out; subst eo96) | ((with_reducible refine gate_dst (N := 111) rfl ?_); (try (refine gate_guard (by rfl) ?_; dsimp only)); refine Kd.N_lit (Kd.slice 31 kIns) _ 28 ?hg (N' := 111) ?hd (xs := ([y248] : List (List (SIns)))) (inner := [.slice Ao96 y248.length co96]) (ok := (fun k_ => (P1_5_ k_ ∨ w.heap.size ≤ k_) ∧ k_ ≠ gb225 ∧ k_ ≠ gb226)) (okp := (fun k_ => (P1_5_ k_ ∨ w.heap.size ≤ k_) ∧ k_ ≠ gb225 ∧ k_ ≠ gb226)) ?hr ?hp (fun _ hk => hk) ((show ∀ k_, w93.heap.size ≤ k_ → (fun k_ => (P1_5_ k_ ∨ w.heap.size ≤ k_) ∧ k_ ≠ gb225 ∧ k_ ≠ gb226) k_ from fun k_ hk => ⟨(.inr (Nat.le_trans (below_size qB) hk)), Kd.freshB (g := gb225) (o := .cells #[.string a0_0, .int .i64 a0_1, .int .i64 a0_2, .int .i64 a0_3, .slice A0_4 l0_4.length c0_4] 34 (0, 0)) (qK BK225.out) k_ hk, Kd.freshB (g := gb226) (o := .cells #[.int .i64 a1_0, .int .i64 a1_1, .int .i64 t247, .int .i64 a1_3, .string a1_4, .slice A1_5 l1_5.length c1_5] 31 (0, 0)) (qK BK226.out) k_ hk⟩) _ (Nat.le_refl _)) (Below.refl _ _) (Nat.le_refl _) (by simp) ?_; (case hd => rfl); (case hg => rfl); (case hr => go_simp <;> rfl); (case hp => exact (Reps.one (show Kd.FK (Kd.slice 31 kIns) _ _ y248 [.slice Ao96 y248.length co96] from (Kd.FK_slice_mk (Kd.N_reads' (Kd.N_mono (ok' := (fun k_ => (P1_5_ k_ ∨ w.heap.size ≤ k_) ∧ k_ ≠ gb225 ∧ k_ ≠ gb226)) (HO250.out) (fun k_ hk => ⟨hk.1, ⟨hk.2.1, hk.2.2⟩⟩))).2.1 (Kd.N_F (Kd.N_mono (ok' := (fun k_ => (P1_5_ k_ ∨ w.heap.size ≤ k_) ∧ k_ ≠ gb225 ∧ k_ ≠ gb226)) (HO250.out) (fun k_ hk => ⟨hk.1, ⟨hk.2.1, hk.2.2⟩⟩))))) (Reps.none _ _))); intro v252 w97 ho98 hb hg_ hnew_; clear hg_ hnew_; (first | rw [← Ny251.out] at ho98 | (simp only [Int.reduceToNat] at ho98; rw [← Ny251.out] at ho98)); replace HO1_5 := zA (Kd.V_elder' (qV HO1_5.out) (Kd.N_base ho98) hb); have HO253 := zA (Kd.N_lower ho98 (below_size qB)); replace BK225 := qW BK225 hb; replace BK226 := qW BK226 hb; replace HB := qH hb; clear HO250; clear hb ho98; obtain ⟨Ao99, co99, eo99⟩ := Kd.N_slice HO253.out; subst eo99) | (go_at_call 6; (with_reducible refine (ir_Check.calls k (⟨#[102]⟩ : ByteArray) 0 a0_2 _ _ y251 t254 _ ?side1 ?side2 A85.out (hL := ?side99)).mono ?_); (case side1 => repeat (first | exact (Kd.N_reads' HO253.out).2.2 | (with_reducible refine Kd.C_alloc ?_ _) | (with_reducible refine Kd.C_drewN ?_ _) | (with_reducible refine Kd.C_drew ?_))); (case side2 => exact (Kd.N_reads' HO253.out).2.1); (case side99 => exact LaidW.below HLd.out qB); rintro e w100 ⟨rfl, hb⟩; replace HO1_5 := zA (Kd.V_below (qV HO1_5.out) hb); replace HO253 := zA (Kd.N_below (qN HO253.out) hb); replace BK225 := qW BK225 hb; replace BK226 := qW BK226 hb; replace HB := qH hb; (try clear hb))))
        go_ret
        exact ⟨qE, qB⟩
       ·replace c84 := Bool.eq_false_iff.mpr c84
        subst c84
        have H1 : (if y248.length < 1954687338268 then ((ir_Check.f k (⟨#[102]⟩ : ByteArray) 0 a0_2 (([(y248 ++ [(⟨12, 0, 0, 0, (⟨#[]⟩ : ByteArray), ([] : List Int)⟩ : SIns)])] : List (List (SIns))))).bind fun t261 => (some t261)) else (none)) = some r := by rw [zD (show ¬ (false = true) by decide)] at H; exact H
        clear H
        have H := H1
        clear H1
        by_cases c101 : y248.length < 1954687338268
        ·rw [zC c101] at H
         have LMc101 := zA c101
         clear c101
         obtain ⟨y255, hy255⟩ : ∃ y_ : List (SIns), y_ = (y248 ++ [(⟨12, 0, 0, 0, (⟨#[]⟩ : ByteArray), ([] : List Int)⟩ : SIns)]) := ⟨_, rfl⟩
         replace H : ((ir_Check.f k (⟨#[102]⟩ : ByteArray) 0 a0_2 (([y255] : List (List (SIns))))).bind fun t261 => (some t261)) = some r := by (try rw [hy255]); first | with_reducible exact H | exact (zJ _ _).symm.trans H | exact H
         have Ny255 := zA hy255
         clear hy255
         obtain ⟨y258, hy258⟩ : ∃ y_ : List (List (SIns)), y_ = (([y255] : List (List (SIns)))) := ⟨_, rfl⟩
         replace H : ((ir_Check.f k (⟨#[102]⟩ : ByteArray) 0 a0_2 y258).bind fun t261 => (some t261)) = some r := by (try rw [hy258]); first | with_reducible exact H | exact (zJ _ _).symm.trans H | exact H
         have Ny258 := zA hy258
         clear hy258
         replace H := qb H; obtain ⟨t261, A102, H⟩ := H
         obtain rfl := zI H
         have hnb103 := NB226_225.out
         have hnc103 := NB225_226.out
         have z104_0 := bk6 BK226.out
         have z105_0 := bk5 BK225.out
         go_wp2_with (first | (go_at_call 32; (with_reducible refine (mach_one_1.to a0_0 a0_1 a0_2 a0_3 A0_4 c0_4 l0_4 a1_2 t247 _ ?side1 ?side2 A83.out (hbk := ?side3) (hx := ?side4) (hf := ?side5)).mono ?_); (case side1 => exact qCB HR0_4.out); (case side2 => exact HC0_4.out); (case side3 => exact (qK BK225.out)); (case side4 => exact (blk_cell (show _ = some (Obj.cells #[.int .i64 a1_0, .int .i64 a1_1, .int .i64 a1_2, .int .i64 a1_3, .string a1_4, .slice A1_5 l1_5.length c1_5] 31 (0, 0)) from (qK BK226.out)) 2).trans rfl); (case side5 => exact blk_frozen (show _ = some (Obj.cells #[.int .i64 a1_0, .int .i64 a1_1, .int .i64 a1_2, .int .i64 a1_3, .string a1_4, .slice A1_5 l1_5.length c1_5] 31 (0, 0)) from (qK BK226.out)) 2); rintro e w_ ⟨rfl, w106, hb, rfl⟩; replace HO1_5 := zA (Kd.V_below (qV HO1_5.out) hb); replace BK225 := qW BK225 hb; replace BK226 := qW BK226 hb; replace HB := qH hb; (try clear hb); have z107_0 := bk6 BK226.out; generalize hw_ : w106.setCell ⟨gb226, 2, none⟩ (.int .i64 t247) = w108; have hw := hw_.symm; clear hw_; have n0_ : Aside0 (Kd.V (Kd.int .i64) 3 w108 w.heap.size (fun k_ => (P1_5_ k_ ∨ w.heap.size ≤ k_) ∧ k_ ≠ gb225 ∧ k_ ≠ gb226) (.slice A1_5 l1_5.length c1_5) l1_5) := ⟨(by rw [hw]; exact (by (with_reducible repeat (first | apply Kd.V_alloc | apply Kd.V_drewN | apply Kd.V_drew)); exact Kd.V_mono (Kd.V_far (p := ⟨gb226, 2, none⟩) (Kd.V_mono HO1_5.out (fun k_ hk => (⟨hk, hk.2⟩ : _ ∧ k_ ≠ gb226))) (fun _ hk => hk.2) (.int .i64 t247)) (fun _ hk => ⟨hk.1.1.1, ⟨hk.1.1.2, hk.1.2⟩⟩)))⟩; have n1_ : Aside0 (w108.heap[gb225]? = some (.cells #[.string a0_0, .int .i64 a0_1, .int .i64 a0_2, .int .i64 a0_3, .slice A0_4 l0_4.length c0_4] 34 (0, 0))) := ⟨(by rw [hw]; exact (by (with_reducible repeat (first | refine blk_drewN ?_ _ | refine blk_drew ?_ | refine blk_alloc ?_ _)); refine blk_far ?_ NB225_226.out _; (with_reducible repeat (first | refine blk_drewN ?_ _ | refine blk_drew ?_ | refine blk_alloc ?_ _)); exact BK225.out))⟩; have n2_ : Aside0 (w108.heap[gb226]? = some (.cells #[.int .i64 a1_0, .int .i64 a1_1, .int .i64 t247, .int .i64 a1_3, .string a1_4, .slice A1_5 l1_5.length c1_5] 31 (0, 0))) := ⟨(by rw [hw]; exact (by (with_reducible repeat (first | refine blk_drewN ?_ _ | refine blk_drew ?_ | refine blk_alloc ?_ _)); refine blk_put (cs := #[.int .i64 a1_0, .int .i64 a1_1, .int .i64 a1_2, .int .i64 a1_3, .string a1_4, .slice A1_5 l1_5.length c1_5]) ?_ 2 _ rfl; (with_reducible repeat (first | refine blk_drewN ?_ _ | refine blk_drew ?_ | refine blk_alloc ?_ _)); exact BK226.out))⟩; have n3_ : Aside0 (Below w.heap.size w w108) := ⟨(by rw [hw]; exact qB)⟩; clear hw; clear HO1_5; clear BK225; clear BK226; clear HB; have HO1_5 := n0_; have BK225 := n1_; have BK226 := n2_; have HB := n3_; clear n0_ n1_ n2_ n3_; have z109_0 := bk6 BK226.out) | ((with_reducible refine gate_dst (N := 101) rfl ?_); (try (refine gate_guard (by rfl) ?_; dsimp only)); refine Kd.N_lit kIns _ 31 ?hg (N' := 101) ?hd (xs := ([(⟨a1_0, a1_1, t247, a1_3, a1_4, l1_5⟩ : SIns)] : List (SIns))) (inner := [.int .i64 a1_0, .int .i64 a1_1, .int .i64 t247, .int .i64 a1_3, .string a1_4, .slice A1_5 l1_5.length c1_5]) (ok := (fun k_ => (P1_5_ k_ ∨ w.heap.size ≤ k_) ∧ k_ ≠ gb225 ∧ k_ ≠ gb226)) (okp := (fun k_ => (P1_5_ k_ ∨ w.heap.size ≤ k_) ∧ k_ ≠ gb225 ∧ k_ ≠ gb226)) ?hr ?hp (fun _ hk => hk) ((show ∀ k_, w108.heap.size ≤ k_ → (fun k_ => (P1_5_ k_ ∨ w.heap.size ≤ k_) ∧ k_ ≠ gb225 ∧ k_ ≠ gb226) k_ from fun k_ hk => ⟨(.inr (Nat.le_trans (below_size qB) hk)), Kd.freshB (g := gb225) (o := .cells #[.string a0_0, .int .i64 a0_1, .int .i64 a0_2, .int .i64 a0_3, .slice A0_4 l0_4.length c0_4] 34 (0, 0)) (qK BK225.out) k_ hk, Kd.freshB (g := gb226) (o := .cells #[.int .i64 a1_0, .int .i64 a1_1, .int .i64 t247, .int .i64 a1_3, .string a1_4, .slice A1_5 l1_5.length c1_5] 31 (0, 0)) (qK BK226.out) k_ hk⟩) _ (Nat.le_refl _)) (Below.refl _ _) (Nat.le_refl _) (by simp) ?_; (case hd => rfl); (case hg => rfl); (case hr => go_simp <;> rfl); (case hp => exact (Reps.c6 (show Kd.FK kIns _ _ (⟨a1_0, a1_1, t247, a1_3, a1_4, l1_5⟩ : SIns) [.int .i64 a1_0, .int .i64 a1_1, .int .i64 t247, .int .i64 a1_3, .string a1_4, .slice A1_5 l1_5.length c1_5] from (kIns_mkF _ _ (⟨a1_0, a1_1, t247, a1_3, a1_4, l1_5⟩ : SIns) (Kd.V_reads' (Kd.V_mono (ok' := (fun k_ => (P1_5_ k_ ∨ w.heap.size ≤ k_) ∧ k_ ≠ gb225 ∧ k_ ≠ gb226)) (HO1_5.out) (fun k_ hk => ⟨hk.1, ⟨hk.2.1, hk.2.2⟩⟩))).2.1 (Kd.V_F (Kd.V_mono (ok' := (fun k_ => (P1_5_ k_ ∨ w.heap.size ≤ k_) ∧ k_ ≠ gb225 ∧ k_ ≠ gb226)) (HO1_5.out) (fun k_ hk => ⟨hk.1, ⟨hk.2.1, hk.2.2⟩⟩))))) (Reps.none _ _))); intro v249 w110 ho111 hb hg_ hnew_; clear hg_ hnew_; (first | rw [← Ny248.out] at ho111 | (simp only [Int.reduceToNat] at ho111; rw [← Ny248.out] at ho111)); replace HO1_5 := zA (Kd.V_elder' (qV HO1_5.out) (Kd.N_base ho111) hb); have HO250 := zA (Kd.N_lower ho111 (below_size qB)); replace BK225 := qW BK225 hb; replace BK226 := qW BK226 hb; replace HB := qH hb; clear hb ho111) | ((with_reducible refine gate_builtin (b := .append) (xs := #[.tmp 104, .tmp 106]) rfl ?_); (try (refine gate_guard (by rfl) ?_; dsimp only)); at_builtin; refine Kd.N_append kIns (w0 := w) w.heap.size rfl (.tmp 104) (.tmp 106) 28 31 (.agg #[(.int .i64 0), (.int .i64 0), (.int .i64 0), (.int .i64 0), (.string ⟨#[]⟩), (.slice none 0 0)]) 72 rfl Tryd.underlying28 info31 rfl (by decide) (by omega) v249 y248 (⟨12, 0, 0, 0, (⟨#[]⟩ : ByteArray), ([] : List Int)⟩ : SIns) [.int .i64 12, .int .i64 0, .int .i64 0, .int .i64 0, .string (⟨#[]⟩ : ByteArray), .slice none 0 0] (fun k_ => (P1_5_ k_ ∨ w.heap.size ≤ k_) ∧ k_ ≠ gb225 ∧ k_ ≠ gb226) (fun k_ => ((fun k_ => (P1_5_ k_ ∨ w.heap.size ≤ k_) ∧ k_ ≠ gb225 ∧ k_ ≠ gb226)) k_ ∧ some k_ ≠ (v249 : Value).ownBlock) rfl rfl ?aP (fun _ hk => hk) ?aF ?aO ?aB ?aS ?aL ?_; (case aP => exact (kIns_mkF _ _ (⟨12, 0, 0, 0, (⟨#[]⟩ : ByteArray), ([] : List Int)⟩ : SIns) (Nat.le_refl _) (Kd.F_nil _ _ _))); (case aB => exact qB); (case aF => exact (fun k_ hk => ⟨(.inr (Nat.le_trans (below_size qB) hk)), Kd.freshB (g := gb225) (o := .cells #[.string a0_0, .int .i64 a0_1, .int .i64 a0_2, .int .i64 a0_3, .slice A0_4 l0_4.length c0_4] 34 (0, 0)) (qK BK225.out) k_ hk, Kd.freshB (g := gb226) (o := .cells #[.int .i64 a1_0, .int .i64 a1_1, .int .i64 t247, .int .i64 a1_3, .string a1_4, .slice A1_5 l1_5.length c1_5] 31 (0, 0)) (qK BK226.out) k_ hk⟩)); (case aO => exact (qN HO250.out)); (case aS => exact (below_size qB)); (case aL => have := LMc101.out; omega); intro v256 w112 ho hb hg hat; rw [← Ny255.out] at ho; replace HO1_5 := zA (Kd.V_afterv (ok := (fun k_ => (P1_5_ k_ ∨ w.heap.size ≤ k_) ∧ k_ ≠ gb225 ∧ k_ ≠ gb226)) (qV HO1_5.out) hg hat); replace BK225 := zA (blk_grown (qK BK225.out) hg (Kd.N_ne HO250.out BK225.out (by decide))); replace BK226 := zA (blk_grown (qK BK226.out) hg (Kd.N_away HO250.out (fun _ hk => hk.2.2))); replace HB := zA (hb); have HO257 := zA (ho); clear HO250; clear ho hb hg hat; have z113_0 := bk5 BK225.out; obtain ⟨Ao114, co114, eo114⟩ := Kd.N_slice HO257.out; subst eo114) | ((with_reducible refine gate_dst (N := 111) rfl ?_); (try (refine gate_guard (by rfl) ?_; dsimp only)); refine Kd.N_lit (Kd.slice 31 kIns) _ 28 ?hg (N' := 111) ?hd (xs := ([y255] : List (List (SIns)))) (inner := [.slice Ao114 y255.length co114]) (ok := (fun k_ => (P1_5_ k_ ∨ w.heap.size ≤ k_) ∧ k_ ≠ gb225 ∧ k_ ≠ gb226)) (okp := (fun k_ => (P1_5_ k_ ∨ w.heap.size ≤ k_) ∧ k_ ≠ gb225 ∧ k_ ≠ gb226)) ?hr ?hp (fun _ hk => hk) ((show ∀ k_, w112.heap.size ≤ k_ → (fun k_ => (P1_5_ k_ ∨ w.heap.size ≤ k_) ∧ k_ ≠ gb225 ∧ k_ ≠ gb226) k_ from fun k_ hk => ⟨(.inr (Nat.le_trans (below_size qB) hk)), Kd.freshB (g := gb225) (o := .cells #[.string a0_0, .int .i64 a0_1, .int .i64 a0_2, .int .i64 a0_3, .slice A0_4 l0_4.length c0_4] 34 (0, 0)) (qK BK225.out) k_ hk, Kd.freshB (g := gb226) (o := .cells #[.int .i64 a1_0, .int .i64 a1_1, .int .i64 t247, .int .i64 a1_3, .string a1_4, .slice A1_5 l1_5.length c1_5] 31 (0, 0)) (qK BK226.out) k_ hk⟩) _ (Nat.le_refl _)) (Below.refl _ _) (Nat.le_refl _) (by simp) ?_; (case hd => rfl); (case hg => rfl); (case hr => go_simp <;> rfl); (case hp => exact (Reps.one (show Kd.FK (Kd.slice 31 kIns) _ _ y255 [.slice Ao114 y255.length co114] from (Kd.FK_slice_mk (Kd.N_reads' (Kd.N_mono (ok' := (fun k_ => (P1_5_ k_ ∨ w.heap.size ≤ k_) ∧ k_ ≠ gb225 ∧ k_ ≠ gb226)) (HO257.out) (fun k_ hk => ⟨hk.1, ⟨hk.2.1, hk.2.2⟩⟩))).2.1 (Kd.N_F (Kd.N_mono (ok' := (fun k_ => (P1_5_ k_ ∨ w.heap.size ≤ k_) ∧ k_ ≠ gb225 ∧ k_ ≠ gb226)) (HO257.out) (fun k_ hk => ⟨hk.1, ⟨hk.2.1, hk.2.2⟩⟩))))) (Reps.none _ _))); intro v259 w115 ho116 hb hg_ hnew_; clear hg_ hnew_; (first | rw [← Ny258.out] at ho116 | (simp only [Int.reduceToNat] at ho116; rw [← Ny258.out] at ho116)); replace HO1_5 := zA (Kd.V_elder' (qV HO1_5.out) (Kd.N_base ho116) hb); have HO260 := zA (Kd.N_lower ho116 (below_size qB)); replace BK225 := qW BK225 hb; replace BK226 := qW BK226 hb; replace HB := qH hb; clear HO257; clear hb ho116; obtain ⟨Ao117, co117, eo117⟩ := Kd.N_slice HO260.out; subst eo117) | (go_at_call 6; (with_reducible refine (ir_Check.calls k (⟨#[102]⟩ : ByteArray) 0 a0_2 _ _ y258 t261 _ ?side1 ?side2 A102.out (hL := ?side99)).mono ?_); (case side1 => repeat (first | exact (Kd.N_reads' HO260.out).2.2 | (with_reducible refine Kd.C_alloc ?_ _) | (with_reducible refine Kd.C_drewN ?_ _) | (with_reducible refine Kd.C_drew ?_))); (case side2 => exact (Kd.N_reads' HO260.out).2.1); (case side99 => exact LaidW.below HLd.out qB); rintro e w118 ⟨rfl, hb⟩; replace HO1_5 := zA (Kd.V_below (qV HO1_5.out) hb); replace HO260 := zA (Kd.N_below (qN HO260.out) hb); replace BK225 := qW BK225 hb; replace BK226 := qW BK226 hb; replace HB := qH hb; (try clear hb)))
         repeat (go_quiet (first | (go_at_call 32; (with_reducible refine (mach_one_1.to a0_0 a0_1 a0_2 a0_3 A0_4 c0_4 l0_4 a1_2 t247 _ ?side1 ?side2 A83.out (hbk := ?side3) (hx := ?side4) (hf := ?side5)).mono ?_); (case side1 => exact qCB HR0_4.out); (case side2 => exact HC0_4.out); (case side3 => exact (qK BK225.out)); (case side4 => exact (blk_cell (show _ = some (Obj.cells #[.int .i64 a1_0, .int .i64 a1_1, .int .i64 a1_2, .int .i64 a1_3, .string a1_4, .slice A1_5 l1_5.length c1_5] 31 (0, 0)) from (qK BK226.out)) 2).trans rfl); (case side5 => exact blk_frozen (show _ = some (Obj.cells #[.int .i64 a1_0, .int .i64 a1_1, .int .i64 a1_2, .int .i64 a1_3, .string a1_4, .slice A1_5 l1_5.length c1_5] 31 (0, 0)) from (qK BK226.out)) 2); rintro e w_ ⟨rfl, w106, hb, rfl⟩; replace HO1_5 := zA (Kd.V_below (qV HO1_5.out) hb); replace BK225 := qW BK225 hb; replace BK226 := qW BK226 hb; replace HB := qH hb; (try clear hb); have z107_0 := bk6 BK226.out; generalize hw_ : w106.setCell ⟨gb226, 2, none⟩ (.int .i64 t247) = w108; have hw := hw_.symm; clear hw_; have n0_ : Aside0 (Kd.V (Kd.int .i64) 3 w108 w.heap.size (fun k_ => (P1_5_ k_ ∨ w.heap.size ≤ k_) ∧ k_ ≠ gb225 ∧ k_ ≠ gb226) (.slice A1_5 l1_5.length c1_5) l1_5) := ⟨(by rw [hw]; exact (by (with_reducible repeat (first | apply Kd.V_alloc | apply Kd.V_drewN | apply Kd.V_drew)); exact Kd.V_mono (Kd.V_far (p := ⟨gb226, 2, none⟩) (Kd.V_mono HO1_5.out (fun k_ hk => (⟨hk, hk.2⟩ : _ ∧ k_ ≠ gb226))) (fun _ hk => hk.2) (.int .i64 t247)) (fun _ hk => ⟨hk.1.1.1, ⟨hk.1.1.2, hk.1.2⟩⟩)))⟩; have n1_ : Aside0 (w108.heap[gb225]? = some (.cells #[.string a0_0, .int .i64 a0_1, .int .i64 a0_2, .int .i64 a0_3, .slice A0_4 l0_4.length c0_4] 34 (0, 0))) := ⟨(by rw [hw]; exact (by (with_reducible repeat (first | refine blk_drewN ?_ _ | refine blk_drew ?_ | refine blk_alloc ?_ _)); refine blk_far ?_ NB225_226.out _; (with_reducible repeat (first | refine blk_drewN ?_ _ | refine blk_drew ?_ | refine blk_alloc ?_ _)); exact BK225.out))⟩; have n2_ : Aside0 (w108.heap[gb226]? = some (.cells #[.int .i64 a1_0, .int .i64 a1_1, .int .i64 t247, .int .i64 a1_3, .string a1_4, .slice A1_5 l1_5.length c1_5] 31 (0, 0))) := ⟨(by rw [hw]; exact (by (with_reducible repeat (first | refine blk_drewN ?_ _ | refine blk_drew ?_ | refine blk_alloc ?_ _)); refine blk_put (cs := #[.int .i64 a1_0, .int .i64 a1_1, .int .i64 a1_2, .int .i64 a1_3, .string a1_4, .slice A1_5 l1_5.length c1_5]) ?_ 2 _ rfl; (with_reducible repeat (first | refine blk_drewN ?_ _ | refine blk_drew ?_ | refine blk_alloc ?_ _)); exact BK226.out))⟩; have n3_ : Aside0 (Below w.heap.size w w108) := ⟨(by rw [hw]; exact qB)⟩; clear hw; clear HO1_5; clear BK225; clear BK226; clear HB; have HO1_5 := n0_; have BK225 := n1_; have BK226 := n2_; have HB := n3_; clear n0_ n1_ n2_ n3_; have z109_0 := bk6 BK226.out) | ((with_reducible refine gate_dst (N := 101) rfl ?_); (try (refine gate_guard (by rfl) ?_; dsimp only)); refine Kd.N_lit kIns _ 31 ?hg (N' := 101) ?hd (xs := ([(⟨a1_0, a1_1, t247, a1_3, a1_4, l1_5⟩ : SIns)] : List (SIns))) (inner := [.int .i64 a1_0, .int .i64 a1_1, .int .i64 t247, .int .i64 a1_3, .string a1_4, .slice A1_5 l1_5.length c1_5]) (ok := (fun k_ => (P1_5_ k_ ∨ w.heap.size ≤ k_) ∧ k_ ≠ gb225 ∧ k_ ≠ gb226)) (okp := (fun k_ => (P1_5_ k_ ∨ w.heap.size ≤ k_) ∧ k_ ≠ gb225 ∧ k_ ≠ gb226)) ?hr ?hp (fun _ hk => hk) ((show ∀ k_, w108.heap.size ≤ k_ → (fun k_ => (P1_5_ k_ ∨ w.heap.size ≤ k_) ∧ k_ ≠ gb225 ∧ k_ ≠ gb226) k_ from fun k_ hk => ⟨(.inr (Nat.le_trans (below_size qB) hk)), Kd.freshB (g := gb225) (o := .cells #[.string a0_0, .int .i64 a0_1, .int .i64 a0_2, .int .i64 a0_3, .slice A0_4 l0_4.length c0_4] 34 (0, 0)) (qK BK225.out) k_ hk, Kd.freshB (g := gb226) (o := .cells #[.int .i64 a1_0, .int .i64 a1_1, .int .i64 t247, .int .i64 a1_3, .string a1_4, .slice A1_5 l1_5.length c1_5] 31 (0, 0)) (qK BK226.out) k_ hk⟩) _ (Nat.le_refl _)) (Below.refl _ _) (Nat.le_refl _) (by simp) ?_; (case hd => rfl); (case hg => rfl); (case hr => go_simp <;> rfl); (case hp => exact (Reps.c6 (show Kd.FK kIns _ _ (⟨a1_0, a1_1, t247, a1_3, a1_4, l1_5⟩ : SIns) [.int .i64 a1_0, .int .i64 a1_1, .int .i64 t247, .int .i64 a1_3, .string a1_4, .slice A1_5 l1_5.length c1_5] from (kIns_mkF _ _ (⟨a1_0, a1_1, t247, a1_3, a1_4, l1_5⟩ : SIns) (Kd.V_reads' (Kd.V_mono (ok' := (fun k_ => (P1_5_ k_ ∨ w.heap.size ≤ k_) ∧ k_ ≠ gb225 ∧ k_ ≠ gb226)) (HO1_5.out) (fun k_ hk => ⟨hk.1, ⟨hk.2.1, hk.2.2⟩⟩))).2.1 (Kd.V_F (Kd.V_mono (ok' := (fun k_ => (P1_5_ k_ ∨ w.heap.size ≤ k_) ∧ k_ ≠ gb225 ∧ k_ ≠ gb226)) (HO1_5.out) (fun k_ hk => ⟨hk.1, ⟨hk.2.1, hk.2.2⟩⟩))))) (Reps.none _ _))); intro v249 w110 ho111 hb hg_ hnew_; clear hg_ hnew_; (first | rw [← Ny248.out] at ho111 | (simp only [Int.reduceToNat] at ho111; rw [← Ny248.out] at ho111)); replace HO1_5 := zA (Kd.V_elder' (qV HO1_5.out) (Kd.N_base ho111) hb); have HO250 := zA (Kd.N_lower ho111 (below_size qB)); replace BK225 := qW BK225 hb; replace BK226 := qW BK226 hb; replace HB := qH hb; clear hb ho111) | ((with_reducible refine gate_builtin (b := .append) (xs := #[.tmp 104, .tmp 106]) rfl ?_); (try (refine gate_guard (by rfl) ?_; dsimp only)); at_builtin; refine Kd.N_append kIns (w0 := w) w.heap.size rfl (.tmp 104) (.tmp 106) 28 31 (.agg #[(.int .i64 0), (.int .i64 0), (.int .i64 0), (.int .i64 0), (.string ⟨#[]⟩), (.slice none 0 0)]) 72 rfl Tryd.underlying28 info31 rfl (by decide) (by omega) v249 y248 (⟨12, 0, 0, 0, (⟨#[]⟩ : ByteArray), ([] : List Int)⟩ : SIns) [.int .i64 12, .int .i64 0, .int .i64 0, .int .i64 0, .string (⟨#[]⟩ : ByteArray), .slice none 0 0] (fun k_ => (P1_5_ k_ ∨ w.heap.size ≤ k_) ∧ k_ ≠ gb225 ∧ k_ ≠ gb226) (fun k_ => ((fun k_ => (P1_5_ k_ ∨ w.heap.size ≤ k_) ∧ k_ ≠ gb225 ∧ k_ ≠ gb226)) k_ ∧ some k_ ≠ (v249 : Value).ownBlock) rfl rfl ?aP (fun _ hk => hk) ?aF ?aO ?aB ?aS ?aL ?_; (case aP => exact (kIns_mkF _ _ (⟨12, 0, 0, 0, (⟨#[]⟩ : ByteArray), ([] : List Int)⟩ : SIns) (Nat.le_refl _) (Kd.F_nil _ _ _))); (case aB => exact qB); (case aF => exact (fun k_ hk => ⟨(.inr (Nat.le_trans (below_size qB) hk)), Kd.freshB (g := gb225) (o := .cells #[.string a0_0, .int .i64 a0_1, .int .i64 a0_2, .int .i64 a0_3, .slice A0_4 l0_4.length c0_4] 34 (0, 0)) (qK BK225.out) k_ hk, Kd.freshB (g := gb226) (o := .cells #[.int .i64 a1_0, .int .i64 a1_1, .int .i64 t247, .int .i64 a1_3, .string a1_4, .slice A1_5 l1_5.length c1_5] 31 (0, 0)) (qK BK226.out) k_ hk⟩)); (case aO => exact (qN HO250.out)); (case aS => exact (below_size qB)); (case aL => have := LMc101.out; omega); intro v256 w112 ho hb hg hat; rw [← Ny255.out] at ho; replace HO1_5 := zA (Kd.V_afterv (ok := (fun k_ => (P1_5_ k_ ∨ w.heap.size ≤ k_) ∧ k_ ≠ gb225 ∧ k_ ≠ gb226)) (qV HO1_5.out) hg hat); replace BK225 := zA (blk_grown (qK BK225.out) hg (Kd.N_ne HO250.out BK225.out (by decide))); replace BK226 := zA (blk_grown (qK BK226.out) hg (Kd.N_away HO250.out (fun _ hk => hk.2.2))); replace HB := zA (hb); have HO257 := zA (ho); clear HO250; clear ho hb hg hat; have z113_0 := bk5 BK225.out; obtain ⟨Ao114, co114, eo114⟩ := Kd.N_slice HO257.out; subst eo114) | ((with_reducible refine gate_dst (N := 111) rfl ?_); (try (refine gate_guard (by rfl) ?_; dsimp only)); refine Kd.N_lit (Kd.slice 31 kIns) _ 28 ?hg (N' := 111) ?hd (xs := ([y255] : List (List (SIns)))) (inner := [.slice Ao114 y255.length co114]) (ok := (fun k_ => (P1_5_ k_ ∨ w.heap.size ≤ k_) ∧ k_ ≠ gb225 ∧ k_ ≠ gb226)) (okp := (fun k_ => (P1_5_ k_ ∨ w.heap.size ≤ k_) ∧ k_ ≠ gb225 ∧ k_ ≠ gb226)) ?hr ?hp (fun _ hk => hk) ((show ∀ k_, w112.heap.size ≤ k_ → (fun k_ => (P1_5_ k_ ∨ w.heap.size ≤ k_) ∧ k_ ≠ gb225 ∧ k_ ≠ gb226) k_ from fun k_ hk => ⟨(.inr (Nat.le_trans (below_size qB) hk)), Kd.freshB (g := gb225) (o := .cells #[.string a0_0, .int .i64 a0_1, .int .i64 a0_2, .int .i64 a0_3, .slice A0_4 l0_4.length c0_4] 34 (0, 0)) (qK BK225.out) k_ hk, Kd.freshB (g := gb226) (o := .cells #[.int .i64 a1_0, .int .i64 a1_1, .int .i64 t247, .int .i64 a1_3, .string a1_4, .slice A1_5 l1_5.length c1_5] 31 (0, 0)) (qK BK226.out) k_ hk⟩) _ (Nat.le_refl _)) (Below.refl _ _) (Nat.le_refl _) (by simp) ?_; (case hd => rfl); (case hg => rfl); (case hr => go_simp <;> rfl); (case hp => exact (Reps.one (show Kd.FK (Kd.slice 31 kIns) _ _ y255 [.slice Ao114 y255.length co114] from (Kd.FK_slice_mk (Kd.N_reads' (Kd.N_mono (ok' := (fun k_ => (P1_5_ k_ ∨ w.heap.size ≤ k_) ∧ k_ ≠ gb225 ∧ k_ ≠ gb226)) (HO257.out) (fun k_ hk => ⟨hk.1, ⟨hk.2.1, hk.2.2⟩⟩))).2.1 (Kd.N_F (Kd.N_mono (ok' := (fun k_ => (P1_5_ k_ ∨ w.heap.size ≤ k_) ∧ k_ ≠ gb225 ∧ k_ ≠ gb226)) (HO257.out) (fun k_ hk => ⟨hk.1, ⟨hk.2.1, hk.2.2⟩⟩))))) (Reps.none _ _))); intro v259 w115 ho116 hb hg_ hnew_; clear hg_ hnew_; (first | rw [← Ny258.out] at ho116 | (simp only [Int.reduceToNat] at ho116; rw [← Ny258.out] at ho116)); replace HO1_5 := zA (Kd.V_elder' (qV HO1_5.out) (Kd.N_base ho116) hb); have HO260 := zA (Kd.N_lower ho116 (below_size qB)); replace BK225 := qW BK225 hb; replace BK226 := qW BK226 hb; replace HB := qH hb; clear HO257; clear hb ho116; obtain ⟨Ao117, co117, eo117⟩ := Kd.N_slice HO260.out; subst eo117) | (go_at_call 6; (with_reducible refine (ir_Check.calls k (⟨#[102]⟩ : ByteArray) 0 a0_2 _ _ y258 t261 _ ?side1 ?side2 A102.out (hL := ?side99)).mono ?_); (case side1 => repeat (first | exact (Kd.N_reads' HO260.out).2.2 | (with_reducible refine Kd.C_alloc ?_ _) | (with_reducible refine Kd.C_drewN ?_ _) | (with_reducible refine Kd.C_drew ?_))); (case side2 => exact (Kd.N_reads' HO260.out).2.1); (case side99 => exact LaidW.below HLd.out qB); rintro e w118 ⟨rfl, hb⟩; replace HO1_5 := zA (Kd.V_below (qV HO1_5.out) hb); replace HO260 := zA (Kd.N_below (qN HO260.out) hb); replace BK225 := qW BK225 hb; replace BK226 := qW BK226 hb; replace HB := qH hb; (try clear hb))); try go_wp2_with (first | (go_at_call 32; (with_reducible refine (mach_one_1.calls a0_0 a0_1 a0_2 a0_3 _ _ l0_4 a1_2 t247 _ ?side1 ?side2 A83.out).mono ?_); (case side1 => exact qCB HR0_4.out); (case side2 => exact HC0_4.out); rintro e w106 ⟨rfl, hb⟩; replace HO1_5 := zA (Kd.V_below (qV HO1_5.out) hb); replace BK225 := qW BK225 hb; replace BK226 := qW BK226 hb; replace HB := qH hb; (try clear hb); have z107_0 := bk6 BK226.out) | ((with_reducible refine gate_store (t := 3) (p := 98) rfl ?_); (try (rw [drewN_self w106]; generalize hq_ : World.drewN w106 _ = w106; have n0_ := zA (Kd.V_at hq_ HO1_5.out); have n1_ := zA (blk_at hq_ BK225.out); have n2_ := zA (blk_at hq_ BK226.out); have n3_ := zA (below_at hq_ HB.out); clear hq_ HO1_5 BK225 BK226 HB; have HO1_5 := n0_; have BK225 := n1_; have BK226 := n2_; have HB := n3_; clear n0_ n1_ n2_ n3_)); refine store_event (t := 3) (p := 98) (v := ?vo_w108) (w1 := (w106.setCell ⟨gb226, 2, none⟩ (.int .i64 t247))) (by rfl) (by rfl) (by rfl) ?hr ?_; (case hr => go_simp <;> rfl); intro w108 hw; have n0_ : Aside0 (Kd.V (Kd.int .i64) 3 w108 w.heap.size (fun k_ => (P1_5_ k_ ∨ w.heap.size ≤ k_) ∧ k_ ≠ gb225 ∧ k_ ≠ gb226) (.slice A1_5 l1_5.length c1_5) l1_5) := ⟨(by rw [hw]; exact (by (with_reducible repeat (first | apply Kd.V_alloc | apply Kd.V_drewN | apply Kd.V_drew)); exact Kd.V_mono (Kd.V_far (p := ⟨gb226, 2, none⟩) (Kd.V_mono HO1_5.out (fun k_ hk => (⟨hk, hk.2⟩ : _ ∧ k_ ≠ gb226))) (fun _ hk => hk.2) (.int .i64 t247)) (fun _ hk => ⟨hk.1.1.1, ⟨hk.1.1.2, hk.1.2⟩⟩)))⟩; have n1_ : Aside0 (w108.heap[gb225]? = some (.cells #[.string a0_0, .int .i64 a0_1, .int .i64 a0_2, .int .i64 a0_3, .slice A0_4 l0_4.length c0_4] 34 (0, 0))) := ⟨(by rw [hw]; exact (by (with_reducible repeat (first | refine blk_drewN ?_ _ | refine blk_drew ?_ | refine blk_alloc ?_ _)); refine blk_far ?_ NB225_226.out _; (with_reducible repeat (first | refine blk_drewN ?_ _ | refine blk_drew ?_ | refine blk_alloc ?_ _)); exact BK225.out))⟩; have n2_ : Aside0 (w108.heap[gb226]? = some (.cells #[.int .i64 a1_0, .int .i64 a1_1, .int .i64 t247, .int .i64 a1_3, .string a1_4, .slice A1_5 l1_5.length c1_5] 31 (0, 0))) := ⟨(by rw [hw]; exact (by (with_reducible repeat (first | refine blk_drewN ?_ _ | refine blk_drew ?_ | refine blk_alloc ?_ _)); refine blk_put (cs := #[.int .i64 a1_0, .int .i64 a1_1, .int .i64 a1_2, .int .i64 a1_3, .string a1_4, .slice A1_5 l1_5.length c1_5]) ?_ 2 _ rfl; (with_reducible repeat (first | refine blk_drewN ?_ _ | refine blk_drew ?_ | refine blk_alloc ?_ _)); exact BK226.out))⟩; have n3_ : Aside0 (Below w.heap.size w w108) := ⟨(by rw [hw]; exact qB)⟩; clear hw; clear HO1_5; clear BK225; clear BK226; clear HB; have HO1_5 := n0_; have BK225 := n1_; have BK226 := n2_; have HB := n3_; clear n0_ n1_ n2_ n3_; have z109_0 := bk6 BK226.out) | ((with_reducible refine gate_dst (N := 101) rfl ?_); (try (refine gate_guard (by rfl) ?_; dsimp only)); refine Kd.N_lit kIns _ 31 ?hg (N' := 101) ?hd (xs := ([(⟨a1_0, a1_1, t247, a1_3, a1_4, l1_5⟩ : SIns)] : List (SIns))) (inner := [.int .i64 a1_0, .int .i64 a1_1, .int .i64 t247, .int .i64 a1_3, .string a1_4, .slice A1_5 l1_5.length c1_5]) (ok := (fun k_ => (P1_5_ k_ ∨ w.heap.size ≤ k_) ∧ k_ ≠ gb225 ∧ k_ ≠ gb226)) (okp := (fun k_ => (P1_5_ k_ ∨ w.heap.size ≤ k_) ∧ k_ ≠ gb225 ∧ k_ ≠ gb226)) ?hr ?hp (fun _ hk => hk) ((show ∀ k_, w108.heap.size ≤ k_ → (fun k_ => (P1_5_ k_ ∨ w.heap.size ≤ k_) ∧ k_ ≠ gb225 ∧ k_ ≠ gb226) k_ from fun k_ hk => ⟨(.inr (Nat.le_trans (below_size qB) hk)), Kd.freshB (g := gb225) (o := .cells #[.string a0_0, .int .i64 a0_1, .int .i64 a0_2, .int .i64 a0_3, .slice A0_4 l0_4.length c0_4] 34 (0, 0)) (qK BK225.out) k_ hk, Kd.freshB (g := gb226) (o := .cells #[.int .i64 a1_0, .int .i64 a1_1, .int .i64 t247, .int .i64 a1_3, .string a1_4, .slice A1_5 l1_5.length c1_5] 31 (0, 0)) (qK BK226.out) k_ hk⟩) _ (Nat.le_refl _)) (Below.refl _ _) (Nat.le_refl _) (by simp) ?_; (case hd => rfl); (case hg => rfl); (case hr => go_simp <;> rfl); (case hp => exact (Reps.c6 (show Kd.FK kIns _ _ (⟨a1_0, a1_1, t247, a1_3, a1_4, l1_5⟩ : SIns) [.int .i64 a1_0, .int .i64 a1_1, .int .i64 t247, .int .i64 a1_3, .string a1_4, .slice A1_5 l1_5.length c1_5] from (kIns_mkF _ _ (⟨a1_0, a1_1, t247, a1_3, a1_4, l1_5⟩ : SIns) (Kd.V_reads' (Kd.V_mono (ok' := (fun k_ => (P1_5_ k_ ∨ w.heap.size ≤ k_) ∧ k_ ≠ gb225 ∧ k_ ≠ gb226)) (HO1_5.out) (fun k_ hk => ⟨hk.1, ⟨hk.2.1, hk.2.2⟩⟩))).2.1 (Kd.V_F (Kd.V_mono (ok' := (fun k_ => (P1_5_ k_ ∨ w.heap.size ≤ k_) ∧ k_ ≠ gb225 ∧ k_ ≠ gb226)) (HO1_5.out) (fun k_ hk => ⟨hk.1, ⟨hk.2.1, hk.2.2⟩⟩))))) (Reps.none _ _))); intro v249 w110 ho111 hb hg_ hnew_; clear hg_ hnew_; (first | rw [← Ny248.out] at ho111 | (simp only [Int.reduceToNat] at ho111; rw [← Ny248.out] at ho111)); replace HO1_5 := zA (Kd.V_elder' (qV HO1_5.out) (Kd.N_base ho111) hb); have HO250 := zA (Kd.N_lower ho111 (below_size qB)); replace BK225 := qW BK225 hb; replace BK226 := qW BK226 hb; replace HB := qH hb; clear hb ho111) | ((with_reducible refine gate_builtin (b := .append) (xs := #[.tmp 104, .tmp 106]) rfl ?_); (try (refine gate_guard (by rfl) ?_; dsimp only)); at_builtin; refine Kd.N_append kIns (w0 := w) w.heap.size rfl (.tmp 104) (.tmp 106) 28 31 (.agg #[(.int .i64 0), (.int .i64 0), (.int .i64 0), (.int .i64 0), (.string ⟨#[]⟩), (.slice none 0 0)]) 72 rfl Tryd.underlying28 info31 rfl (by decide) (by omega) v249 y248 (⟨12, 0, 0, 0, (⟨#[]⟩ : ByteArray), ([] : List Int)⟩ : SIns) [.int .i64 12, .int .i64 0, .int .i64 0, .int .i64 0, .string (⟨#[]⟩ : ByteArray), .slice none 0 0] (fun k_ => (P1_5_ k_ ∨ w.heap.size ≤ k_) ∧ k_ ≠ gb225 ∧ k_ ≠ gb226) (fun k_ => ((fun k_ => (P1_5_ k_ ∨ w.heap.size ≤ k_) ∧ k_ ≠ gb225 ∧ k_ ≠ gb226)) k_ ∧ some k_ ≠ (v249 : Value).ownBlock) rfl rfl ?aP (fun _ hk => hk) ?aF ?aO ?aB ?aS ?aL ?_; (case aP => exact (kIns_mkF _ _ (⟨12, 0, 0, 0, (⟨#[]⟩ : ByteArray), ([] : List Int)⟩ : SIns) (Nat.le_refl _) (Kd.F_nil _ _ _))); (case aB => exact qB); (case aF => exact (fun k_ hk => ⟨(.inr (Nat.le_trans (below_size qB) hk)), Kd.freshB (g := gb225) (o := .cells #[.string a0_0, .int .i64 a0_1, .int .i64 a0_2, .int .i64 a0_3, .slice A0_4 l0_4.length c0_4] 34 (0, 0)) (qK BK225.out) k_ hk, Kd.freshB (g := gb226) (o := .cells #[.int .i64 a1_0, .int .i64 a1_1, .int .i64 t247, .int .i64 a1_3, .string a1_4, .slice A1_5 l1_5.length c1_5] 31 (0, 0)) (qK BK226.out) k_ hk⟩)); (case aO => exact (qN HO250.out)); (case aS => exact (below_size qB)); (case aL => have := LMc101.out; omega); intro v256 w112 ho hb hg hat; rw [← Ny255.out] at ho; replace HO1_5 := zA (Kd.V_afterv (ok := (fun k_ => (P1_5_ k_ ∨ w.heap.size ≤ k_) ∧ k_ ≠ gb225 ∧ k_ ≠ gb226)) (qV HO1_5.out) hg hat); replace BK225 := zA (blk_grown (qK BK225.out) hg (Kd.N_ne HO250.out BK225.out (by decide))); replace BK226 := zA (blk_grown (qK BK226.out) hg (Kd.N_away HO250.out (fun _ hk => hk.2.2))); replace HB := zA (hb); have HO257 := zA (ho); clear HO250; clear ho hb hg hat; have z113_0 := bk5 BK225.out; obtain ⟨Ao114, co114, eo114⟩ := Kd.N_slice HO257.out; subst eo114) | ((with_reducible refine gate_dst (N := 111) rfl ?_); (try (refine gate_guard (by rfl) ?_; dsimp only)); refine Kd.N_lit (Kd.slice 31 kIns) _ 28 ?hg (N' := 111) ?hd (xs := ([y255] : List (List (SIns)))) (inner := [.slice Ao114 y255.length co114]) (ok := (fun k_ => (P1_5_ k_ ∨ w.heap.size ≤ k_) ∧ k_ ≠ gb225 ∧ k_ ≠ gb226)) (okp := (fun k_ => (P1_5_ k_ ∨ w.heap.size ≤ k_) ∧ k_ ≠ gb225 ∧ k_ ≠ gb226)) ?hr ?hp (fun _ hk => hk) ((show ∀ k_, w112.heap.size ≤ k_ → (fun k_ => (P1_5_ k_ ∨ w.heap.size ≤ k_) ∧ k_ ≠ gb225 ∧ k_ ≠ gb226) k_ from fun k_ hk => ⟨(.inr (Nat.le_trans (below_size qB) hk)), Kd.freshB (g := gb225) (o := .cells #[.string a0_0, .int .i64 a0_1, .int .i64 a0_2, .int .i64 a0_3, .slice A0_4 l0_4.length c0_4] 34 (0, 0)) (qK BK225.out) k_ hk, Kd.freshB (g := gb226) (o := .cells #[.int .i64 a1_0, .int .i64 a1_1, .int .i64 t247, .int .i64 a1_3, .string a1_4, .slice A1_5 l1_5.length c1_5] 31 (0, 0)) (qK BK226.out) k_ hk⟩) _ (Nat.le_refl _)) (Below.refl _ _) (Nat.le_refl _) (by simp) ?_; (case hd => rfl); (case hg => rfl); (case hr => go_simp <;> rfl); (case hp => exact (Reps.one (show Kd.FK (Kd.slice 31 kIns) _ _ y255 [.slice Ao114 y255.length co114] from (Kd.FK_slice_mk (Kd.N_reads' (Kd.N_mono (ok' := (fun k_ => (P1_5_ k_ ∨ w.heap.size ≤ k_) ∧ k_ ≠ gb225 ∧ k_ ≠ gb226)) (HO257.out) (fun k_ hk => ⟨hk.1, ⟨hk.2.1, hk.2.2⟩⟩))).2.1 (Kd.N_F (Kd.N_mono (ok' := (fun k_ => (P1_5_ k_ ∨ w.heap.size ≤ k_) ∧ k_ ≠ gb225 ∧ k_ ≠ gb226)) (HO257.out) (fun k_ hk => ⟨hk.1, ⟨hk.2.1, hk.2.2⟩⟩))))) (Reps.none _ _))); intro v259 w115 ho116 hb hg_ hnew_; clear hg_ hnew_; (first | rw [← Ny258.out] at ho116 | (simp only [Int.reduceToNat] at ho116; rw [← Ny258.out] at ho116)); replace HO1_5 := zA (Kd.V_elder' (qV HO1_5.out) (Kd.N_base ho116) hb); have HO260 := zA (Kd.N_lower ho116 (below_size qB)); replace BK225 := qW BK225 hb; replace BK226 := qW BK226 hb; replace HB := qH hb; clear HO257; clear hb ho116; obtain ⟨Ao117, co117, eo117⟩ := Kd.N_slice HO260.out; subst eo117) | (go_at_call 6; (with_reducible refine (ir_Check.calls k (⟨#[102]⟩ : ByteArray) 0 a0_2 _ _ y258 t261 _ ?side1 ?side2 A102.out (hL := ?side99)).mono ?_); (case side1 => repeat (first | exact (Kd.N_reads' HO260.out).2.2 | (with_reducible refine Kd.C_alloc ?_ _) | (with_reducible refine Kd.C_drewN ?_ _) | (with_reducible refine Kd.C_drew ?_))); (case side2 => exact (Kd.N_reads' HO260.out).2.1); (case side99 => exact LaidW.below HLd.out qB); rintro e w118 ⟨rfl, hb⟩; replace HO1_5 := zA (Kd.V_below (qV HO1_5.out) hb); replace HO260 := zA (Kd.N_below (qN HO260.out) hb); replace BK225 := qW BK225 hb; replace BK226 := qW BK226 hb; replace HB := qH hb; (try clear hb))))
         go_ret
         exact ⟨qE, qB⟩
        ·rw [zD c101] at H
         exact absurd H (by simp)
      ·rw [zD c82] at H
       obtain ⟨c82b0, c82b1⟩ := qn c82
       obtain ⟨y262, hy262⟩ : ∃ y_ : List (SIns), y_ = (([(⟨a1_0, a1_1, a1_2, a1_3, a1_4, l1_5⟩ : SIns)] : List (SIns))) := ⟨_, rfl⟩
       replace H : (if a2 = true then ((ir_Check.f k (⟨#[102]⟩ : ByteArray) 0 a0_2 (([y262] : List (List (SIns))))).bind fun t268 => (some t268)) else (if y262.length < 1954687338268 then ((ir_Check.f k (⟨#[102]⟩ : ByteArray) 0 a0_2 (([(y262 ++ [(⟨12, 0, 0, 0, (⟨#[]⟩ : ByteArray), ([] : List Int)⟩ : SIns)])] : List (List (SIns))))).bind fun t275 => (some t275)) else (none))) = some r := by (try rw [hy262]); first | with_reducible exact H | exact (zJ _ _).symm.trans H | exact H
       have Ny262 := zA hy262
       clear hy262
       by_cases c119 : a2 = true
       ·subst c119
        have H1 : ((ir_Check.f k (⟨#[102]⟩ : ByteArray) 0 a0_2 (([y262] : List (List (SIns))))).bind fun t268 => (some t268)) = some r := by rw [zC rfl] at H; exact H
        clear H
        have H := H1
        clear H1
        obtain ⟨y265, hy265⟩ : ∃ y_ : List (List (SIns)), y_ = (([y262] : List (List (SIns)))) := ⟨_, rfl⟩
        replace H : ((ir_Check.f k (⟨#[102]⟩ : ByteArray) 0 a0_2 y265).bind fun t268 => (some t268)) = some r := by (try rw [hy265]); first | with_reducible exact H | exact (zJ _ _).symm.trans H | exact H
        have Ny265 := zA hy265
        clear hy265
        replace H := qb H; obtain ⟨t268, A120, H⟩ := H
        obtain rfl := zI H
        have hnb121 := NB226_225.out
        have hnc121 := NB225_226.out
        have z122_0 := bk6 BK226.out
        go_wp2_with (first | ((with_reducible refine gate_dst (N := 101) rfl ?_); (try (refine gate_guard (by rfl) ?_; dsimp only)); refine Kd.N_lit kIns _ 31 ?hg (N' := 101) ?hd (xs := ([(⟨a1_0, a1_1, a1_2, a1_3, a1_4, l1_5⟩ : SIns)] : List (SIns))) (inner := [.int .i64 a1_0, .int .i64 a1_1, .int .i64 a1_2, .int .i64 a1_3, .string a1_4, .slice A1_5 l1_5.length c1_5]) (ok := (fun k_ => (P1_5_ k_ ∨ w.heap.size ≤ k_) ∧ k_ ≠ gb225 ∧ k_ ≠ gb226)) (okp := (fun k_ => (P1_5_ k_ ∨ w.heap.size ≤ k_) ∧ k_ ≠ gb225 ∧ k_ ≠ gb226)) ?hr ?hp (fun _ hk => hk) ((show ∀ k_, w6.heap.size ≤ k_ → (fun k_ => (P1_5_ k_ ∨ w.heap.size ≤ k_) ∧ k_ ≠ gb225 ∧ k_ ≠ gb226) k_ from fun k_ hk => ⟨(.inr (Nat.le_trans (below_size qB) hk)), Kd.freshB (g := gb225) (o := .cells #[.string a0_0, .int .i64 a0_1, .int .i64 a0_2, .int .i64 a0_3, .slice A0_4 l0_4.length c0_4] 34 (0, 0)) (qK BK225.out) k_ hk, Kd.freshB (g := gb226) (o := .cells #[.int .i64 a1_0, .int .i64 a1_1, .int .i64 a1_2, .int .i64 a1_3, .string a1_4, .slice A1_5 l1_5.length c1_5] 31 (0, 0)) (qK BK226.out) k_ hk⟩) _ (Nat.le_refl _)) (Below.refl _ _) (Nat.le_refl _) (by simp) ?_; (case hd => rfl); (case hg => rfl); (case hr => go_simp <;> rfl); (case hp => exact (Reps.c6 (show Kd.FK kIns _ _ (⟨a1_0, a1_1, a1_2, a1_3, a1_4, l1_5⟩ : SIns) [.int .i64 a1_0, .int .i64 a1_1, .int .i64 a1_2, .int .i64 a1_3, .string a1_4, .slice A1_5 l1_5.length c1_5] from (kIns_mkF _ _ (⟨a1_0, a1_1, a1_2, a1_3, a1_4, l1_5⟩ : SIns) (Kd.V_reads' (Kd.V_mono (ok' := (fun k_ => (P1_5_ k_ ∨ w.heap.size ≤ k_) ∧ k_ ≠ gb225 ∧ k_ ≠ gb226)) (HO1_5.out) (fun k_ hk => ⟨hk.1.1, ⟨hk.1.2, hk.2⟩⟩))).2.1 (Kd.V_F (Kd.V_mono (ok' := (fun k_ => (P1_5_ k_ ∨ w.heap.size ≤ k_) ∧ k_ ≠ gb225 ∧ k_ ≠ gb226)) (Kd.V_drewN HO1_5.out _) (fun k_ hk => ⟨hk.1.1, ⟨hk.1.2, hk.2⟩⟩))))) (Reps.none _ _))); intro v263 w123 ho124 hb hg_ hnew_; clear hg_ hnew_; (first | rw [← Ny262.out] at ho124 | (simp only [Int.reduceToNat] at ho124; rw [← Ny262.out] at ho124)); replace HO1_5 := zA (Kd.V_elder' (qV HO1_5.out) (Kd.N_base ho124) hb); have HO264 := zA (Kd.N_lower ho124 (below_size qB)); replace BK225 := qW BK225 hb; replace BK226 := qW BK226 hb; replace HB := qH hb; clear hb ho124; have z125_0 := bk5 BK225.out; obtain ⟨Ao126, co126, eo126⟩ := Kd.N_slice HO264.out; subst eo126) | ((with_reducible refine gate_dst (N := 111) rfl ?_); (try (refine gate_guard (by rfl) ?_; dsimp only)); refine Kd.N_lit (Kd.slice 31 kIns) _ 28 ?hg (N' := 111) ?hd (xs := ([y262] : List (List (SIns)))) (inner := [.slice Ao126 y262.length co126]) (ok := (fun k_ => (P1_5_ k_ ∨ w.heap.size ≤ k_) ∧ k_ ≠ gb225 ∧ k_ ≠ gb226)) (okp := (fun k_ => (P1_5_ k_ ∨ w.heap.size ≤ k_) ∧ k_ ≠ gb225 ∧ k_ ≠ gb226)) ?hr ?hp (fun _ hk => hk) ((show ∀ k_, w123.heap.size ≤ k_ → (fun k_ => (P1_5_ k_ ∨ w.heap.size ≤ k_) ∧ k_ ≠ gb225 ∧ k_ ≠ gb226) k_ from fun k_ hk => ⟨(.inr (Nat.le_trans (below_size qB) hk)), Kd.freshB (g := gb225) (o := .cells #[.string a0_0, .int .i64 a0_1, .int .i64 a0_2, .int .i64 a0_3, .slice A0_4 l0_4.length c0_4] 34 (0, 0)) (qK BK225.out) k_ hk, Kd.freshB (g := gb226) (o := .cells #[.int .i64 a1_0, .int .i64 a1_1, .int .i64 a1_2, .int .i64 a1_3, .string a1_4, .slice A1_5 l1_5.length c1_5] 31 (0, 0)) (qK BK226.out) k_ hk⟩) _ (Nat.le_refl _)) (Below.refl _ _) (Nat.le_refl _) (by simp) ?_; (case hd => rfl); (case hg => rfl); (case hr => go_simp <;> rfl); (case hp => exact (Reps.one (show Kd.FK (Kd.slice 31 kIns) _ _ y262 [.slice Ao126 y262.length co126] from (Kd.FK_slice_mk (Kd.N_reads' (Kd.N_mono (ok' := (fun k_ => (P1_5_ k_ ∨ w.heap.size ≤ k_) ∧ k_ ≠ gb225 ∧ k_ ≠ gb226)) (HO264.out) (fun k_ hk => ⟨hk.1, ⟨hk.2.1, hk.2.2⟩⟩))).2.1 (Kd.N_F (Kd.N_mono (ok' := (fun k_ => (P1_5_ k_ ∨ w.heap.size ≤ k_) ∧ k_ ≠ gb225 ∧ k_ ≠ gb226)) (HO264.out) (fun k_ hk => ⟨hk.1, ⟨hk.2.1, hk.2.2⟩⟩))))) (Reps.none _ _))); intro v266 w127 ho128 hb hg_ hnew_; clear hg_ hnew_; (first | rw [← Ny265.out] at ho128 | (simp only [Int.reduceToNat] at ho128; rw [← Ny265.out] at ho128)); replace HO1_5 := zA (Kd.V_elder' (qV HO1_5.out) (Kd.N_base ho128) hb); have HO267 := zA (Kd.N_lower ho128 (below_size qB)); replace BK225 := qW BK225 hb; replace BK226 := qW BK226 hb; replace HB := qH hb; clear HO264; clear hb ho128; obtain ⟨Ao129, co129, eo129⟩ := Kd.N_slice HO267.out; subst eo129) | (go_at_call 6; (with_reducible refine (ir_Check.calls k (⟨#[102]⟩ : ByteArray) 0 a0_2 _ _ y265 t268 _ ?side1 ?side2 A120.out (hL := ?side99)).mono ?_); (case side1 => repeat (first | exact (Kd.N_reads' HO267.out).2.2 | (with_reducible refine Kd.C_alloc ?_ _) | (with_reducible refine Kd.C_drewN ?_ _) | (with_reducible refine Kd.C_drew ?_))); (case side2 => exact (Kd.N_reads' HO267.out).2.1); (case side99 => exact LaidW.below HLd.out qB); rintro e w130 ⟨rfl, hb⟩; replace HO1_5 := zA (Kd.V_below (qV HO1_5.out) hb); replace HO267 := zA (Kd.N_below (qN HO267.out) hb); replace BK225 := qW BK225 hb; replace BK226 := qW BK226 hb; replace HB := qH hb; (try clear hb)))
        repeat (go_quiet (first | ((with_reducible refine gate_dst (N := 101) rfl ?_); (try (refine gate_guard (by rfl) ?_; dsimp only)); refine Kd.N_lit kIns _ 31 ?hg (N' := 101) ?hd (xs := ([(⟨a1_0, a1_1, a1_2, a1_3, a1_4, l1_5⟩ : SIns)] : List (SIns))) (inner := [.int .i64 a1_0, .int .i64 a1_1, .int .i64 a1_2, .int .i64 a1_3, .string a1_4, .slice A1_5 l1_5.length c1_5]) (ok := (fun k_ => (P1_5_ k_ ∨ w.heap.size ≤ k_) ∧ k_ ≠ gb225 ∧ k_ ≠ gb226)) (okp := (fun k_ => (P1_5_ k_ ∨ w.heap.size ≤ k_) ∧ k_ ≠ gb225 ∧ k_ ≠ gb226)) ?hr ?hp (fun _ hk => hk) ((show ∀ k_, w6.heap.size ≤ k_ → (fun k_ => (P1_5_ k_ ∨ w.heap.size ≤ k_) ∧ k_ ≠ gb225 ∧ k_ ≠ gb226) k_ from fun k_ hk => ⟨(.inr (Nat.le_trans (below_size qB) hk)), Kd.freshB (g := gb225) (o := .cells #[.string a0_0, .int .i64 a0_1, .int .i64 a0_2, .int .i64 a0_3, .slice A0_4 l0_4.length c0_4] 34 (0, 0)) (qK BK225.out) k_ hk, Kd.freshB (g := gb226) (o := .cells #[.int .i64 a1_0, .int .i64 a1_1, .int .i64 a1_2, .int .i64 a1_3, .string a1_4, .slice A1_5 l1_5.length c1_5] 31 (0, 0)) (qK BK226.out) k_ hk⟩) _ (Nat.le_refl _)) (Below.refl _ _) (Nat.le_refl _) (by simp) ?_; (case hd => rfl); (case hg => rfl); (case hr => go_simp <;> rfl); (case hp => exact (Reps.c6 (show Kd.FK kIns _ _ (⟨a1_0, a1_1, a1_2, a1_3, a1_4, l1_5⟩ : SIns) [.int .i64 a1_0, .int .i64 a1_1, .int .i64 a1_2, .int .i64 a1_3, .string a1_4, .slice A1_5 l1_5.length c1_5] from (kIns_mkF _ _ (⟨a1_0, a1_1, a1_2, a1_3, a1_4, l1_5⟩ : SIns) (Kd.V_reads' (Kd.V_mono (ok' := (fun k_ => (P1_5_ k_ ∨ w.heap.size ≤ k_) ∧ k_ ≠ gb225 ∧ k_ ≠ gb226)) (HO1_5.out) (fun k_ hk => ⟨hk.1.1, ⟨hk.1.2, hk.2⟩⟩))).2.1 (Kd.V_F (Kd.V_mono (ok' := (fun k_ => (P1_5_ k_ ∨ w.heap.size ≤ k_) ∧ k_ ≠ gb225 ∧ k_ ≠ gb226)) (Kd.V_drewN HO1_5.out _) (fun k_ hk => ⟨hk.1.1, ⟨hk.1.2, hk.2⟩⟩))))) (Reps.none _ _))); intro v263 w123 ho124 hb hg_ hnew_; clear hg_ hnew_; (first | rw [← Ny262.out] at ho124 | (simp only [Int.reduceToNat] at ho124; rw [← Ny262.out] at ho124)); replace HO1_5 := zA (Kd.V_elder' (qV HO1_5.out) (Kd.N_base ho124) hb); have HO264 := zA (Kd.N_lower ho124 (below_size qB)); replace BK225 := qW BK225 hb; replace BK226 := qW BK226 hb; replace HB := qH hb; clear hb ho124; have z125_0 := bk5 BK225.out; obtain ⟨Ao126, co126, eo126⟩ := Kd.N_slice HO264.out; subst eo126) | ((with_reducible refine gate_dst (N := 111) rfl ?_); (try (refine gate_guard (by rfl) ?_; dsimp only)); refine Kd.N_lit (Kd.slice 31 kIns) _ 28 ?hg (N' := 111) ?hd (xs := ([y262] : List (List (SIns)))) (inner := [.slice Ao126 y262.length co126]) (ok := (fun k_ => (P1_5_ k_ ∨ w.heap.size ≤ k_) ∧ k_ ≠ gb225 ∧ k_ ≠ gb226)) (okp := (fun k_ => (P1_5_ k_ ∨ w.heap.size ≤ k_) ∧ k_ ≠ gb225 ∧ k_ ≠ gb226)) ?hr ?hp (fun _ hk => hk) ((show ∀ k_, w123.heap.size ≤ k_ → (fun k_ => (P1_5_ k_ ∨ w.heap.size ≤ k_) ∧ k_ ≠ gb225 ∧ k_ ≠ gb226) k_ from fun k_ hk => ⟨(.inr (Nat.le_trans (below_size qB) hk)), Kd.freshB (g := gb225) (o := .cells #[.string a0_0, .int .i64 a0_1, .int .i64 a0_2, .int .i64 a0_3, .slice A0_4 l0_4.length c0_4] 34 (0, 0)) (qK BK225.out) k_ hk, Kd.freshB (g := gb226) (o := .cells #[.int .i64 a1_0, .int .i64 a1_1, .int .i64 a1_2, .int .i64 a1_3, .string a1_4, .slice A1_5 l1_5.length c1_5] 31 (0, 0)) (qK BK226.out) k_ hk⟩) _ (Nat.le_refl _)) (Below.refl _ _) (Nat.le_refl _) (by simp) ?_; (case hd => rfl); (case hg => rfl); (case hr => go_simp <;> rfl); (case hp => exact (Reps.one (show Kd.FK (Kd.slice 31 kIns) _ _ y262 [.slice Ao126 y262.length co126] from (Kd.FK_slice_mk (Kd.N_reads' (Kd.N_mono (ok' := (fun k_ => (P1_5_ k_ ∨ w.heap.size ≤ k_) ∧ k_ ≠ gb225 ∧ k_ ≠ gb226)) (HO264.out) (fun k_ hk => ⟨hk.1, ⟨hk.2.1, hk.2.2⟩⟩))).2.1 (Kd.N_F (Kd.N_mono (ok' := (fun k_ => (P1_5_ k_ ∨ w.heap.size ≤ k_) ∧ k_ ≠ gb225 ∧ k_ ≠ gb226)) (HO264.out) (fun k_ hk => ⟨hk.1, ⟨hk.2.1, hk.2.2⟩⟩))))) (Reps.none _ _))); intro v266 w127 ho128 hb hg_ hnew_; clear hg_ hnew_; (first | rw [← Ny265.out] at ho128 | (simp only [Int.reduceToNat] at ho128; rw [← Ny265.out] at ho128)); replace HO1_5 := zA (Kd.V_elder' (qV HO1_5.out) (Kd.N_base ho128) hb); have HO267 := zA (Kd.N_lower ho128 (below_size qB)); replace BK225 := qW BK225 hb; replace BK226 := qW BK226 hb; replace HB := qH hb; clear HO264; clear hb ho128; obtain ⟨Ao129, co129, eo129⟩ := Kd.N_slice HO267.out; subst eo129) | (go_at_call 6; (with_reducible refine (ir_Check.calls k (⟨#[102]⟩ : ByteArray) 0 a0_2 _ _ y265 t268 _ ?side1 ?side2 A120.out (hL := ?side99)).mono ?_); (case side1 => repeat (first | exact (Kd.N_reads' HO267.out).2.2 | (with_reducible refine Kd.C_alloc ?_ _) | (with_reducible refine Kd.C_drewN ?_ _) | (with_reducible refine Kd.C_drew ?_))); (case side2 => exact (Kd.N_reads' HO267.out).2.1); (case side99 => exact LaidW.below HLd.out qB); rintro e w130 ⟨rfl, hb⟩; replace HO1_5 := zA (Kd.V_below (qV HO1_5.out) hb); replace HO267 := zA (Kd.N_below (qN HO267.out) hb); replace BK225 := qW BK225 hb; replace BK226 := qW BK226 hb; replace HB := qH hb; (try clear hb))); try go_wp2_with (first | ((with_reducible refine gate_dst (N := 101) rfl ?_); (try (refine gate_guard (by rfl) ?_; dsimp only)); refine Kd.N_lit kIns _ 31 ?hg (N' := 101) ?hd (xs := ([(⟨a1_0, a1_1, a1_2, a1_3, a1_4, l1_5⟩ : SIns)] : List (SIns))) (inner := [.int .i64 a1_0, .int .i64 a1_1, .int .i64 a1_2, .int .i64 a1_3, .string a1_4, .slice A1_5 l1_5.length c1_5]) (ok := (fun k_ => (P1_5_ k_ ∨ w.heap.size ≤ k_) ∧ k_ ≠ gb225 ∧ k_ ≠ gb226)) (okp := (fun k_ => (P1_5_ k_ ∨ w.heap.size ≤ k_) ∧ k_ ≠ gb225 ∧ k_ ≠ gb226)) ?hr ?hp (fun _ hk => hk) ((show ∀ k_, w6.heap.size ≤ k_ → (fun k_ => (P1_5_ k_ ∨ w.heap.size ≤ k_) ∧ k_ ≠ gb225 ∧ k_ ≠ gb226) k_ from fun k_ hk => ⟨(.inr (Nat.le_trans (below_size qB) hk)), Kd.freshB (g := gb225) (o := .cells #[.string a0_0, .int .i64 a0_1, .int .i64 a0_2, .int .i64 a0_3, .slice A0_4 l0_4.length c0_4] 34 (0, 0)) (qK BK225.out) k_ hk, Kd.freshB (g := gb226) (o := .cells #[.int .i64 a1_0, .int .i64 a1_1, .int .i64 a1_2, .int .i64 a1_3, .string a1_4, .slice A1_5 l1_5.length c1_5] 31 (0, 0)) (qK BK226.out) k_ hk⟩) _ (Nat.le_refl _)) (Below.refl _ _) (Nat.le_refl _) (by simp) ?_; (case hd => rfl); (case hg => rfl); (case hr => go_simp <;> rfl); (case hp => exact (Reps.c6 (show Kd.FK kIns _ _ (⟨a1_0, a1_1, a1_2, a1_3, a1_4, l1_5⟩ : SIns) [.int .i64 a1_0, .int .i64 a1_1, .int .i64 a1_2, .int .i64 a1_3, .string a1_4, .slice A1_5 l1_5.length c1_5] from (kIns_mkF _ _ (⟨a1_0, a1_1, a1_2, a1_3, a1_4, l1_5⟩ : SIns) (Kd.V_reads' (Kd.V_mono (ok' := (fun k_ => (P1_5_ k_ ∨ w.heap.size ≤ k_) ∧ k_ ≠ gb225 ∧ k_ ≠ gb226)) (HO1_5.out) (fun k_ hk => ⟨hk.1.1, ⟨hk.1.2, hk.2⟩⟩))).2.1 (Kd.V_F (Kd.V_mono (ok' := (fun k_ => (P1_5_ k_ ∨ w.heap.size ≤ k_) ∧ k_ ≠ gb225 ∧ k_ ≠ gb226)) (Kd.V_drewN HO1_5.out _) (fun k_ hk => ⟨hk.1.1, ⟨hk.1.2, hk.2⟩⟩))))) (Reps.none _ _))); intro v263 w123 ho124 hb hg_ hnew_; clear hg_ hnew_; (first | rw [← Ny262.out] at ho124 | (simp only [Int.reduceToNat] at ho124; rw [← Ny262.out] at ho124)); replace HO1_5 := zA (Kd.V_elder' (qV HO1_5.out) (Kd.N_base ho124) hb); have HO264 := zA (Kd.N_lower ho124 (below_size qB)); replace BK225 := qW BK225 hb; replace BK226 := qW BK226 hb; replace HB := qH hb; clear hb ho124; have z125_0 := bk5 BK225.out; obtain ⟨Ao126, co126, eo126⟩ := Kd.N_slice HO264.out; subst eo126) | ((with_reducible refine gate_dst (N := 111) rfl ?_); (try (refine gate_guard (by rfl) ?_; dsimp only)); refine Kd.N_lit (Kd.slice 31 kIns) _ 28 ?hg (N' := 111) ?hd (xs := ([y262] : List (List (SIns)))) (inner := [.slice Ao126 y262.length co126]) (ok := (fun k_ => (P1_5_ k_ ∨ w.heap.size ≤ k_) ∧ k_ ≠ gb225 ∧ k_ ≠ gb226)) (okp := (fun k_ => (P1_5_ k_ ∨ w.heap.size ≤ k_) ∧ k_ ≠ gb225 ∧ k_ ≠ gb226)) ?hr ?hp (fun _ hk => hk) ((show ∀ k_, w123.heap.size ≤ k_ → (fun k_ => (P1_5_ k_ ∨ w.heap.size ≤ k_) ∧ k_ ≠ gb225 ∧ k_ ≠ gb226) k_ from fun k_ hk => ⟨(.inr (Nat.le_trans (below_size qB) hk)), Kd.freshB (g := gb225) (o := .cells #[.string a0_0, .int .i64 a0_1, .int .i64 a0_2, .int .i64 a0_3, .slice A0_4 l0_4.length c0_4] 34 (0, 0)) (qK BK225.out) k_ hk, Kd.freshB (g := gb226) (o := .cells #[.int .i64 a1_0, .int .i64 a1_1, .int .i64 a1_2, .int .i64 a1_3, .string a1_4, .slice A1_5 l1_5.length c1_5] 31 (0, 0)) (qK BK226.out) k_ hk⟩) _ (Nat.le_refl _)) (Below.refl _ _) (Nat.le_refl _) (by simp) ?_; (case hd => rfl); (case hg => rfl); (case hr => go_simp <;> rfl); (case hp => exact (Reps.one (show Kd.FK (Kd.slice 31 kIns) _ _ y262 [.slice Ao126 y262.length co126] from (Kd.FK_slice_mk (Kd.N_reads' (Kd.N_mono (ok' := (fun k_ => (P1_5_ k_ ∨ w.heap.size ≤ k_) ∧ k_ ≠ gb225 ∧ k_ ≠ gb226)) (HO264.out) (fun k_ hk => ⟨hk.1, ⟨hk.2.1, hk.2.2⟩⟩))).2.1 (Kd.N_F (Kd.N_mono (ok' := (fun k_ => (P1_5_ k_ ∨ w.heap.size ≤ k_) ∧ k_ ≠ gb225 ∧ k_ ≠ gb226)) (HO264.out) (fun k_ hk => ⟨hk.1, ⟨hk.2.1, hk.2.2⟩⟩))))) (Reps.none _ _))); intro v266 w127 ho128 hb hg_ hnew_; clear hg_ hnew_; (first | rw [← Ny265.out] at ho128 | (simp only [Int.reduceToNat] at ho128; rw [← Ny265.out] at ho128)); replace HO1_5 := zA (Kd.V_elder' (qV HO1_5.out) (Kd.N_base ho128) hb); have HO267 := zA (Kd.N_lower ho128 (below_size qB)); replace BK225 := qW BK225 hb; replace BK226 := qW BK226 hb; replace HB := qH hb; clear HO264; clear hb ho128; obtain ⟨Ao129, co129, eo129⟩ := Kd.N_slice HO267.out; subst eo129) | (go_at_call 6; (with_reducible refine (ir_Check.calls k (⟨#[102]⟩ : ByteArray) 0 a0_2 _ _ y265 t268 _ ?side1 ?side2 A120.out (hL := ?side99)).mono ?_); (case side1 => repeat (first | exact (Kd.N_reads' HO267.out).2.2 | (with_reducible refine Kd.C_alloc ?_ _) | (with_reducible refine Kd.C_drewN ?_ _) | (with_reducible refine Kd.C_drew ?_))); (case side2 => exact (Kd.N_reads' HO267.out).2.1); (case side99 => exact LaidW.below HLd.out qB); rintro e w130 ⟨rfl, hb⟩; replace HO1_5 := zA (Kd.V_below (qV HO1_5.out) hb); replace HO267 := zA (Kd.N_below (qN HO267.out) hb); replace BK225 := qW BK225 hb; replace BK226 := qW BK226 hb; replace HB := qH hb; (try clear hb))))
        go_ret
        exact ⟨qE, qB⟩
       ·replace c119 := Bool.eq_false_iff.mpr c119
        subst c119
        have H1 : (if y262.length < 1954687338268 then ((ir_Check.f k (⟨#[102]⟩ : ByteArray) 0 a0_2 (([(y262 ++ [(⟨12, 0, 0, 0, (⟨#[]⟩ : ByteArray), ([] : List Int)⟩ : SIns)])] : List (List (SIns))))).bind fun t275 => (some t275)) else (none)) = some r := by rw [zD (show ¬ (false = true) by decide)] at H; exact H
        clear H
        have H := H1
        clear H1
        by_cases c131 : y262.length < 1954687338268
        ·rw [zC c131] at H
         have LMc131 := zA c131
         clear c131
         obtain ⟨y269, hy269⟩ : ∃ y_ : List (SIns), y_ = (y262 ++ [(⟨12, 0, 0, 0, (⟨#[]⟩ : ByteArray), ([] : List Int)⟩ : SIns)]) := ⟨_, rfl⟩
         replace H : ((ir_Check.f k (⟨#[102]⟩ : ByteArray) 0 a0_2 (([y269] : List (List (SIns))))).bind fun t275 => (some t275)) = some r := by (try rw [hy269]); first | with_reducible exact H | exact (zJ _ _).symm.trans H | exact H
         have Ny269 := zA hy269
         clear hy269
         obtain ⟨y272, hy272⟩ : ∃ y_ : List (List (SIns)), y_ = (([y269] : List (List (SIns)))) := ⟨_, rfl⟩
         replace H : ((ir_Check.f k (⟨#[102]⟩ : ByteArray) 0 a0_2 y272).bind fun t275 => (some t275)) = some r := by (try rw [hy272]); first | with_reducible exact H | exact (zJ _ _).symm.trans H | exact H
         have Ny272 := zA hy272
         clear hy272
         replace H := qb H; obtain ⟨t275, A132, H⟩ := H
         obtain rfl := zI H
         have hnb133 := NB226_225.out
         have hnc133 := NB225_226.out
         have z134_0 := bk6 BK226.out
         go_wp2_with (first | ((with_reducible refine gate_dst (N := 101) rfl ?_); (try (refine gate_guard (by rfl) ?_; dsimp only)); refine Kd.N_lit kIns _ 31 ?hg (N' := 101) ?hd (xs := ([(⟨a1_0, a1_1, a1_2, a1_3, a1_4, l1_5⟩ : SIns)] : List (SIns))) (inner := [.int .i64 a1_0, .int .i64 a1_1, .int .i64 a1_2, .int .i64 a1_3, .string a1_4, .slice A1_5 l1_5.length c1_5]) (ok := (fun k_ => (P1_5_ k_ ∨ w.heap.size ≤ k_) ∧ k_ ≠ gb225 ∧ k_ ≠ gb226)) (okp := (fun k_ => (P1_5_ k_ ∨ w.heap.size ≤ k_) ∧ k_ ≠ gb225 ∧ k_ ≠ gb226)) ?hr ?hp (fun _ hk => hk) ((show ∀ k_, w6.heap.size ≤ k_ → (fun k_ => (P1_5_ k_ ∨ w.heap.size ≤ k_) ∧ k_ ≠ gb225 ∧ k_ ≠ gb226) k_ from fun k_ hk => ⟨(.inr (Nat.le_trans (below_size qB) hk)), Kd.freshB (g := gb225) (o := .cells #[.string a0_0, .int .i64 a0_1, .int .i64 a0_2, .int .i64 a0_3, .slice A0_4 l0_4.length c0_4] 34 (0, 0)) (qK BK225.out) k_ hk, Kd.freshB (g := gb226) (o := .cells #[.int .i64 a1_0, .int .i64 a1_1, .int .i64 a1_2, .int .i64 a1_3, .string a1_4, .slice A1_5 l1_5.length c1_5] 31 (0, 0)) (qK BK226.out) k_ hk⟩) _ (Nat.le_refl _)) (Below.refl _ _) (Nat.le_refl _) (by simp) ?_; (case hd => rfl); (case hg => rfl); (case hr => go_simp <;> rfl); (case hp => exact (Reps.c6 (show Kd.FK kIns _ _ (⟨a1_0, a1_1, a1_2, a1_3, a1_4, l1_5⟩ : SIns) [.int .i64 a1_0, .int .i64 a1_1, .int .i64 a1_2, .int .i64 a1_3, .string a1_4, .slice A1_5 l1_5.length c1_5] from (kIns_mkF _ _ (⟨a1_0, a1_1, a1_2, a1_3, a1_4, l1_5⟩ : SIns) (Kd.V_reads' (Kd.V_mono (ok' := (fun k_ => (P1_5_ k_ ∨ w.heap.size ≤ k_) ∧ k_ ≠ gb225 ∧ k_ ≠ gb226)) (HO1_5.out) (fun k_ hk => ⟨hk.1.1, ⟨hk.1.2, hk.2⟩⟩))).2.1 (Kd.V_F (Kd.V_mono (ok' := (fun k_ => (P1_5_ k_ ∨ w.heap.size ≤ k_) ∧ k_ ≠ gb225 ∧ k_ ≠ gb226)) (Kd.V_drewN HO1_5.out _) (fun k_ hk => ⟨hk.1.1, ⟨hk.1.2, hk.2⟩⟩))))) (Reps.none _ _))); intro v263 w135 ho136 hb hg_ hnew_; clear hg_ hnew_; (first | rw [← Ny262.out] at ho136 | (simp only [Int.reduceToNat] at ho136; rw [← Ny262.out] at ho136)); replace HO1_5 := zA (Kd.V_elder' (qV HO1_5.out) (Kd.N_base ho136) hb); have HO264 := zA (Kd.N_lower ho136 (below_size qB)); replace BK225 := qW BK225 hb; replace BK226 := qW BK226 hb; replace HB := qH hb; clear hb ho136) | ((with_reducible refine gate_builtin (b := .append) (xs := #[.tmp 104, .tmp 106]) rfl ?_); (try (refine gate_guard (by rfl) ?_; dsimp only)); at_builtin; refine Kd.N_append kIns (w0 := w) w.heap.size rfl (.tmp 104) (.tmp 106) 28 31 (.agg #[(.int .i64 0), (.int .i64 0), (.int .i64 0), (.int .i64 0), (.string ⟨#[]⟩), (.slice none 0 0)]) 72 rfl Tryd.underlying28 info31 rfl (by decide) (by omega) v263 y262 (⟨12, 0, 0, 0, (⟨#[]⟩ : ByteArray), ([] : List Int)⟩ : SIns) [.int .i64 12, .int .i64 0, .int .i64 0, .int .i64 0, .string (⟨#[]⟩ : ByteArray), .slice none 0 0] (fun k_ => (P1_5_ k_ ∨ w.heap.size ≤ k_) ∧ k_ ≠ gb225 ∧ k_ ≠ gb226) (fun k_ => ((fun k_ => (P1_5_ k_ ∨ w.heap.size ≤ k_) ∧ k_ ≠ gb225 ∧ k_ ≠ gb226)) k_ ∧ some k_ ≠ (v263 : Value).ownBlock) rfl rfl ?aP (fun _ hk => hk) ?aF ?aO ?aB ?aS ?aL ?_; (case aP => exact (kIns_mkF _ _ (⟨12, 0, 0, 0, (⟨#[]⟩ : ByteArray), ([] : List Int)⟩ : SIns) (Nat.le_refl _) (Kd.F_nil _ _ _))); (case aB => exact qB); (case aF => exact (fun k_ hk => ⟨(.inr (Nat.le_trans (below_size qB) hk)), Kd.freshB (g := gb225) (o := .cells #[.string a0_0, .int .i64 a0_1, .int .i64 a0_2, .int .i64 a0_3, .slice A0_4 l0_4.length c0_4] 34 (0, 0)) (qK BK225.out) k_ hk, Kd.freshB (g := gb226) (o := .cells #[.int .i64 a1_0, .int .i64 a1_1, .int .i64 a1_2, .int .i64 a1_3, .string a1_4, .slice A1_5 l1_5.length c1_5] 31 (0, 0)) (qK BK226.out) k_ hk⟩)); (case aO => exact (qN HO264.out)); (case aS => exact (below_size qB)); (case aL => have := LMc131.out; omega); intro v270 w137 ho hb hg hat; rw [← Ny269.out] at ho; replace HO1_5 := zA (Kd.V_afterv (ok := (fun k_ => (P1_5_ k_ ∨ w.heap.size ≤ k_) ∧ k_ ≠ gb225 ∧ k_ ≠ gb226)) (by (with_reducible repeat (first | apply Kd.V_alloc | apply Kd.V_drewN | apply Kd.V_drew)); exact Kd.V_mono HO1_5.out (fun _ hk => ⟨⟨hk.1.1.1, ⟨hk.1.1.2, hk.1.2⟩⟩, hk.2⟩)) hg hat); replace BK225 := zA (blk_grown (qK BK225.out) hg (Kd.N_ne HO264.out BK225.out (by decide))); replace BK226 := zA (blk_grown (qK BK226.out) hg (Kd.N_away HO264.out (fun _ hk => hk.2.2))); replace HB := zA (hb); have HO271 := zA (ho); clear HO264; clear ho hb hg hat; have z138_0 := bk5 BK225.out; obtain ⟨Ao139, co139, eo139⟩ := Kd.N_slice HO271.out; subst eo139) | ((with_reducible refine gate_dst (N := 111) rfl ?_); (try (refine gate_guard (by rfl) ?_; dsimp only)); refine Kd.N_lit (Kd.slice 31 kIns) _ 28 ?hg (N' := 111) ?hd (xs := ([y269] : List (List (SIns)))) (inner := [.slice Ao139 y269.length co139]) (ok := (fun k_ => (P1_5_ k_ ∨ w.heap.size ≤ k_) ∧ k_ ≠ gb225 ∧ k_ ≠ gb226)) (okp := (fun k_ => (P1_5_ k_ ∨ w.heap.size ≤ k_) ∧ k_ ≠ gb225 ∧ k_ ≠ gb226)) ?hr ?hp (fun _ hk => hk) ((show ∀ k_, w137.heap.size ≤ k_ → (fun k_ => (P1_5_ k_ ∨ w.heap.size ≤ k_) ∧ k_ ≠ gb225 ∧ k_ ≠ gb226) k_ from fun k_ hk => ⟨(.inr (Nat.le_trans (below_size qB) hk)), Kd.freshB (g := gb225) (o := .cells #[.string a0_0, .int .i64 a0_1, .int .i64 a0_2, .int .i64 a0_3, .slice A0_4 l0_4.length c0_4] 34 (0, 0)) (qK BK225.out) k_ hk, Kd.freshB (g := gb226) (o := .cells #[.int .i64 a1_0, .int .i64 a1_1, .int .i64 a1_2, .int .i64 a1_3, .string a1_4, .slice A1_5 l1_5.length c1_5] 31 (0, 0)) (qK BK226.out) k_ hk⟩) _ (Nat.le_refl _)) (Below.refl _ _) (Nat.le_refl _) (by simp) ?_; (case hd => rfl); (case hg => rfl); (case hr => go_simp <;> rfl); (case hp => exact (Reps.one (show Kd.FK (Kd.slice 31 kIns) _ _ y269 [.slice Ao139 y269.length co139] from (Kd.FK_slice_mk (Kd.N_reads' (Kd.N_mono (ok' := (fun k_ => (P1_5_ k_ ∨ w.heap.size ≤ k_) ∧ k_ ≠ gb225 ∧ k_ ≠ gb226)) (HO271.out) (fun k_ hk => ⟨hk.1, ⟨hk.2.1, hk.2.2⟩⟩))).2.1 (Kd.N_F (Kd.N_mono (ok' := (fun k_ => (P1_5_ k_ ∨ w.heap.size ≤ k_) ∧ k_ ≠ gb225 ∧ k_ ≠ gb226)) (HO271.out) (fun k_ hk => ⟨hk.1, ⟨hk.2.1, hk.2.2⟩⟩))))) (Reps.none _ _))); intro v273 w140 ho141 hb hg_ hnew_; clear hg_ hnew_; (first | rw [← Ny272.out] at ho141 | (simp only [Int.reduceToNat] at ho141; rw [← Ny272.out] at ho141)); replace HO1_5 := zA (Kd.V_elder' (qV HO1_5.out) (Kd.N_base ho141) hb); have HO274 := zA (Kd.N_lower ho141 (below_size qB)); replace BK225 := qW BK225 hb; replace BK226 := qW BK226 hb; replace HB := qH hb; clear HO271; clear hb ho141; obtain ⟨Ao142, co142, eo142⟩ := Kd.N_slice HO274.out; subst eo142) | (go_at_call 6; (with_reducible refine (ir_Check.calls k (⟨#[102]⟩ : ByteArray) 0 a0_2 _ _ y272 t275 _ ?side1 ?side2 A132.out (hL := ?side99)).mono ?_); (case side1 => repeat (first | exact (Kd.N_reads' HO274.out).2.2 | (with_reducible refine Kd.C_alloc ?_ _) | (with_reducible refine Kd.C_drewN ?_ _) | (with_reducible refine Kd.C_drew ?_))); (case side2 => exact (Kd.N_reads' HO274.out).2.1); (case side99 => exact LaidW.below HLd.out qB); rintro e w143 ⟨rfl, hb⟩; replace HO1_5 := zA (Kd.V_below (qV HO1_5.out) hb); replace HO274 := zA (Kd.N_below (qN HO274.out) hb); replace BK225 := qW BK225 hb; replace BK226 := qW BK226 hb; replace HB := qH hb; (try clear hb)))
         repeat (go_quiet (first | ((with_reducible refine gate_dst (N := 101) rfl ?_); (try (refine gate_guard (by rfl) ?_; dsimp only)); refine Kd.N_lit kIns _ 31 ?hg (N' := 101) ?hd (xs := ([(⟨a1_0, a1_1, a1_2, a1_3, a1_4, l1_5⟩ : SIns)] : List (SIns))) (inner := [.int .i64 a1_0, .int .i64 a1_1, .int .i64 a1_2, .int .i64 a1_3, .string a1_4, .slice A1_5 l1_5.length c1_5]) (ok := (fun k_ => (P1_5_ k_ ∨ w.heap.size ≤ k_) ∧ k_ ≠ gb225 ∧ k_ ≠ gb226)) (okp := (fun k_ => (P1_5_ k_ ∨ w.heap.size ≤ k_) ∧ k_ ≠ gb225 ∧ k_ ≠ gb226)) ?hr ?hp (fun _ hk => hk) ((show ∀ k_, w6.heap.size ≤ k_ → (fun k_ => (P1_5_ k_ ∨ w.heap.size ≤ k_) ∧ k_ ≠ gb225 ∧ k_ ≠ gb226) k_ from fun k_ hk => ⟨(.inr (Nat.le_trans (below_size qB) hk)), Kd.freshB (g := gb225) (o := .cells #[.string a0_0, .int .i64 a0_1, .int .i64 a0_2, .int .i64 a0_3, .slice A0_4 l0_4.length c0_4] 34 (0, 0)) (qK BK225.out) k_ hk, Kd.freshB (g := gb226) (o := .cells #[.int .i64 a1_0, .int .i64 a1_1, .int .i64 a1_2, .int .i64 a1_3, .string a1_4, .slice A1_5 l1_5.length c1_5] 31 (0, 0)) (qK BK226.out) k_ hk⟩) _ (Nat.le_refl _)) (Below.refl _ _) (Nat.le_refl _) (by simp) ?_; (case hd => rfl); (case hg => rfl); (case hr => go_simp <;> rfl); (case hp => exact (Reps.c6 (show Kd.FK kIns _ _ (⟨a1_0, a1_1, a1_2, a1_3, a1_4, l1_5⟩ : SIns) [.int .i64 a1_0, .int .i64 a1_1, .int .i64 a1_2, .int .i64 a1_3, .string a1_4, .slice A1_5 l1_5.length c1_5] from (kIns_mkF _ _ (⟨a1_0, a1_1, a1_2, a1_3, a1_4, l1_5⟩ : SIns) (Kd.V_reads' (Kd.V_mono (ok' := (fun k_ => (P1_5_ k_ ∨ w.heap.size ≤ k_) ∧ k_ ≠ gb225 ∧ k_ ≠ gb226)) (HO1_5.out) (fun k_ hk => ⟨hk.1.1, ⟨hk.1.2, hk.2⟩⟩))).2.1 (Kd.V_F (Kd.V_mono (ok' := (fun k_ => (P1_5_ k_ ∨ w.heap.size ≤ k_) ∧ k_ ≠ gb225 ∧ k_ ≠ gb226)) (Kd.V_drewN HO1_5.out _) (fun k_ hk => ⟨hk.1.1, ⟨hk.1.2, hk.2⟩⟩))))) (Reps.none _ _))); intro v263 w135 ho136 hb hg_ hnew_; clear hg_ hnew_; (first | rw [← Ny262.out] at ho136 | (simp only [Int.reduceToNat] at ho136; rw [← Ny262.out] at ho136)); replace HO1_5 := zA (Kd.V_elder' (qV HO1_5.out) (Kd.N_base ho136) hb); have HO264 := zA (Kd.N_lower ho136 (below_size qB)); replace BK225 := qW BK225 hb; replace BK226 := qW BK226 hb; replace HB := qH hb; clear hb ho136) | ((with_reducible refine gate_builtin (b := .append) (xs := #[.tmp 104, .tmp 106]) rfl ?_); (try (refine gate_guard (by rfl) ?_; dsimp only)); at_builtin; refine Kd.N_append kIns (w0 := w) w.heap.size rfl (.tmp 104) (.tmp 106) 28 31 (.agg #[(.int .i64 0), (.int .i64 0), (.int .i64 0), (.int .i64 0), (.string ⟨#[]⟩), (.slice none 0 0)]) 72 rfl Tryd.underlying28 info31 rfl (by decide) (by omega) v263 y262 (⟨12, 0, 0, 0, (⟨#[]⟩ : ByteArray), ([] : List Int)⟩ : SIns) [.int .i64 12, .int .i64 0, .int .i64 0, .int .i64 0, .string (⟨#[]⟩ : ByteArray), .slice none 0 0] (fun k_ => (P1_5_ k_ ∨ w.heap.size ≤ k_) ∧ k_ ≠ gb225 ∧ k_ ≠ gb226) (fun k_ => ((fun k_ => (P1_5_ k_ ∨ w.heap.size ≤ k_) ∧ k_ ≠ gb225 ∧ k_ ≠ gb226)) k_ ∧ some k_ ≠ (v263 : Value).ownBlock) rfl rfl ?aP (fun _ hk => hk) ?aF ?aO ?aB ?aS ?aL ?_; (case aP => exact (kIns_mkF _ _ (⟨12, 0, 0, 0, (⟨#[]⟩ : ByteArray), ([] : List Int)⟩ : SIns) (Nat.le_refl _) (Kd.F_nil _ _ _))); (case aB => exact qB); (case aF => exact (fun k_ hk => ⟨(.inr (Nat.le_trans (below_size qB) hk)), Kd.freshB (g := gb225) (o := .cells #[.string a0_0, .int .i64 a0_1, .int .i64 a0_2, .int .i64 a0_3, .slice A0_4 l0_4.length c0_4] 34 (0, 0)) (qK BK225.out) k_ hk, Kd.freshB (g := gb226) (o := .cells #[.int .i64 a1_0, .int .i64 a1_1, .int .i64 a1_2, .int .i64 a1_3, .string a1_4, .slice A1_5 l1_5.length c1_5] 31 (0, 0)) (qK BK226.out) k_ hk⟩)); (case aO => exact (qN HO264.out)); (case aS => exact (below_size qB)); (case aL => have := LMc131.out; omega); intro v270 w137 ho hb hg hat; rw [← Ny269.out] at ho; replace HO1_5 := zA (Kd.V_afterv (ok := (fun k_ => (P1_5_ k_ ∨ w.heap.size ≤ k_) ∧ k_ ≠ gb225 ∧ k_ ≠ gb226)) (by (with_reducible repeat (first | apply Kd.V_alloc | apply Kd.V_drewN | apply Kd.V_drew)); exact Kd.V_mono HO1_5.out (fun _ hk => ⟨⟨hk.1.1.1, ⟨hk.1.1.2, hk.1.2⟩⟩, hk.2⟩)) hg hat); replace BK225 := zA (blk_grown (qK BK225.out) hg (Kd.N_ne HO264.out BK225.out (by decide))); replace BK226 := zA (blk_grown (qK BK226.out) hg (Kd.N_away HO264.out (fun _ hk => hk.2.2))); replace HB := zA (hb); have HO271 := zA (ho); clear HO264; clear ho hb hg hat; have z138_0 := bk5 BK225.out; obtain ⟨Ao139, co139, eo139⟩ := Kd.N_slice HO271.out; subst eo139) | ((with_reducible refine gate_dst (N := 111) rfl ?_); (try (refine gate_guard (by rfl) ?_; dsimp only)); refine Kd.N_lit (Kd.slice 31 kIns) _ 28 ?hg (N' := 111) ?hd (xs := ([y269] : List (List (SIns)))) (inner := [.slice Ao139 y269.length co139]) (ok := (fun k_ => (P1_5_ k_ ∨ w.heap.size ≤ k_) ∧ k_ ≠ gb225 ∧ k_ ≠ gb226)) (okp := (fun k_ => (P1_5_ k_ ∨ w.heap.size ≤ k_) ∧ k_ ≠ gb225 ∧ k_ ≠ gb226)) ?hr ?hp (fun _ hk => hk) ((show ∀ k_, w137.heap.size ≤ k_ → (fun k_ => (P1_5_ k_ ∨ w.heap.size ≤ k_) ∧ k_ ≠ gb225 ∧ k_ ≠ gb226) k_ from fun k_ hk => ⟨(.inr (Nat.le_trans (below_size qB) hk)), Kd.freshB (g := gb225) (o := .cells #[.string a0_0, .int .i64 a0_1, .int .i64 a0_2, .int .i64 a0_3, .slice A0_4 l0_4.length c0_4] 34 (0, 0)) (qK BK225.out) k_ hk, Kd.freshB (g := gb226) (o := .cells #[.int .i64 a1_0, .int .i64 a1_1, .int .i64 a1_2, .int .i64 a1_3, .string a1_4, .slice A1_5 l1_5.length c1_5] 31 (0, 0)) (qK BK226.out) k_ hk⟩) _ (Nat.le_refl _)) (Below.refl _ _) (Nat.le_refl _) (by simp) ?_; (case hd => rfl); (case hg => rfl); (case hr => go_simp <;> rfl); (case hp => exact (Reps.one (show Kd.FK (Kd.slice 31 kIns) _ _ y269 [.slice Ao139 y269.length co139] from (Kd.FK_slice_mk (Kd.N_reads' (Kd.N_mono (ok' := (fun k_ => (P1_5_ k_ ∨ w.heap.size ≤ k_) ∧ k_ ≠ gb225 ∧ k_ ≠ gb226)) (HO271.out) (fun k_ hk => ⟨hk.1, ⟨hk.2.1, hk.2.2⟩⟩))).2.1 (Kd.N_F (Kd.N_mono (ok' := (fun k_ => (P1_5_ k_ ∨ w.heap.size ≤ k_) ∧ k_ ≠ gb225 ∧ k_ ≠ gb226)) (HO271.out) (fun k_ hk => ⟨hk.1, ⟨hk.2.1, hk.2.2⟩⟩))))) (Reps.none _ _))); intro v273 w140 ho141 hb hg_ hnew_; clear hg_ hnew_; (first | rw [← Ny272.out] at ho141 | (simp only [Int.reduceToNat] at ho141; rw [← Ny272.out] at ho141)); replace HO1_5 := zA (Kd.V_elder' (qV HO1_5.out) (Kd.N_base ho141) hb); have HO274 := zA (Kd.N_lower ho141 (below_size qB)); replace BK225 := qW BK225 hb; replace BK226 := qW BK226 hb; replace HB := qH hb; clear HO271; clear hb ho141; obtain ⟨Ao142, co142, eo142⟩ := Kd.N_slice HO274.out; subst eo142) | (go_at_call 6; (with_reducible refine (ir_Check.calls k (⟨#[102]⟩ : ByteArray) 0 a0_2 _ _ y272 t275 _ ?side1 ?side2 A132.out (hL := ?side99)).mono ?_); (case side1 => repeat (first | exact (Kd.N_reads' HO274.out).2.2 | (with_reducible refine Kd.C_alloc ?_ _) | (with_reducible refine Kd.C_drewN ?_ _) | (with_reducible refine Kd.C_drew ?_))); (case side2 => exact (Kd.N_reads' HO274.out).2.1); (case side99 => exact LaidW.below HLd.out qB); rintro e w143 ⟨rfl, hb⟩; replace HO1_5 := zA (Kd.V_below (qV HO1_5.out) hb); replace HO274 := zA (Kd.N_below (qN HO274.out) hb); replace BK225 := qW BK225 hb; replace BK226 := qW BK226 hb; replace HB := qH hb; (try clear hb))); try go_wp2_with (first | ((with_reducible refine gate_dst (N := 101) rfl ?_); (try (refine gate_guard (by rfl) ?_; dsimp only)); refine Kd.N_lit kIns _ 31 ?hg (N' := 101) ?hd (xs := ([(⟨a1_0, a1_1, a1_2, a1_3, a1_4, l1_5⟩ : SIns)] : List (SIns))) (inner := [.int .i64 a1_0, .int .i64 a1_1, .int .i64 a1_2, .int .i64 a1_3, .string a1_4, .slice A1_5 l1_5.length c1_5]) (ok := (fun k_ => (P1_5_ k_ ∨ w.heap.size ≤ k_) ∧ k_ ≠ gb225 ∧ k_ ≠ gb226)) (okp := (fun k_ => (P1_5_ k_ ∨ w.heap.size ≤ k_) ∧ k_ ≠ gb225 ∧ k_ ≠ gb226)) ?hr ?hp (fun _ hk => hk) ((show ∀ k_, w6.heap.size ≤ k_ → (fun k_ => (P1_5_ k_ ∨ w.heap.size ≤ k_) ∧ k_ ≠ gb225 ∧ k_ ≠ gb226) k_ from fun k_ hk => ⟨(.inr (Nat.le_trans (below_size qB) hk)), Kd.freshB (g := gb225) (o := .cells #[.string a0_0, .int .i64 a0_1, .int .i64 a0_2, .int .i64 a0_3, .slice A0_4 l0_4.length c0_4] 34 (0, 0)) (qK BK225.out) k_ hk, Kd.freshB (g := gb226) (o := .cells #[.int .i64 a1_0, .int .i64 a1_1, .int .i64 a1_2, .int .i64 a1_3, .string a1_4, .slice A1_5 l1_5.length c1_5] 31 (0, 0)) (qK BK226.out) k_ hk⟩) _ (Nat.le_refl _)) (Below.refl _ _) (Nat.le_refl _) (by simp) ?_; (case hd => rfl); (case hg => rfl); (case hr => go_simp <;> rfl); (case hp => exact (Reps.c6 (show Kd.FK kIns _ _ (⟨a1_0, a1_1, a1_2, a1_3, a1_4, l1_5⟩ : SIns) [.int .i64 a1_0, .int .i64 a1_1, .int .i64 a1_2, .int .i64 a1_3, .string a1_4, .slice A1_5 l1_5.length c1_5] from (kIns_mkF _ _ (⟨a1_0, a1_1, a1_2, a1_3, a1_4, l1_5⟩ : SIns) (Kd.V_reads' (Kd.V_mono (ok' := (fun k_ => (P1_5_ k_ ∨ w.heap.size ≤ k_) ∧ k_ ≠ gb225 ∧ k_ ≠ gb226)) (HO1_5.out) (fun k_ hk => ⟨hk.1.1, ⟨hk.1.2, hk.2⟩⟩))).2.1 (Kd.V_F (Kd.V_mono (ok' := (fun k_ => (P1_5_ k_ ∨ w.heap.size ≤ k_) ∧ k_ ≠ gb225 ∧ k_ ≠ gb226)) (Kd.V_drewN HO1_5.out _) (fun k_ hk => ⟨hk.1.1, ⟨hk.1.2, hk.2⟩⟩))))) (Reps.none _ _))); intro v263 w135 ho136 hb hg_ hnew_; clear hg_ hnew_; (first | rw [← Ny262.out] at ho136 | (simp only [Int.reduceToNat] at ho136; rw [← Ny262.out] at ho136)); replace HO1_5 := zA (Kd.V_elder' (qV HO1_5.out) (Kd.N_base ho136) hb); have HO264 := zA (Kd.N_lower ho136 (below_size qB)); replace BK225 := qW BK225 hb; replace BK226 := qW BK226 hb; replace HB := qH hb; clear hb ho136) | ((with_reducible refine gate_builtin (b := .append) (xs := #[.tmp 104, .tmp 106]) rfl ?_); (try (refine gate_guard (by rfl) ?_; dsimp only)); at_builtin; refine Kd.N_append kIns (w0 := w) w.heap.size rfl (.tmp 104) (.tmp 106) 28 31 (.agg #[(.int .i64 0), (.int .i64 0), (.int .i64 0), (.int .i64 0), (.string ⟨#[]⟩), (.slice none 0 0)]) 72 rfl Tryd.underlying28 info31 rfl (by decide) (by omega) v263 y262 (⟨12, 0, 0, 0, (⟨#[]⟩ : ByteArray), ([] : List Int)⟩ : SIns) [.int .i64 12, .int .i64 0, .int .i64 0, .int .i64 0, .string (⟨#[]⟩ : ByteArray), .slice none 0 0] (fun k_ => (P1_5_ k_ ∨ w.heap.size ≤ k_) ∧ k_ ≠ gb225 ∧ k_ ≠ gb226) (fun k_ => ((fun k_ => (P1_5_ k_ ∨ w.heap.size ≤ k_) ∧ k_ ≠ gb225 ∧ k_ ≠ gb226)) k_ ∧ some k_ ≠ (v263 : Value).ownBlock) rfl rfl ?aP (fun _ hk => hk) ?aF ?aO ?aB ?aS ?aL ?_; (case aP => exact (kIns_mkF _ _ (⟨12, 0, 0, 0, (⟨#[]⟩ : ByteArray), ([] : List Int)⟩ : SIns) (Nat.le_refl _) (Kd.F_nil _ _ _))); (case aB => exact qB); (case aF => exact (fun k_ hk => ⟨(.inr (Nat.le_trans (below_size qB) hk)), Kd.freshB (g := gb225) (o := .cells #[.string a0_0, .int .i64 a0_1, .int .i64 a0_2, .int .i64 a0_3, .slice A0_4 l0_4.length c0_4] 34 (0, 0)) (qK BK225.out) k_ hk, Kd.freshB (g := gb226) (o := .cells #[.int .i64 a1_0, .int .i64 a1_1, .int .i64 a1_2, .int .i64 a1_3, .string a1_4, .slice A1_5 l1_5.length c1_5] 31 (0, 0)) (qK BK226.out) k_ hk⟩)); (case aO => exact (qN HO264.out)); (case aS => exact (below_size qB)); (case aL => have := LMc131.out; omega); intro v270 w137 ho hb hg hat; rw [← Ny269.out] at ho; replace HO1_5 := zA (Kd.V_afterv (ok := (fun k_ => (P1_5_ k_ ∨ w.heap.size ≤ k_) ∧ k_ ≠ gb225 ∧ k_ ≠ gb226)) (by (with_reducible repeat (first | apply Kd.V_alloc | apply Kd.V_drewN | apply Kd.V_drew)); exact Kd.V_mono HO1_5.out (fun _ hk => ⟨⟨hk.1.1.1, ⟨hk.1.1.2, hk.1.2⟩⟩, hk.2⟩)) hg hat); replace BK225 := zA (blk_grown (qK BK225.out) hg (Kd.N_ne HO264.out BK225.out (by decide))); replace BK226 := zA (blk_grown (qK BK226.out) hg (Kd.N_away HO264.out (fun _ hk => hk.2.2))); replace HB := zA (hb); have HO271 := zA (ho); clear HO264; clear ho hb hg hat; have z138_0 := bk5 BK225.out; obtain ⟨Ao139, co139, eo139⟩ := Kd.N_slice HO271.out; subst eo139) | ((with_reducible refine gate_dst (N := 111) rfl ?_); (try (refine gate_guard (by rfl) ?_; dsimp only)); refine Kd.N_lit (Kd.slice 31 kIns) _ 28 ?hg (N' := 111) ?hd (xs := ([y269] : List (List (SIns)))) (inner := [.slice Ao139 y269.length co139]) (ok := (fun k_ => (P1_5_ k_ ∨ w.heap.size ≤ k_) ∧ k_ ≠ gb225 ∧ k_ ≠ gb226)) (okp := (fun k_ => (P1_5_ k_ ∨ w.heap.size ≤ k_) ∧ k_ ≠ gb225 ∧ k_ ≠ gb226)) ?hr ?hp (fun _ hk => hk) ((show ∀ k_, w137.heap.size ≤ k_ → (fun k_ => (P1_5_ k_ ∨ w.heap.size ≤ k_) ∧ k_ ≠ gb225 ∧ k_ ≠ gb226) k_ from fun k_ hk => ⟨(.inr (Nat.le_trans (below_size qB) hk)), Kd.freshB (g := gb225) (o := .cells #[.string a0_0, .int .i64 a0_1, .int .i64 a0_2, .int .i64 a0_3, .slice A0_4 l0_4.length c0_4] 34 (0, 0)) (qK BK225.out) k_ hk, Kd.freshB (g := gb226) (o := .cells #[.int .i64 a1_0, .int .i64 a1_1, .int .i64 a1_2, .int .i64 a1_3, .string a1_4, .slice A1_5 l1_5.length c1_5] 31 (0, 0)) (qK BK226.out) k_ hk⟩) _ (Nat.le_refl _)) (Below.refl _ _) (Nat.le_refl _) (by simp) ?_; (case hd => rfl); (case hg => rfl); (case hr => go_simp <;> rfl); (case hp => exact (Reps.one (show Kd.FK (Kd.slice 31 kIns) _ _ y269 [.slice Ao139 y269.length co139] from (Kd.FK_slice_mk (Kd.N_reads' (Kd.N_mono (ok' := (fun k_ => (P1_5_ k_ ∨ w.heap.size ≤ k_) ∧ k_ ≠ gb225 ∧ k_ ≠ gb226)) (HO271.out) (fun k_ hk => ⟨hk.1, ⟨hk.2.1, hk.2.2⟩⟩))).2.1 (Kd.N_F (Kd.N_mono (ok' := (fun k_ => (P1_5_ k_ ∨ w.heap.size ≤ k_) ∧ k_ ≠ gb225 ∧ k_ ≠ gb226)) (HO271.out) (fun k_ hk => ⟨hk.1, ⟨hk.2.1, hk.2.2⟩⟩))))) (Reps.none _ _))); intro v273 w140 ho141 hb hg_ hnew_; clear hg_ hnew_; (first | rw [← Ny272.out] at ho141 | (simp only [Int.reduceToNat] at ho141; rw [← Ny272.out] at ho141)); replace HO1_5 := zA (Kd.V_elder' (qV HO1_5.out) (Kd.N_base ho141) hb); have HO274 := zA (Kd.N_lower ho141 (below_size qB)); replace BK225 := qW BK225 hb; replace BK226 := qW BK226 hb; replace HB := qH hb; clear HO271; clear hb ho141; obtain ⟨Ao142, co142, eo142⟩ := Kd.N_slice HO274.out; subst eo142) | (go_at_call 6; (with_reducible refine (ir_Check.calls k (⟨#[102]⟩ : ByteArray) 0 a0_2 _ _ y272 t275 _ ?side1 ?side2 A132.out (hL := ?side99)).mono ?_); (case side1 => repeat (first | exact (Kd.N_reads' HO274.out).2.2 | (with_reducible refine Kd.C_alloc ?_ _) | (with_reducible refine Kd.C_drewN ?_ _) | (with_reducible refine Kd.C_drew ?_))); (case side2 => exact (Kd.N_reads' HO274.out).2.1); (case side99 => exact LaidW.below HLd.out qB); rintro e w143 ⟨rfl, hb⟩; replace HO1_5 := zA (Kd.V_below (qV HO1_5.out) hb); replace HO274 := zA (Kd.N_below (qN HO274.out) hb); replace BK225 := qW BK225 hb; replace BK226 := qW BK226 hb; replace HB := qH hb; (try clear hb))))
         go_ret
         exact ⟨qE, qB⟩
        ·rw [zD c131] at H
         exact absurd H (by simp)
 case rest =>
  clear HC4
  try clear c1; try clear c2; try clear p2; try clear c3; try clear c4; try clear c6; try clear c7; try clear c8; try clear c9; try clear c9b0 c9b1; try clear c10; try clear c10b0 c10b1; try clear c11; try clear c11b0 c11b1; try clear c12; try clear c13; try clear c14; try clear c14b0 c14b1; try clear c15; try clear c15b0 c15b1; try clear c16; try clear c17; try clear c18; try clear c20; try clear c22; try clear c24; try clear c26; try clear c27; try clear c31; try clear c35; try clear c38; try clear c38b0 c38b1; try clear c41; try clear c43; try clear c61; try clear c63; try clear c82; try clear c82b0 c82b1; try clear c84; try clear c86; try clear c101; try clear c103; try clear c119; try clear c121; try clear c131; try clear c133; try clear z104_0; try clear z105_0; try clear z107_0; try clear z109_0; try clear z113_0; try clear z122_0; try clear z125_0; try clear z134_0; try clear z138_0; try clear z17_0; try clear z19_0; try clear z21_0; try clear z28_0; try clear z30_0; try clear z32_0; try clear z34_0; try clear z36_0; try clear z44_0; try clear z45_0; try clear z47_0; try clear z48_0; try clear z50_0; try clear z52_0; try clear z55_0; try clear z64_0; try clear z65_0; try clear z67_0; try clear z68_0; try clear z70_0; try clear z72_0; try clear z76_0; try clear z87_0; try clear z88_0; try clear z8_0; try clear z90_0; try clear z92_0; try clear z95_0
  obtain ⟨kq, x7_3, x8_3, rfl, rfl, HA, HJ3, HO_227005, BK225, BK226, HB⟩ := hcut
  cases kq with
  | zero => exact absurd HA.out (by simp [mach_one.j0])
  | succ kj3 =>
   have H := HA.out
   clear HA
   simp only [mach_one.j0] at H
   have HC144 := zA H
   clear H
   go_upto_region 7 with (fail)
   repeat (go_quiet (fail); go_upto_region 7 with (fail))
   go_cut [25] (fun v25 wc => ∃ (kq : Nat) (x25_143 : Bool), v25 = .bool x25_143 ∧ Aside0 (mach_one.j1 kq x7_3 x8_3 x25_143 a0_0 a0_1 a0_2 a0_3 l0_4 = some r) ∧ Aside0 (kq ≤ kj3) ∧ Aside0 (Kd.V (Kd.int .i64) 3 wc w.heap.size (fun k_ => (P1_5_ k_ ∨ w.heap.size ≤ k_) ∧ k_ ≠ gb225 ∧ k_ ≠ gb226) (.slice A1_5 l1_5.length c1_5) l1_5) ∧ Aside0 (wc.heap[gb225]? = some (.cells #[.string a0_0, .int .i64 a0_1, .int .i64 a0_2, .int .i64 a0_3, (.slice A0_4 l0_4.length c0_4)] 34 (0, 0))) ∧ Aside0 (wc.heap[gb226]? = some (.cells #[.int .i64 a1_0, .int .i64 a1_1, .int .i64 a1_2, .int .i64 a1_3, .string a1_4, (.slice A1_5 l1_5.length c1_5)] 31 (0, 0))) ∧ Aside0 (Below w.heap.size w wc))
   case first =>
    have H := HC144.out
    clear HC144
    by_cases c145 : a2 = true
    ·subst c145
     have H1 : (mach_one.j1 kj3 x7_3 x8_3 true a0_0 a0_1 a0_2 a0_3 l0_4) = some r := by rw [zC rfl] at H; exact H
     clear H
     have H := H1
     clear H1
     have H' := zA H
     clear H
     go_wp2
     repeat (go_quiet (fail); try go_wp2)
     go_meet
     case rel => exact ⟨_, (true), qT, H', ⟨by have := HJ3.out; first | omega | exact Nat.le_refl _⟩, ⟨qV HO_227005.out⟩, ⟨qK BK225.out⟩, ⟨qK BK226.out⟩, ⟨qB⟩⟩
    ·replace c145 := Bool.eq_false_iff.mpr c145
     subst c145
     have H1 : (if a1_3 = 0 then (if a1_4.toList = ([] : List UInt8) then (mach_one.j1 kj3 x7_3 x8_3 (decide ((l1_5.length : Int) > 0)) a0_0 a0_1 a0_2 a0_3 l0_4) else (mach_one.j1 kj3 x7_3 x8_3 true a0_0 a0_1 a0_2 a0_3 l0_4)) else (mach_one.j1 kj3 x7_3 x8_3 true a0_0 a0_1 a0_2 a0_3 l0_4)) = some r := by rw [zD (show ¬ (false = true) by decide)] at H; exact H
     clear H
     have H := H1
     clear H1
     by_cases c146 : a1_3 = 0
     ·rw [zC c146] at H
      obtain ⟨c146b0, c146b1⟩ := qe c146; clear c146
      (first | rw [c146b0] | (simp only [i64_w, i32_w]; rw [c146b0]) | skip)
      by_cases c147 : a1_4.toList = ([] : List UInt8)
      ·rw [zC c147] at H
       obtain ⟨c147b0, c147b1⟩ := qe c147; clear c147
       have H' := zA H
       clear H
       have hnb148 := NB226_225.out
       have hnc148 := NB225_226.out
       have z149_0 := bk6 BK226.out
       go_wp2
       repeat (go_quiet (fail); try go_wp2)
       go_meet
       case rel => exact ⟨_, (decide ((l1_5.length : Int) > 0)), qT, H', ⟨by have := HJ3.out; first | omega | exact Nat.le_refl _⟩, ⟨qV HO_227005.out⟩, ⟨qK BK225.out⟩, ⟨qK BK226.out⟩, ⟨qB⟩⟩
      ·rw [zD c147] at H
       obtain ⟨c147b0, c147b1⟩ := qn c147
       have H' := zA H
       clear H
       have hnb150 := NB226_225.out
       have hnc150 := NB225_226.out
       have z151_0 := bk6 BK226.out
       go_wp2
       repeat (go_quiet (fail); try go_wp2)
       go_meet
       case rel => exact ⟨_, (true), qT, H', ⟨by have := HJ3.out; first | omega | exact Nat.le_refl _⟩, ⟨qV HO_227005.out⟩, ⟨qK BK225.out⟩, ⟨qK BK226.out⟩, ⟨qB⟩⟩
     ·rw [zD c146] at H
      obtain ⟨c146b0, c146b1⟩ := qn c146
      (first | rw [c146b0] | (simp only [i64_w, i32_w]; rw [c146b0]) | skip)
      have H' := zA H
      clear H
      have hnb152 := NB226_225.out
      have hnc152 := NB225_226.out
      have z153_0 := bk6 BK226.out
      go_wp2
      repeat (go_quiet (fail); try go_wp2)
      go_meet
      case rel => exact ⟨_, (true), qT, H', ⟨by have := HJ3.out; first | omega | exact Nat.le_refl _⟩, ⟨qV HO_227005.out⟩, ⟨qK BK225.out⟩, ⟨qK BK226.out⟩, ⟨qB⟩⟩
   case rest =>
    clear HC144
    try clear c1; try clear c2; try clear p2; try clear c3; try clear c4; try clear c6; try clear c7; try clear c8; try clear c9; try clear c9b0 c9b1; try clear c10; try clear c10b0 c10b1; try clear c11; try clear c11b0 c11b1; try clear c12; try clear c13; try clear c14; try clear c14b0 c14b1; try clear c15; try clear c15b0 c15b1; try clear c16; try clear c17; try clear c18; try clear c20; try clear c22; try clear c24; try clear c26; try clear c27; try clear c31; try clear c35; try clear c38; try clear c38b0 c38b1; try clear c41; try clear c43; try clear c61; try clear c63; try clear c82; try clear c82b0 c82b1; try clear c84; try clear c86; try clear c101; try clear c103; try clear c119; try clear c121; try clear c131; try clear c133; try clear c145; try clear c146; try clear c146b0 c146b1; try clear c147; try clear c147b0 c147b1; try clear c148; try clear c150; try clear c152; try clear z104_0; try clear z105_0; try clear z107_0; try clear z109_0; try clear z113_0; try clear z122_0; try clear z125_0; try clear z134_0; try clear z138_0; try clear z149_0; try clear z151_0; try clear z153_0; try clear z17_0; try clear z19_0; try clear z21_0; try clear z28_0; try clear z30_0; try clear z32_0; try clear z34_0; try clear z36_0; try clear z44_0; try clear z45_0; try clear z47_0; try clear z48_0; try clear z50_0; try clear z52_0; try clear z55_0; try clear z64_0; try clear z65_0; try clear z67_0; try clear z68_0; try clear z70_0; try clear z72_0; try clear z76_0; try clear z87_0; try clear z88_0; try clear z8_0; try clear z90_0; try clear z92_0; try clear z95_0
    obtain ⟨kq, x25_143, rfl, HA, HJ143, HO_227005, BK225, BK226, HB⟩ := hcut
    cases kq with
    | zero => exact absurd HA.out (by simp [mach_one.j1])
    | succ kj143 =>
     have H := HA.out
     clear HA
     simp only [mach_one.j1] at H
     by_cases c154 : x25_143 = true
     ·subst c154
      have H1 : (some 72) = some r := by rw [zC rfl] at H; exact H
      clear H
      have H := H1
      clear H1
      obtain rfl := zI H
      go_wp2
      repeat (go_quiet (fail); try go_wp2)
      go_ret
      exact ⟨qE, qB⟩
     ·replace c154 := Bool.eq_false_iff.mpr c154
      subst c154
      have H1 : ((mach_below.f x7_3 a0_2).bind fun t227 => (if t227 = true then ((mach_below.f x8_3 a0_3).bind fun t228 => (if t228 = true then (some 0) else (some 73))) else (some 73))) = some r := by rw [zD (show ¬ (false = true) by decide)] at H; exact H
      clear H
      have H := H1
      clear H1
      replace H := qb H; obtain ⟨t227, A155, H⟩ := H
      by_cases c156 : t227 = true
      ·subst c156
       have H1 : ((mach_below.f x8_3 a0_3).bind fun t228 => (if t228 = true then (some 0) else (some 73))) = some r := by rw [zC rfl] at H; exact H
       clear H
       have H := H1
       clear H1
       replace H := qb H; obtain ⟨t228, A157, H⟩ := H
       by_cases c158 : t228 = true
       ·subst c158
        have H1 : (some 0) = some r := by rw [zC rfl] at H; exact H
        clear H
        have H := H1
        clear H1
        obtain rfl := zI H
        have hnb159 := NB225_226.out
        have hnc159 := NB226_225.out
        have z160_0 := bk5 BK225.out
        go_wp2_with (first | (go_at_call 16; (with_reducible refine (mach_below.calls x7_3 a0_2 true _ A155.out).mono ?_); rintro e w' ⟨rfl, ⟨nd, rfl⟩⟩; (try first | exact ⟨rfl, _, World.drewN_drewN _ _ _⟩ | exact ⟨rfl, _, Eq.trans (World.drewN_drewN _ _ _) (congrArg (World.drewN _) (Nat.add_assoc _ _ _))⟩)) | (go_at_call 16; (with_reducible refine (mach_below.calls x8_3 a0_3 true _ A157.out).mono ?_); (try clear A157); rintro e w' ⟨rfl, ⟨nd, rfl⟩⟩; (try first | exact ⟨rfl, _, World.drewN_drewN _ _ _⟩ | exact ⟨rfl, _, Eq.trans (World.drewN_drewN _ _ _) (congrArg (World.drewN _) (Nat.add_assoc _ _ _))⟩)))
        repeat (go_quiet (first | (go_at_call 16; (with_reducible refine (mach_below.calls x7_3 a0_2 true _ A155.out).mono ?_); rintro e w' ⟨rfl, ⟨nd, rfl⟩⟩; (try first | exact ⟨rfl, _, World.drewN_drewN _ _ _⟩ | exact ⟨rfl, _, Eq.trans (World.drewN_drewN _ _ _) (congrArg (World.drewN _) (Nat.add_assoc _ _ _))⟩)) | (go_at_call 16; (with_reducible refine (mach_below.calls x8_3 a0_3 true _ A157.out).mono ?_); (try clear A157); rintro e w' ⟨rfl, ⟨nd, rfl⟩⟩; (try first | exact ⟨rfl, _, World.drewN_drewN _ _ _⟩ | exact ⟨rfl, _, Eq.trans (World.drewN_drewN _ _ _) (congrArg (World.drewN _) (Nat.add_assoc _ _ _))⟩))); try go_wp2_with (first | (go_at_call 16; (with_reducible refine (mach_below.calls x7_3 a0_2 true _ A155.out).mono ?_); rintro e w' ⟨rfl, ⟨nd, rfl⟩⟩; (try first | exact ⟨rfl, _, World.drewN_drewN _ _ _⟩ | exact ⟨rfl, _, Eq.trans (World.drewN_drewN _ _ _) (congrArg (World.drewN _) (Nat.add_assoc _ _ _))⟩)) | (go_at_call 16; (with_reducible refine (mach_below.calls x8_3 a0_3 true _ A157.out).mono ?_); (try clear A157); rintro e w' ⟨rfl, ⟨nd, rfl⟩⟩; (try first | exact ⟨rfl, _, World.drewN_drewN _ _ _⟩ | exact ⟨rfl, _, Eq.trans (World.drewN_drewN _ _ _) (congrArg (World.drewN _) (Nat.add_assoc _ _ _))⟩))))
        go_ret
        exact ⟨qE, qB⟩
       ·replace c158 := Bool.eq_false_iff.mpr c158
        subst c158
        have H1 : (some 73) = some r := by rw [zD (show ¬ (false = true) by decide)] at H; exact H
        clear H
        have H := H1
        clear H1
        obtain rfl := zI H
        have hnb161 := NB225_226.out
        have hnc161 := NB226_225.out
        have z162_0 := bk5 BK225.out
        go_wp2_with (first | (go_at_call 16; (with_reducible refine (mach_below.calls x7_3 a0_2 true _ A155.out).mono ?_); rintro e w' ⟨rfl, ⟨nd, rfl⟩⟩; (try first | exact ⟨rfl, _, World.drewN_drewN _ _ _⟩ | exact ⟨rfl, _, Eq.trans (World.drewN_drewN _ _ _) (congrArg (World.drewN _) (Nat.add_assoc _ _ _))⟩)) | (go_at_call 16; (with_reducible refine (mach_below.calls x8_3 a0_3 false _ A157.out).mono ?_); (try clear A157); rintro e w' ⟨rfl, ⟨nd, rfl⟩⟩; (try first | exact ⟨rfl, _, World.drewN_drewN _ _ _⟩ | exact ⟨rfl, _, Eq.trans (World.drewN_drewN _ _ _) (congrArg (World.drewN _) (Nat.add_assoc _ _ _))⟩)))
        repeat (go_quiet (first | (go_at_call 16; (with_reducible refine (mach_below.calls x7_3 a0_2 true _ A155.out).mono ?_); rintro e w' ⟨rfl, ⟨nd, rfl⟩⟩; (try first | exact ⟨rfl, _, World.drewN_drewN _ _ _⟩ | exact ⟨rfl, _, Eq.trans (World.drewN_drewN _ _ _) (congrArg (World.drewN _) (Nat.add_assoc _ _ _))⟩)) | (go_at_call 16; (with_reducible refine (mach_below.calls x8_3 a0_3 false _ A157.out).mono ?_); (try clear A157); rintro e w' ⟨rfl, ⟨nd, rfl⟩⟩; (try first | exact ⟨rfl, _, World.drewN_drewN _ _ _⟩ | exact ⟨rfl, _, Eq.trans (World.drewN_drewN _ _ _) (congrArg (World.drewN _) (Nat.add_assoc _ _ _))⟩))); try go_wp2_with (first | (go_at_call 16; (with_reducible refine (mach_below.calls x7_3 a0_2 true _ A155.out).mono ?_); rintro e w' ⟨rfl, ⟨nd, rfl⟩⟩; (try first | exact ⟨rfl, _, World.drewN_drewN _ _ _⟩ | exact ⟨rfl, _, Eq.trans (World.drewN_drewN _ _ _) (congrArg (World.drewN _) (Nat.add_assoc _ _ _))⟩)) | (go_at_call 16; (with_reducible refine (mach_below.calls x8_3 a0_3 false _ A157.out).mono ?_); (try clear A157); rintro e w' ⟨rfl, ⟨nd, rfl⟩⟩; (try first | exact ⟨rfl, _, World.drewN_drewN _ _ _⟩ | exact ⟨rfl, _, Eq.trans (World.drewN_drewN _ _ _) (congrArg (World.drewN _) (Nat.add_assoc _ _ _))⟩))))
        go_ret
        exact ⟨qE, qB⟩
      ·replace c156 := Bool.eq_false_iff.mpr c156
       subst c156
       have H1 : (some 73) = some r := by rw [zD (show ¬ (false = true) by decide)] at H; exact H
       clear H
       have H := H1
       clear H1
       obtain rfl := zI H
       have hnb163 := NB225_226.out
       have hnc163 := NB226_225.out
       have z164_0 := bk5 BK225.out
       go_wp2_with (first | (go_at_call 16; (with_reducible refine (mach_below.calls x7_3 a0_2 false _ A155.out).mono ?_); rintro e w' ⟨rfl, ⟨nd, rfl⟩⟩; (try first | exact ⟨rfl, _, World.drewN_drewN _ _ _⟩ | exact ⟨rfl, _, Eq.trans (World.drewN_drewN _ _ _) (congrArg (World.drewN _) (Nat.add_assoc _ _ _))⟩)))
       repeat (go_quiet (first | (go_at_call 16; (with_reducible refine (mach_below.calls x7_3 a0_2 false _ A155.out).mono ?_); rintro e w' ⟨rfl, ⟨nd, rfl⟩⟩; (try first | exact ⟨rfl, _, World.drewN_drewN _ _ _⟩ | exact ⟨rfl, _, Eq.trans (World.drewN_drewN _ _ _) (congrArg (World.drewN _) (Nat.add_assoc _ _ _))⟩))); try go_wp2_with (first | (go_at_call 16; (with_reducible refine (mach_below.calls x7_3 a0_2 false _ A155.out).mono ?_); rintro e w' ⟨rfl, ⟨nd, rfl⟩⟩; (try first | exact ⟨rfl, _, World.drewN_drewN _ _ _⟩ | exact ⟨rfl, _, Eq.trans (World.drewN_drewN _ _ _) (congrArg (World.drewN _) (Nat.add_assoc _ _ _))⟩))))
       go_ret
       exact ⟨qE, qB⟩

mutual
def mach_Check.j0 : Nat → Bool → ByteArray → Int → Int → Int → List (List (SIns)) → Option (Int)
 | 0, _, _, _, _, _, _ => none
 | k + 1, x46, x277000, x277001, x277002, x277003, x277004 => if x46 = true then (some 71) else (mach_Check.l0 k 1600 x277004 (x277004.length : Int) 0 x277000 x277001 x277002 x277003 x277004)
def mach_Check.l0 : Nat → Int → List (List (SIns)) → Int → Int → ByteArray → Int → Int → Int → List (List (SIns)) → Option (Int)
 | 0, _, _, _, _, _, _, _, _, _ => none
 | k + 1, x3, x48, x49, x50, x277000, x277001, x277002, x277003, x277004 => if x50 < x49 then (if 0 ≤ x50 then (if x50 < (x48.length : Int) then (if ((rd_LIns x48 x50).length : Int) = 0 then (some 71) else (if ((rd_LIns x48 x50).length : Int) > x3 then (some 71) else (mach_Check.l0 k (wrap64 (x3 - ((rd_LIns x48 x50).length : Int))) x48 x49 (wrap64 (x50 + 1)) x277000 x277001 x277002 x277003 x277004))) else (none)) else (none)) else (mach_Check.l1 k x277004 (x277004.length : Int) 0 x277000 x277001 x277002 x277003 x277004)
def mach_Check.l1 : Nat → List (List (SIns)) → Int → Int → ByteArray → Int → Int → Int → List (List (SIns)) → Option (Int)
 | 0, _, _, _, _, _, _, _, _ => none
 | k + 1, x69, x70, x71, x277000, x277001, x277002, x277003, x277004 => if x71 < x70 then (if 0 ≤ x71 then (if x71 < (x69.length : Int) then (mach_Check.l2 k (rd_LIns x69 x71) x69 x70 x71 (rd_LIns x69 x71) ((rd_LIns x69 x71).length : Int) 0 x277000 x277001 x277002 x277003 x277004) else (none)) else (none)) else (some 0)
def mach_Check.l2 : Nat → List (SIns) → List (List (SIns)) → Int → Int → List (SIns) → Int → Int → ByteArray → Int → Int → Int → List (List (SIns)) → Option (Int)
 | 0, _, _, _, _, _, _, _, _, _, _, _, _ => none
 | k + 1, x7, x69, x70, x71, x75, x76, x77, x277000, x277001, x277002, x277003, x277004 => if x77 < x76 then (if 0 ≤ x77 then (if x77 < (x75.length : Int) then ((mach_one.f k x277000 x277001 x277002 x277003 x277004 ((rd_TIns x75 x77).f0) ((rd_TIns x75 x77).f1) ((rd_TIns x75 x77).f2) ((rd_TIns x75 x77).f3) ((rd_TIns x75 x77).f4) ((rd_TIns x75 x77).f5) (x77 == (wrap64 ((x7.length : Int) - 1)))).bind fun t284 => (if t284 = 0 then (mach_Check.l2 k x7 x69 x70 x71 x75 x76 (wrap64 (x77 + 1)) x277000 x277001 x277002 x277003 x277004) else (some t284))) else (none)) else (none)) else (mach_Check.l1 k x69 x70 (wrap64 (x71 + 1)) x277000 x277001 x277002 x277003 x277004)
end
def mach_Check.f (k : Nat) (a0_0 : ByteArray) (a0_1 : Int) (a0_2 : Int) (a0_3 : Int) (l0_4 : List (List (SIns))) : Option (Int) := (ir_Name.f a0_0).bind fun t277 => (if t277 = true then ((mach_below.f a0_1 5).bind fun t278 => (if t278 = true then (if a0_2 < 6 then (mach_Check.j0 k true a0_0 a0_1 a0_2 a0_3 l0_4) else (if a0_2 > 16 then (mach_Check.j0 k true a0_0 a0_1 a0_2 a0_3 l0_4) else ((mach_below.f a0_3 65).bind fun t279 => (if t279 = true then (if (l0_4.length : Int) < 1 then (mach_Check.j0 k true a0_0 a0_1 a0_2 a0_3 l0_4) else (mach_Check.j0 k (decide ((l0_4.length : Int) > 33)) a0_0 a0_1 a0_2 a0_3 l0_4)) else (mach_Check.j0 k true a0_0 a0_1 a0_2 a0_3 l0_4))))) else (mach_Check.j0 k true a0_0 a0_1 a0_2 a0_3 l0_4))) else (some 70))
set_option maxHeartbeats 8000000 in
set_option maxRecDepth 100000 in
theorem mach_Check.calls (k : Nat) (a0_0 : ByteArray) (a0_1 : Int) (a0_2 : Int) (a0_3 : Int) (A0_4 : Option Addr) (c0_4 : Nat) (l0_4 : List (List (SIns))) (r : Int) (w : World) (hL : LaidW w) (hr0_4 : Kd.C (Kd.slice 31 kIns) w A0_4 l0_4.length l0_4) (hc0_4 : l0_4.length ≤ c0_4) (h : mach_Check.f k a0_0 a0_1 a0_2 a0_3 l0_4 = some r) :
 Calls Tryd.prog 9 #[.agg #[.string a0_0, .int .i64 a0_1, .int .i64 a0_2, .int .i64 a0_3, .slice A0_4 l0_4.length c0_4]] w fun e w' => e = .returned (.int .i64 r) ∧ Below w.heap.size w w' := by
 have hu34 := Tryd.underlying34
 have hu31 := Tryd.underlying31
 have HR0_4 := zA hr0_4
 have HC0_4 := zA hc0_4
 clear hr0_4 hc0_4
 have HB := zA (Below.refl w.heap.size w)
 have HLd := zA hL
 clear hL
 have H := h; clear h; unfold mach_Check.f at H
 replace H := qb H; obtain ⟨t277, A2, H⟩ := H
 by_cases c3 : t277 = true
 ·subst c3
  have H1 : ((mach_below.f a0_1 5).bind fun t278 => (if t278 = true then (if a0_2 < 6 then (mach_Check.j0 k true a0_0 a0_1 a0_2 a0_3 l0_4) else (if a0_2 > 16 then (mach_Check.j0 k true a0_0 a0_1 a0_2 a0_3 l0_4) else ((mach_below.f a0_3 65).bind fun t279 => (if t279 = true then (if (l0_4.length : Int) < 1 then (mach_Check.j0 k true a0_0 a0_1 a0_2 a0_3 l0_4) else (mach_Check.j0 k (decide ((l0_4.length : Int) > 33)) a0_0 a0_1 a0_2 a0_3 l0_4)) else (mach_Check.j0 k true a0_0 a0_1 a0_2 a0_3 l0_4))))) else (mach_Check.j0 k true a0_0 a0_1 a0_2 a0_3 l0_4))) = some r := by rw [zC rfl] at H; exact H
  clear H
  have H := H1
  clear H1
  have HC4 := zA H
  clear H
  go_enter Tryd.func9, Tryd.ntmps9
  go_upto_region 3 with (first | ((with_reducible refine gate_dst (N := 1) rfl ?_); (try (refine gate_guard (by rfl) ?_; dsimp only)); refine box_event (by rfl) (N := 1) (by rfl) (cs := #[.string a0_0, .int .i64 a0_1, .int .i64 a0_2, .int .i64 a0_3, .slice A0_4 l0_4.length c0_4]) (t := 34) ?hr ?_; (case hr => go_simp <;> rfl); intro gb276 hg w5 hbox hb; have BK276 := zA (hbox); have GW276 := qG hg; have GE276 := GW276; replace HB := qH hb; clear hb hbox hg; have z6_0 := bk5 BK276.out) | ((with_reducible refine gate_callee (f := 11) rfl ?_); refine goesL_ (some 13) rfl rfl Tryd.func11 (by kernel_rfl) rfl #[.string a0_0] rfl qL ?_; (with_reducible refine (ir_Name.calls a0_0 true _ A2.out).mono ?_); rintro e w7 ⟨rfl, hb⟩; refine ⟨_, rfl, ?_⟩; replace BK276 := qW BK276 hb; replace HB := qH hb; (try clear hb)))
  (try simp only [Act.put, List.setIfInBounds_toArray, List.set_cons_zero, List.set_cons_succ])
  go_cut [46] (fun v46 wc => ∃ (kq : Nat) (x46_3 : Bool), v46 = .bool x46_3 ∧ Aside0 (mach_Check.j0 kq x46_3 a0_0 a0_1 a0_2 a0_3 l0_4 = some r) ∧ Aside0 (kq ≤ k) ∧ Aside0 (wc.heap[gb276]? = some (.cells #[.string a0_0, .int .i64 a0_1, .int .i64 a0_2, .int .i64 a0_3, (.slice A0_4 l0_4.length c0_4)] 34 (0, 0))) ∧ Aside0 (Below w.heap.size w wc))
  case first =>
   have H := HC4.out
   clear HC4
   replace H := qb H; obtain ⟨t278, A8, H⟩ := H
   by_cases c9 : t278 = true
   ·subst c9
    have H1 : (if a0_2 < 6 then (mach_Check.j0 k true a0_0 a0_1 a0_2 a0_3 l0_4) else (if a0_2 > 16 then (mach_Check.j0 k true a0_0 a0_1 a0_2 a0_3 l0_4) else ((mach_below.f a0_3 65).bind fun t279 => (if t279 = true then (if (l0_4.length : Int) < 1 then (mach_Check.j0 k true a0_0 a0_1 a0_2 a0_3 l0_4) else (mach_Check.j0 k (decide ((l0_4.length : Int) > 33)) a0_0 a0_1 a0_2 a0_3 l0_4)) else (mach_Check.j0 k true a0_0 a0_1 a0_2 a0_3 l0_4))))) = some r := by rw [zC rfl] at H; exact H
    clear H
    have H := H1
    clear H1
    by_cases c10 : a0_2 < 6
    ·rw [zC c10] at H
     have c10b0 := zF c10
     clear c10
     (first | rw [c10b0] | (simp only [i64_w, i32_w]; rw [c10b0]) | skip)
     have H' := zA H
     clear H
     have z11_0 := bk5 BK276.out
     go_wp2_with (first | ((with_reducible refine gate_callee (f := 16) rfl ?_); refine goesL_ (some 17) rfl rfl Tryd.func16 (by kernel_rfl) rfl #[.int .i64 a0_1, .int .i64 5] rfl qL ?_; (with_reducible refine (mach_below.calls a0_1 5 true _ A8.out).mono ?_); rintro e w' ⟨rfl, ⟨nd, rfl⟩⟩; refine ⟨_, rfl, ?_⟩))
     go_meet
     case rel => exact ⟨_, (true), qT, H', ⟨qO⟩, ⟨qK BK276.out⟩, ⟨qB⟩⟩
    ·rw [zD c10] at H
     have c10b0 := zG c10
     clear c10
     (first | rw [c10b0] | (simp only [i64_w, i32_w]; rw [c10b0]) | skip)
     by_cases c12 : a0_2 > 16
     ·rw [zC c12] at H
      have c12b0 : decide (16 < a0_2) = true := zF c12
      clear c12
      have H' := zA H
      clear H
      have z13_0 := bk5 BK276.out
      go_wp2_with (first | ((with_reducible refine gate_callee (f := 16) rfl ?_); refine goesL_ (some 17) rfl rfl Tryd.func16 (by kernel_rfl) rfl #[.int .i64 a0_1, .int .i64 5] rfl qL ?_; (with_reducible refine (mach_below.calls a0_1 5 true _ A8.out).mono ?_); rintro e w' ⟨rfl, ⟨nd, rfl⟩⟩; refine ⟨_, rfl, ?_⟩))
      go_meet
      case rel => exact ⟨_, (true), qT, H', ⟨qO⟩, ⟨qK BK276.out⟩, ⟨qB⟩⟩
     ·rw [zD c12] at H
      have c12b0 : decide (16 < a0_2) = false := zG c12
      clear c12
      replace H := qb H; obtain ⟨t279, A14, H⟩ := H
      by_cases c15 : t279 = true
      ·subst c15
       have H1 : (if (l0_4.length : Int) < 1 then (mach_Check.j0 k true a0_0 a0_1 a0_2 a0_3 l0_4) else (mach_Check.j0 k (decide ((l0_4.length : Int) > 33)) a0_0 a0_1 a0_2 a0_3 l0_4)) = some r := by rw [zC rfl] at H; exact H
       clear H
       have H := H1
       clear H1
       by_cases c16 : (l0_4.length : Int) < 1
       ·rw [zC c16] at H
        have c16b0 := zF c16
        have c16b1 : decide (l0_4.length < 1) = true := zF (by omega)
        clear c16
        have H' := zA H
        clear H
        have z17_0 := bk5 BK276.out
        go_wp2_with (first | ((with_reducible refine gate_callee (f := 16) rfl ?_); refine goesL_ (some 17) rfl rfl Tryd.func16 (by kernel_rfl) rfl #[.int .i64 a0_1, .int .i64 5] rfl qL ?_; (with_reducible refine (mach_below.calls a0_1 5 true _ A8.out).mono ?_); rintro e w' ⟨rfl, ⟨nd, rfl⟩⟩; refine ⟨_, rfl, ?_⟩) | (go_at_call 16; (with_reducible refine (mach_below.calls a0_3 65 true _ A14.out).mono ?_); (try clear A14); rintro e w' ⟨rfl, ⟨nd, rfl⟩⟩))
        go_meet
        case rel => exact ⟨_, (true), qT, H', ⟨qO⟩, ⟨qK BK276.out⟩, ⟨qB⟩⟩
       ·rw [zD c16] at H
        have c16b0 := zG c16
        have c16b1 : decide (l0_4.length < 1) = false := zG (by omega)
        clear c16
        have H' := zA H
        clear H
        have z18_0 := bk5 BK276.out
        go_wp2_with (first | ((with_reducible refine gate_callee (f := 16) rfl ?_); refine goesL_ (some 17) rfl rfl Tryd.func16 (by kernel_rfl) rfl #[.int .i64 a0_1, .int .i64 5] rfl qL ?_; (with_reducible refine (mach_below.calls a0_1 5 true _ A8.out).mono ?_); rintro e w' ⟨rfl, ⟨nd, rfl⟩⟩; refine ⟨_, rfl, ?_⟩) | (go_at_call 16; (with_reducible refine (mach_below.calls a0_3 65 true _ A14.out).mono ?_); (try clear A14); rintro e w' ⟨rfl, ⟨nd, rfl⟩⟩))
        go_meet
        case rel => exact ⟨_, (decide ((l0_4.length : Int) > 33)), qT, H', ⟨qO⟩, ⟨qK BK276.out⟩, ⟨qB⟩⟩
      ·replace c15 := Bool.eq_false_iff.mpr c15
       subst c15
       have H1 : (mach_Check.j0 k true a0_0 a0_1 a0_2 a0_3 l0_4) = some r := by rw [zD (show ¬ (false = true) by decide)] at H; exact H
       clear H
       have H := H1
       clear H1
       have H' := zA H
       clear H
       have z19_0 := bk5 BK276.out
       go_wp2_with (first | ((with_reducible refine gate_callee (f := 16) rfl ?_); refine goesL_ (some 17) rfl rfl Tryd.func16 (by kernel_rfl) rfl #[.int .i64 a0_1, .int .i64 5] rfl qL ?_; (with_reducible refine (mach_below.calls a0_1 5 true _ A8.out).mono ?_); rintro e w' ⟨rfl, ⟨nd, rfl⟩⟩; refine ⟨_, rfl, ?_⟩) | (go_at_call 16; (with_reducible refine (mach_below.calls a0_3 65 false _ A14.out).mono ?_); (try clear A14); rintro e w' ⟨rfl, ⟨nd, rfl⟩⟩))
       go_meet
       case rel => exact ⟨_, (true), qT, H', ⟨qO⟩, ⟨qK BK276.out⟩, ⟨qB⟩⟩
   ·replace c9 := Bool.eq_false_iff.mpr c9
    subst c9
    have H1 : (mach_Check.j0 k true a0_0 a0_1 a0_2 a0_3 l0_4) = some r := by rw [zD (show ¬ (false = true) by decide)] at H; exact H
    clear H
    have H := H1
    clear H1
    have H' := zA H
    clear H
    have z20_0 := bk5 BK276.out
    go_wp2_with (first | ((with_reducible refine gate_callee (f := 16) rfl ?_); refine goesL_ (some 17) rfl rfl Tryd.func16 (by kernel_rfl) rfl #[.int .i64 a0_1, .int .i64 5] rfl qL ?_; (with_reducible refine (mach_below.calls a0_1 5 false _ A8.out).mono ?_); rintro e w' ⟨rfl, ⟨nd, rfl⟩⟩; refine ⟨_, rfl, ?_⟩))
    go_meet
    case rel => exact ⟨_, (true), qT, H', ⟨qO⟩, ⟨qK BK276.out⟩, ⟨qB⟩⟩
  case rest =>
   clear HC4
   try clear c1; try clear p2; try clear c3; try clear c9; try clear c10; try clear c10b0; try clear c11; try clear c12; try clear c12b0; try clear c15; try clear c16; try clear c16b0 c16b1; try clear z11_0; try clear z13_0; try clear z17_0; try clear z18_0; try clear z19_0; try clear z20_0; try clear z6_0
   obtain ⟨kq, x46_3, rfl, HA, HJ3, BK276, HB⟩ := hcut
   cases kq with
   | zero => exact absurd HA.out (by simp [mach_Check.j0])
   | succ kj3 =>
    have H := HA.out
    clear HA
    simp only [mach_Check.j0] at H
    by_cases c21 : x46_3 = true
    ·subst c21
     have H1 : (some 71) = some r := by rw [zC rfl] at H; exact H
     clear H
     have H := H1
     clear H1
     obtain rfl := zI H
     go_wp2
     go_ret
     exact ⟨qE, qB⟩
    ·replace c21 := Bool.eq_false_iff.mpr c21
     subst c21
     have H1 : (mach_Check.l0 kj3 1600 l0_4 (l0_4.length : Int) 0 a0_0 a0_1 a0_2 a0_3 l0_4) = some r := by rw [zD (show ¬ (false = true) by decide)] at H; exact H
     clear H
     have H := H1
     clear H1
     have H' := zA H
     clear H
     have z22_0 := bk5 BK276.out
     go_wp2
     go_loopg [3, 50] kj3 (fun kq v3 v50 w' => ∃ (x3_2 : Int) (x50_2 : Int), v3 = .int .i64 x3_2 ∧ v50 = .int .i64 x50_2 ∧ Aside0 (mach_Check.l0 kq x3_2 l0_4 (l0_4.length : Int) x50_2 a0_0 a0_1 a0_2 a0_3 l0_4 = some r) ∧ Aside0 (kq ≤ kj3) ∧ Aside0 (w'.heap[gb276]? = some (.cells #[.string a0_0, .int .i64 a0_1, .int .i64 a0_2, .int .i64 a0_3, (.slice A0_4 l0_4.length c0_4)] 34 (0, 0))) ∧ Aside0 (Below w.heap.size w w'))
     case atStart => exact ⟨(1600), (0), qT, qT, H', ⟨Nat.le_refl _⟩, ⟨qK BK276.out⟩, ⟨qB⟩⟩
     case round =>
      clear H'
      try clear c1; try clear c2; try clear p2; try clear c3; try clear c9; try clear c10; try clear c10b0; try clear c11; try clear c12; try clear c12b0; try clear c15; try clear c16; try clear c16b0 c16b1; try clear c21; try clear z11_0; try clear z13_0; try clear z17_0; try clear z18_0; try clear z19_0; try clear z20_0; try clear z22_0; try clear z6_0
      obtain ⟨x3_2, x50_2, rfl, rfl, HA, HK2, BK276, HB⟩ := hrel
      cases gk with
      | zero => exact absurd HA.out (by simp [mach_Check.l0])
      | succ k2 =>
       have H := HA.out
       clear HA
       simp only [mach_Check.l0] at H
       by_cases c23 : x50_2 < (l0_4.length : Int)
       ·rw [zC c23] at H
        have c23b0 := zF c23
        clear c23
        by_cases c24 : 0 ≤ x50_2
        ·rw [zC c24] at H
         have c24b0 := zF c24
         clear c24
         by_cases c25 : x50_2 < (l0_4.length : Int)
         ·rw [zC c25] at H
          have c25b0 := zF c25
          clear c25
          by_cases c26 : ((rd_LIns l0_4 x50_2).length : Int) = 0
          ·rw [zC c26] at H
           obtain ⟨c26b0, c26b1⟩ := qe c26; clear c26
           obtain rfl := zI H
           have p280 : 0 ≤ (x50_2 : Int) := zB qA
           have q280 : x50_2 < (l0_4.length : Int) := zB qA
           obtain ⟨ad280, A280_0, c280_0, e280, hx280_0, hl280_0, hi280_0⟩ := at_LIns HR0_4.out x50_2 p280 q280
           cases e280
           replace hx280_0 := (HB.out.cell (zE w _ hx280_0)).trans hx280_0
           have HR280_0 := zA hi280_0
           have HC280_0 := zA hl280_0
           clear hi280_0 hl280_0
           replace p280 := eq_true p280
           replace q280 := eq_true q280
           go_wp2
           go_ret
           exact ⟨qE, qB⟩
          ·rw [zD c26] at H
           obtain ⟨c26b0, c26b1⟩ := qn c26
           have c26b2 : ¬ ((rd_LIns l0_4 x50_2) = []) := fun h_ => c26 (by rw [h_]; rfl)
           by_cases c27 : ((rd_LIns l0_4 x50_2).length : Int) > x3_2
           ·rw [zC c27] at H
            have c27b0 : decide (x3_2 < ((rd_LIns l0_4 x50_2).length : Int)) = true := zF c27
            clear c27
            obtain rfl := zI H
            have p280 : 0 ≤ (x50_2 : Int) := zB qA
            have q280 : x50_2 < (l0_4.length : Int) := zB qA
            obtain ⟨ad280, A280_0, c280_0, e280, hx280_0, hl280_0, hi280_0⟩ := at_LIns HR0_4.out x50_2 p280 q280
            cases e280
            replace hx280_0 := (HB.out.cell (zE w _ hx280_0)).trans hx280_0
            have HR280_0 := zA hi280_0
            have HC280_0 := zA hl280_0
            clear hi280_0 hl280_0
            replace p280 := eq_true p280
            replace q280 := eq_true q280
            go_wp2
            go_ret
            exact ⟨qE, qB⟩
           ·rw [zD c27] at H
            have c27b0 : decide (x3_2 < ((rd_LIns l0_4 x50_2).length : Int)) = false := zG c27
            clear c27
            have H' := zA H
            clear H
            have p280 : 0 ≤ (x50_2 : Int) := zB qA
            have q280 : x50_2 < (l0_4.length : Int) := zB qA
            obtain ⟨ad280, A280_0, c280_0, e280, hx280_0, hl280_0, hi280_0⟩ := at_LIns HR0_4.out x50_2 p280 q280
            cases e280
            replace hx280_0 := (HB.out.cell (zE w _ hx280_0)).trans hx280_0
            have HR280_0 := zA hi280_0
            have HC280_0 := zA hl280_0
            clear hi280_0 hl280_0
            replace p280 := eq_true p280
            replace q280 := eq_true q280
            go_wp2
            go_roundg k2
            case measure => have := HJ3.out; have := HK2.out; omega
            case rel => exact ⟨(wrap64 (x3_2 - ((rd_LIns l0_4 x50_2).length : Int))), (wrap64 (x50_2 + 1)), qT, qT, H', ⟨by have := HJ3.out; have := HK2.out; omega⟩, ⟨qK BK276.out⟩, ⟨qB⟩⟩
         ·rw [zD c25] at H
          exact absurd H (by simp)
        ·rw [zD c24] at H
         exact absurd H (by simp)
       ·rw [zD c23] at H
        have c23b0 := zG c23
        clear c23
        have H' := zA H
        clear H
        have z28_0 := bk5 BK276.out
        go_wp2
        go_loopg [71] k2 (fun kq v71 w' => ∃ (x71_3 : Int), v71 = .int .i64 x71_3 ∧ Aside0 (mach_Check.l1 kq l0_4 (l0_4.length : Int) x71_3 a0_0 a0_1 a0_2 a0_3 l0_4 = some r) ∧ Aside0 (kq ≤ k2) ∧ Aside0 (w'.heap[gb276]? = some (.cells #[.string a0_0, .int .i64 a0_1, .int .i64 a0_2, .int .i64 a0_3, (.slice A0_4 l0_4.length c0_4)] 34 (0, 0))) ∧ Aside0 (Below w.heap.size w w'))
        case atStart => exact ⟨(0), qT, H', ⟨Nat.le_refl _⟩, ⟨qK BK276.out⟩, ⟨qB⟩⟩
        case round =>
         clear H'
         try clear c1; try clear c2; try clear p2; try clear q2; try clear hx2; try clear c3; try clear p6; try clear c9; try clear c10; try clear c10b0; try clear c11; try clear c12; try clear c12b0; try clear c15; try clear c16; try clear c16b0 c16b1; try clear c21; try clear c23b0; try clear c24; try clear c24b0; try clear c25; try clear c25b0; try clear c26; try clear c26b0 c26b1 c26b2; try clear c27; try clear c27b0; try clear c28; try clear p28; try clear q28; try clear hx28; try clear z11_0; try clear z13_0; try clear z17_0; try clear z18_0; try clear z19_0; try clear z20_0; try clear z22_0; try clear z28_0; try clear z6_0; try clear hx280_0; try clear p280; try clear q280
         obtain ⟨x71_3, rfl, HA, HK3, BK276, HB⟩ := hrel
         cases gk with
         | zero => exact absurd HA.out (by simp [mach_Check.l1])
         | succ k3 =>
          have H := HA.out
          clear HA
          simp only [mach_Check.l1] at H
          by_cases c29 : x71_3 < (l0_4.length : Int)
          ·rw [zC c29] at H
           have c29b0 := zF c29
           clear c29
           by_cases c30 : 0 ≤ x71_3
           ·rw [zC c30] at H
            have c30b0 := zF c30
            clear c30
            by_cases c31 : x71_3 < (l0_4.length : Int)
            ·rw [zC c31] at H
             have c31b0 := zF c31
             clear c31
             have H' := zA H
             clear H
             have p281 : 0 ≤ (x71_3 : Int) := zB qA
             have q281 : x71_3 < (l0_4.length : Int) := zB qA
             obtain ⟨ad281, A281_0, c281_0, e281, hx281_0, hl281_0, hi281_0⟩ := at_LIns HR0_4.out x71_3 p281 q281
             cases e281
             replace hx281_0 := (HB.out.cell (zE w _ hx281_0)).trans hx281_0
             have HR281_0 := zA hi281_0
             have HC281_0 := zA hl281_0
             clear hi281_0 hl281_0
             replace p281 := eq_true p281
             replace q281 := eq_true q281
             go_wp2
             go_loopg [77] k3 (fun kq v77 w' => ∃ (x77_4 : Int), v77 = .int .i64 x77_4 ∧ Aside0 (mach_Check.l2 kq (rd_LIns l0_4 x71_3) l0_4 (l0_4.length : Int) x71_3 (rd_LIns l0_4 x71_3) ((rd_LIns l0_4 x71_3).length : Int) x77_4 a0_0 a0_1 a0_2 a0_3 l0_4 = some r) ∧ Aside0 (kq ≤ k3) ∧ Aside0 (w'.heap[gb276]? = some (.cells #[.string a0_0, .int .i64 a0_1, .int .i64 a0_2, .int .i64 a0_3, (.slice (some ad281) l0_4.length c0_4)] 34 (0, 0))) ∧ Aside0 (Below w.heap.size w w'))
             case atStart => exact ⟨(0), qT, H', ⟨Nat.le_refl _⟩, ⟨qK BK276.out⟩, ⟨qB⟩⟩
             case round =>
              clear H'
              try clear c1; try clear c2; try clear p2; try clear q2; try clear hx2; try clear c3; try clear p6; try clear c9; try clear c10; try clear c10b0; try clear c11; try clear c12; try clear c12b0; try clear c15; try clear c16; try clear c16b0 c16b1; try clear c21; try clear c23b0; try clear c24; try clear c24b0; try clear c25; try clear c25b0; try clear c26; try clear c26b0 c26b1 c26b2; try clear c27; try clear c27b0; try clear c28; try clear p28; try clear q28; try clear hx28; try clear c29b0; try clear c30b0; try clear c31b0; try clear z11_0; try clear z13_0; try clear z17_0; try clear z18_0; try clear z19_0; try clear z20_0; try clear z22_0; try clear z28_0; try clear z6_0; try clear hx280_0; try clear hx281_0; try clear p280; try clear p281; try clear q280; try clear q281
              obtain ⟨x77_4, rfl, HA, HK4, BK276, HB⟩ := hrel
              cases gk with
              | zero => exact absurd HA.out (by simp [mach_Check.l2])
              | succ k4 =>
               have H := HA.out
               clear HA
               simp only [mach_Check.l2] at H
               by_cases c32 : x77_4 < ((rd_LIns l0_4 x71_3).length : Int)
               ·rw [zC c32] at H
                have c32b0 := zF c32
                clear c32
                by_cases c33 : 0 ≤ x77_4
                ·rw [zC c33] at H
                 have c33b0 := zF c33
                 clear c33
                 by_cases c34 : x77_4 < ((rd_LIns l0_4 x71_3).length : Int)
                 ·rw [zC c34] at H
                  have c34b0 := zF c34
                  clear c34
                  replace H := qb H; obtain ⟨t284, A35, H⟩ := H
                  by_cases c36 : t284 = 0
                  ·rw [zC c36] at H
                   obtain ⟨c36b0, c36b1⟩ := qe c36; clear c36
                   have H' := zA H
                   clear H
                   have p282 : 0 ≤ (x77_4 : Int) := zB qA
                   have q282 : x77_4 < ((rd_LIns l0_4 x71_3).length : Int) := zB qA
                   obtain ⟨ad282, A282_5, c282_5, e282, hx282_0, hx282_1, hx282_2, hx282_3, hx282_4, hx282_5, hl282_5, hi282_5⟩ := at_TIns HR281_0.out x77_4 p282 q282
                   cases e282
                   replace hx282_0 := (HB.out.cell (zE w _ hx282_0)).trans hx282_0
                   replace hx282_1 := (HB.out.cell (zE w _ hx282_1)).trans hx282_1
                   replace hx282_2 := (HB.out.cell (zE w _ hx282_2)).trans hx282_2
                   replace hx282_3 := (HB.out.cell (zE w _ hx282_3)).trans hx282_3
                   replace hx282_4 := (HB.out.cell (zE w _ hx282_4)).trans hx282_4
                   replace hx282_5 := (HB.out.cell (zE w _ hx282_5)).trans hx282_5
                   have HR282_5 := zA hi282_5
                   have HC282_5 := zA hl282_5
                   clear hi282_5 hl282_5
                   replace p282 := eq_true p282
                   replace q282 := eq_true q282
                   go_wp2_with (first | ((with_reducible refine gate_dst (N := 9) rfl ?_); (try (refine gate_guard (by rfl) ?_; dsimp only)); refine box_event (by rfl) (N := 9) (by rfl) (cs := #[.int .i64 0, .int .i64 0, .int .i64 0, .int .i64 0, .string (⟨#[]⟩ : ByteArray), .slice none 0 0]) (t := 31) ?hr ?_; (case hr => go_simp <;> rfl); intro gb283 hg w37 hbox hb; have BK283 := zA (hbox); have GW283 := qG hg; have GE283 := GW283; replace HB := qH hb; have NB276_283 := zA ((by rw [hg]; exact Nat.ne_of_lt (blk_lt (g := gb276) (o := .cells #[.string a0_0, .int .i64 a0_1, .int .i64 a0_2, .int .i64 a0_3, .slice (some ad281) l0_4.length c0_4] 34 (0, 0)) (qK BK276.out)) : gb276 ≠ gb283)); have NB283_276 := zA ((by rw [hg]; exact Nat.ne_of_gt (blk_lt (g := gb276) (o := .cells #[.string a0_0, .int .i64 a0_1, .int .i64 a0_2, .int .i64 a0_3, .slice (some ad281) l0_4.length c0_4] 34 (0, 0)) (qK BK276.out)) : gb283 ≠ gb276)); replace BK276 := qW BK276 hb; clear hb hbox hg; have hnb38 := NB283_276.out; have hnc38 := NB276_283.out; have z39_0 := bk6 BK283.out) | ((with_reducible refine gate_store (t := 31) (p := 9) rfl ?_); refine store_event (t := 31) (p := 9) (v := ?vo_w40) (w1 := ((((((w37.setCell ⟨gb283, 0, none⟩ (.int .i64 ((rd_TIns (rd_LIns l0_4 x71_3) x77_4).f0))).setCell ⟨gb283, 1, none⟩ (.int .i64 ((rd_TIns (rd_LIns l0_4 x71_3) x77_4).f1))).setCell ⟨gb283, 2, none⟩ (.int .i64 ((rd_TIns (rd_LIns l0_4 x71_3) x77_4).f2))).setCell ⟨gb283, 3, none⟩ (.int .i64 ((rd_TIns (rd_LIns l0_4 x71_3) x77_4).f3))).setCell ⟨gb283, 4, none⟩ (.string ((rd_TIns (rd_LIns l0_4 x71_3) x77_4).f4))).setCell ⟨gb283, 5, none⟩ (.slice A282_5 ((rd_TIns (rd_LIns l0_4 x71_3) x77_4).f5).length c282_5))) (by rfl) (by rfl) (by rfl) ?hr ?_; (case hr => go_simp <;> rfl); intro w40 hw; have n0_ : Aside0 (w40.heap[gb276]? = some (.cells #[.string a0_0, .int .i64 a0_1, .int .i64 a0_2, .int .i64 a0_3, .slice (some ad281) l0_4.length c0_4] 34 (0, 0))) := ⟨(by rw [hw]; exact (by (with_reducible repeat (first | refine blk_drewN ?_ _ | refine blk_drew ?_ | refine blk_alloc ?_ _)); refine blk_far ?_ NB276_283.out _; (with_reducible repeat (first | refine blk_drewN ?_ _ | refine blk_drew ?_ | refine blk_alloc ?_ _)); refine blk_far ?_ NB276_283.out _; (with_reducible repeat (first | refine blk_drewN ?_ _ | refine blk_drew ?_ | refine blk_alloc ?_ _)); refine blk_far ?_ NB276_283.out _; (with_reducible repeat (first | refine blk_drewN ?_ _ | refine blk_drew ?_ | refine blk_alloc ?_ _)); refine blk_far ?_ NB276_283.out _; (with_reducible repeat (first | refine blk_drewN ?_ _ | refine blk_drew ?_ | refine blk_alloc ?_ _)); refine blk_far ?_ NB276_283.out _; (with_reducible repeat (first | refine blk_drewN ?_ _ | refine blk_drew ?_ | refine blk_alloc ?_ _)); refine blk_far ?_ NB276_283.out _; (with_reducible repeat (first | refine blk_drewN ?_ _ | refine blk_drew ?_ | refine blk_alloc ?_ _)); exact BK276.out))⟩; have n1_ : Aside0 (w40.heap[gb283]? = some (.cells #[.int .i64 ((rd_TIns (rd_LIns l0_4 x71_3) x77_4).f0), .int .i64 ((rd_TIns (rd_LIns l0_4 x71_3) x77_4).f1), .int .i64 ((rd_TIns (rd_LIns l0_4 x71_3) x77_4).f2), .int .i64 ((rd_TIns (rd_LIns l0_4 x71_3) x77_4).f3), .string ((rd_TIns (rd_LIns l0_4 x71_3) x77_4).f4), .slice A282_5 ((rd_TIns (rd_LIns l0_4 x71_3) x77_4).f5).length c282_5] 31 (0, 0))) := ⟨(by rw [hw]; exact (by (with_reducible repeat (first | refine blk_drewN ?_ _ | refine blk_drew ?_ | refine blk_alloc ?_ _)); refine blk_put (cs := #[.int .i64 ((rd_TIns (rd_LIns l0_4 x71_3) x77_4).f0), .int .i64 ((rd_TIns (rd_LIns l0_4 x71_3) x77_4).f1), .int .i64 ((rd_TIns (rd_LIns l0_4 x71_3) x77_4).f2), .int .i64 ((rd_TIns (rd_LIns l0_4 x71_3) x77_4).f3), .string ((rd_TIns (rd_LIns l0_4 x71_3) x77_4).f4), .slice none 0 0]) ?_ 5 _ rfl; (with_reducible repeat (first | refine blk_drewN ?_ _ | refine blk_drew ?_ | refine blk_alloc ?_ _)); refine blk_put (cs := #[.int .i64 ((rd_TIns (rd_LIns l0_4 x71_3) x77_4).f0), .int .i64 ((rd_TIns (rd_LIns l0_4 x71_3) x77_4).f1), .int .i64 ((rd_TIns (rd_LIns l0_4 x71_3) x77_4).f2), .int .i64 ((rd_TIns (rd_LIns l0_4 x71_3) x77_4).f3), .string (⟨#[]⟩ : ByteArray), .slice none 0 0]) ?_ 4 _ rfl; (with_reducible repeat (first | refine blk_drewN ?_ _ | refine blk_drew ?_ | refine blk_alloc ?_ _)); refine blk_put (cs := #[.int .i64 ((rd_TIns (rd_LIns l0_4 x71_3) x77_4).f0), .int .i64 ((rd_TIns (rd_LIns l0_4 x71_3) x77_4).f1), .int .i64 ((rd_TIns (rd_LIns l0_4 x71_3) x77_4).f2), .int .i64 0, .string (⟨#[]⟩ : ByteArray), .slice none 0 0]) ?_ 3 _ rfl; (with_reducible repeat (first | refine blk_drewN ?_ _ | refine blk_drew ?_ | refine blk_alloc ?_ _)); refine blk_put (cs := #[.int .i64 ((rd_TIns (rd_LIns l0_4 x71_3) x77_4).f0), .int .i64 ((rd_TIns (rd_LIns l0_4 x71_3) x77_4).f1), .int .i64 0, .int .i64 0, .string (⟨#[]⟩ : ByteArray), .slice none 0 0]) ?_ 2 _ rfl; (with_reducible repeat (first | refine blk_drewN ?_ _ | refine blk_drew ?_ | refine blk_alloc ?_ _)); refine blk_put (cs := #[.int .i64 ((rd_TIns (rd_LIns l0_4 x71_3) x77_4).f0), .int .i64 0, .int .i64 0, .int .i64 0, .string (⟨#[]⟩ : ByteArray), .slice none 0 0]) ?_ 1 _ rfl; (with_reducible repeat (first | refine blk_drewN ?_ _ | refine blk_drew ?_ | refine blk_alloc ?_ _)); refine blk_put (cs := #[.int .i64 0, .int .i64 0, .int .i64 0, .int .i64 0, .string (⟨#[]⟩ : ByteArray), .slice none 0 0]) ?_ 0 _ rfl; (with_reducible repeat (first | refine blk_drewN ?_ _ | refine blk_drew ?_ | refine blk_alloc ?_ _)); exact BK283.out))⟩; have n2_ : Aside0 (Below w.heap.size w w40) := ⟨(by rw [hw]; exact qB)⟩; clear hw; clear BK276; clear BK283; clear HB; have BK276 := n0_; have BK283 := n1_; have HB := n2_; clear n0_ n1_ n2_; have z41_0 := bk5 BK276.out; have hcz42_0 : w40.cell? ⟨gb283, 0, none⟩ = some (.int .i64 ((rd_TIns (rd_LIns l0_4 x71_3) x77_4).f0)) := (blk_cell BK283.out 0).trans rfl; have hcz42_1 : w40.cell? ⟨gb283, 1, none⟩ = some (.int .i64 ((rd_TIns (rd_LIns l0_4 x71_3) x77_4).f1)) := (blk_cell BK283.out 1).trans rfl; have hcz42_2 : w40.cell? ⟨gb283, 2, none⟩ = some (.int .i64 ((rd_TIns (rd_LIns l0_4 x71_3) x77_4).f2)) := (blk_cell BK283.out 2).trans rfl; have hcz42_3 : w40.cell? ⟨gb283, 3, none⟩ = some (.int .i64 ((rd_TIns (rd_LIns l0_4 x71_3) x77_4).f3)) := (blk_cell BK283.out 3).trans rfl; have hcz42_4 : w40.cell? ⟨gb283, 4, none⟩ = some (.string ((rd_TIns (rd_LIns l0_4 x71_3) x77_4).f4)) := (blk_cell BK283.out 4).trans rfl; have hcz42_5 : w40.cell? ⟨gb283, 5, none⟩ = some (.slice A282_5 ((rd_TIns (rd_LIns l0_4 x71_3) x77_4).f5).length c282_5) := (blk_cell BK283.out 5).trans rfl; have hfz42_0 := blk_frozen BK283.out 0; have hfz42_1 := blk_frozen BK283.out 1; have hfz42_2 := blk_frozen BK283.out 2; have hfz42_3 := blk_frozen BK283.out 3; have hfz42_4 := blk_frozen BK283.out 4; have hfz42_5 := blk_frozen BK283.out 5) | ((with_reducible refine gate_callee (f := 17) rfl ?_); refine goesL_ (some 89) rfl rfl Tryd.func17 (by kernel_rfl) rfl #[.agg #[.string a0_0, .int .i64 a0_1, .int .i64 a0_2, .int .i64 a0_3, .slice (some ad281) l0_4.length c0_4], .agg #[.int .i64 ((rd_TIns (rd_LIns l0_4 x71_3) x77_4).f0), .int .i64 ((rd_TIns (rd_LIns l0_4 x71_3) x77_4).f1), .int .i64 ((rd_TIns (rd_LIns l0_4 x71_3) x77_4).f2), .int .i64 ((rd_TIns (rd_LIns l0_4 x71_3) x77_4).f3), .string ((rd_TIns (rd_LIns l0_4 x71_3) x77_4).f4), .slice A282_5 ((rd_TIns (rd_LIns l0_4 x71_3) x77_4).f5).length c282_5], .bool (x77_4 == (wrap64 (((rd_LIns l0_4 x71_3).length : Int) - 1)))] rfl qL ?_; (with_reducible refine (mach_one.calls k4 a0_0 a0_1 a0_2 a0_3 _ _ l0_4 ((rd_TIns (rd_LIns l0_4 x71_3) x77_4).f0) ((rd_TIns (rd_LIns l0_4 x71_3) x77_4).f1) ((rd_TIns (rd_LIns l0_4 x71_3) x77_4).f2) ((rd_TIns (rd_LIns l0_4 x71_3) x77_4).f3) ((rd_TIns (rd_LIns l0_4 x71_3) x77_4).f4) (fun k_ => k_ < w.heap.size) _ _ ((rd_TIns (rd_LIns l0_4 x71_3) x77_4).f5) (x77_4 == (wrap64 (((rd_LIns l0_4 x71_3).length : Int) - 1))) t284 _ ?side1 ?side2 ?side3 A35.out (hL := ?side99)).mono ?_); (case side1 => exact qCB HR0_4.out); (case side2 => exact HC0_4.out); (case side3 => exact Kd.V_mk HC282_5.out (Kd.F_below (Kd.C_F (Kd.heap_int .i64) HR282_5.out) qB)); (case side99 => exact LaidW.below HLd.out qB); rintro e w43 ⟨rfl, hb⟩; refine ⟨_, rfl, ?_⟩; replace BK276 := qW BK276 hb; replace BK283 := qW BK283 hb; replace HB := qH hb; (try clear hb)))
                   go_roundg k4
                   case measure => have := HJ3.out; have := HK2.out; have := HK3.out; have := HK4.out; omega
                   case rel => exact ⟨(wrap64 (x77_4 + 1)), qT, H', ⟨by have := HJ3.out; have := HK2.out; have := HK3.out; have := HK4.out; omega⟩, ⟨qK BK276.out⟩, ⟨qB⟩⟩
                  ·rw [zD c36] at H
                   obtain ⟨c36b0, c36b1⟩ := qn c36
                   obtain rfl := zI H
                   have p282 : 0 ≤ (x77_4 : Int) := zB qA
                   have q282 : x77_4 < ((rd_LIns l0_4 x71_3).length : Int) := zB qA
                   obtain ⟨ad282, A282_5, c282_5, e282, hx282_0, hx282_1, hx282_2, hx282_3, hx282_4, hx282_5, hl282_5, hi282_5⟩ := at_TIns HR281_0.out x77_4 p282 q282
                   cases e282
                   replace hx282_0 := (HB.out.cell (zE w _ hx282_0)).trans hx282_0
                   replace hx282_1 := (HB.out.cell (zE w _ hx282_1)).trans hx282_1
                   replace hx282_2 := (HB.out.cell (zE w _ hx282_2)).trans hx282_2
                   replace hx282_3 := (HB.out.cell (zE w _ hx282_3)).trans hx282_3
                   replace hx282_4 := (HB.out.cell (zE w _ hx282_4)).trans hx282_4
                   replace hx282_5 := (HB.out.cell (zE w _ hx282_5)).trans hx282_5
                   have HR282_5 := zA hi282_5
                   have HC282_5 := zA hl282_5
                   clear hi282_5 hl282_5
                   replace p282 := eq_true p282
                   replace q282 := eq_true q282
                   go_wp2_with (first | ((with_reducible refine gate_dst (N := 9) rfl ?_); (try (refine gate_guard (by rfl) ?_; dsimp only)); refine box_event (by rfl) (N := 9) (by rfl) (cs := #[.int .i64 0, .int .i64 0, .int .i64 0, .int .i64 0, .string (⟨#[]⟩ : ByteArray), .slice none 0 0]) (t := 31) ?hr ?_; (case hr => go_simp <;> rfl); intro gb283 hg w44 hbox hb; have BK283 := zA (hbox); have GW283 := qG hg; have GE283 := GW283; replace HB := qH hb; have NB276_283 := zA ((by rw [hg]; exact Nat.ne_of_lt (blk_lt (g := gb276) (o := .cells #[.string a0_0, .int .i64 a0_1, .int .i64 a0_2, .int .i64 a0_3, .slice (some ad281) l0_4.length c0_4] 34 (0, 0)) (qK BK276.out)) : gb276 ≠ gb283)); have NB283_276 := zA ((by rw [hg]; exact Nat.ne_of_gt (blk_lt (g := gb276) (o := .cells #[.string a0_0, .int .i64 a0_1, .int .i64 a0_2, .int .i64 a0_3, .slice (some ad281) l0_4.length c0_4] 34 (0, 0)) (qK BK276.out)) : gb283 ≠ gb276)); replace BK276 := qW BK276 hb; clear hb hbox hg; have hnb45 := NB283_276.out; have hnc45 := NB276_283.out; have z46_0 := bk6 BK283.out) | ((with_reducible refine gate_store (t := 31) (p := 9) rfl ?_); refine store_event (t := 31) (p := 9) (v := ?vo_w47) (w1 := ((((((w44.setCell ⟨gb283, 0, none⟩ (.int .i64 ((rd_TIns (rd_LIns l0_4 x71_3) x77_4).f0))).setCell ⟨gb283, 1, none⟩ (.int .i64 ((rd_TIns (rd_LIns l0_4 x71_3) x77_4).f1))).setCell ⟨gb283, 2, none⟩ (.int .i64 ((rd_TIns (rd_LIns l0_4 x71_3) x77_4).f2))).setCell ⟨gb283, 3, none⟩ (.int .i64 ((rd_TIns (rd_LIns l0_4 x71_3) x77_4).f3))).setCell ⟨gb283, 4, none⟩ (.string ((rd_TIns (rd_LIns l0_4 x71_3) x77_4).f4))).setCell ⟨gb283, 5, none⟩ (.slice A282_5 ((rd_TIns (rd_LIns l0_4 x71_3) x77_4).f5).length c282_5))) (by rfl) (by rfl) (by rfl) ?hr ?_; (case hr => go_simp <;> rfl); intro w47 hw; have n0_ : Aside0 (w47.heap[gb276]? = some (.cells #[.string a0_0, .int .i64 a0_1, .int .i64 a0_2, .int .i64 a0_3, .slice (some ad281) l0_4.length c0_4] 34 (0, 0))) := ⟨(by rw [hw]; exact (by (with_reducible repeat (first | refine blk_drewN ?_ _ | refine blk_drew ?_ | refine blk_alloc ?_ _)); refine blk_far ?_ NB276_283.out _; (with_reducible repeat (first | refine blk_drewN ?_ _ | refine blk_drew ?_ | refine blk_alloc ?_ _)); refine blk_far ?_ NB276_283.out _; (with_reducible repeat (first | refine blk_drewN ?_ _ | refine blk_drew ?_ | refine blk_alloc ?_ _)); refine blk_far ?_ NB276_283.out _; (with_reducible repeat (first | refine blk_drewN ?_ _ | refine blk_drew ?_ | refine blk_alloc ?_ _)); refine blk_far ?_ NB276_283.out _; (with_reducible repeat (first | refine blk_drewN ?_ _ | refine blk_drew ?_ | refine blk_alloc ?_ _)); refine blk_far ?_ NB276_283.out _; (with_reducible repeat (first | refine blk_drewN ?_ _ | refine blk_drew ?_ | refine blk_alloc ?_ _)); refine blk_far ?_ NB276_283.out _; (with_reducible repeat (first | refine blk_drewN ?_ _ | refine blk_drew ?_ | refine blk_alloc ?_ _)); exact BK276.out))⟩; have n1_ : Aside0 (w47.heap[gb283]? = some (.cells #[.int .i64 ((rd_TIns (rd_LIns l0_4 x71_3) x77_4).f0), .int .i64 ((rd_TIns (rd_LIns l0_4 x71_3) x77_4).f1), .int .i64 ((rd_TIns (rd_LIns l0_4 x71_3) x77_4).f2), .int .i64 ((rd_TIns (rd_LIns l0_4 x71_3) x77_4).f3), .string ((rd_TIns (rd_LIns l0_4 x71_3) x77_4).f4), .slice A282_5 ((rd_TIns (rd_LIns l0_4 x71_3) x77_4).f5).length c282_5] 31 (0, 0))) := ⟨(by rw [hw]; exact (by (with_reducible repeat (first | refine blk_drewN ?_ _ | refine blk_drew ?_ | refine blk_alloc ?_ _)); refine blk_put (cs := #[.int .i64 ((rd_TIns (rd_LIns l0_4 x71_3) x77_4).f0), .int .i64 ((rd_TIns (rd_LIns l0_4 x71_3) x77_4).f1), .int .i64 ((rd_TIns (rd_LIns l0_4 x71_3) x77_4).f2), .int .i64 ((rd_TIns (rd_LIns l0_4 x71_3) x77_4).f3), .string ((rd_TIns (rd_LIns l0_4 x71_3) x77_4).f4), .slice none 0 0]) ?_ 5 _ rfl; (with_reducible repeat (first | refine blk_drewN ?_ _ | refine blk_drew ?_ | refine blk_alloc ?_ _)); refine blk_put (cs := #[.int .i64 ((rd_TIns (rd_LIns l0_4 x71_3) x77_4).f0), .int .i64 ((rd_TIns (rd_LIns l0_4 x71_3) x77_4).f1), .int .i64 ((rd_TIns (rd_LIns l0_4 x71_3) x77_4).f2), .int .i64 ((rd_TIns (rd_LIns l0_4 x71_3) x77_4).f3), .string (⟨#[]⟩ : ByteArray), .slice none 0 0]) ?_ 4 _ rfl; (with_reducible repeat (first | refine blk_drewN ?_ _ | refine blk_drew ?_ | refine blk_alloc ?_ _)); refine blk_put (cs := #[.int .i64 ((rd_TIns (rd_LIns l0_4 x71_3) x77_4).f0), .int .i64 ((rd_TIns (rd_LIns l0_4 x71_3) x77_4).f1), .int .i64 ((rd_TIns (rd_LIns l0_4 x71_3) x77_4).f2), .int .i64 0, .string (⟨#[]⟩ : ByteArray), .slice none 0 0]) ?_ 3 _ rfl; (with_reducible repeat (first | refine blk_drewN ?_ _ | refine blk_drew ?_ | refine blk_alloc ?_ _)); refine blk_put (cs := #[.int .i64 ((rd_TIns (rd_LIns l0_4 x71_3) x77_4).f0), .int .i64 ((rd_TIns (rd_LIns l0_4 x71_3) x77_4).f1), .int .i64 0, .int .i64 0, .string (⟨#[]⟩ : ByteArray), .slice none 0 0]) ?_ 2 _ rfl; (with_reducible repeat (first | refine blk_drewN ?_ _ | refine blk_drew ?_ | refine blk_alloc ?_ _)); refine blk_put (cs := #[.int .i64 ((rd_TIns (rd_LIns l0_4 x71_3) x77_4).f0), .int .i64 0, .int .i64 0, .int .i64 0, .string (⟨#[]⟩ : ByteArray), .slice none 0 0]) ?_ 1 _ rfl; (with_reducible repeat (first | refine blk_drewN ?_ _ | refine blk_drew ?_ | refine blk_alloc ?_ _)); refine blk_put (cs := #[.int .i64 0, .int .i64 0, .int .i64 0, .int .i64 0, .string (⟨#[]⟩ : ByteArray), .slice none 0 0]) ?_ 0 _ rfl; (with_reducible repeat (first | refine blk_drewN ?_ _ | refine blk_drew ?_ | refine blk_alloc ?_ _)); exact BK283.out))⟩; have n2_ : Aside0 (Below w.heap.size w w47) := ⟨(by rw [hw]; exact qB)⟩; clear hw; clear BK276; clear BK283; clear HB; have BK276 := n0_; have BK283 := n1_; have HB := n2_; clear n0_ n1_ n2_; have z48_0 := bk5 BK276.out; have hcz49_0 : w47.cell? ⟨gb283, 0, none⟩ = some (.int .i64 ((rd_TIns (rd_LIns l0_4 x71_3) x77_4).f0)) := (blk_cell BK283.out 0).trans rfl; have hcz49_1 : w47.cell? ⟨gb283, 1, none⟩ = some (.int .i64 ((rd_TIns (rd_LIns l0_4 x71_3) x77_4).f1)) := (blk_cell BK283.out 1).trans rfl; have hcz49_2 : w47.cell? ⟨gb283, 2, none⟩ = some (.int .i64 ((rd_TIns (rd_LIns l0_4 x71_3) x77_4).f2)) := (blk_cell BK283.out 2).trans rfl; have hcz49_3 : w47.cell? ⟨gb283, 3, none⟩ = some (.int .i64 ((rd_TIns (rd_LIns l0_4 x71_3) x77_4).f3)) := (blk_cell BK283.out 3).trans rfl; have hcz49_4 : w47.cell? ⟨gb283, 4, none⟩ = some (.string ((rd_TIns (rd_LIns l0_4 x71_3) x77_4).f4)) := (blk_cell BK283.out 4).trans rfl; have hcz49_5 : w47.cell? ⟨gb283, 5, none⟩ = some (.slice A282_5 ((rd_TIns (rd_LIns l0_4 x71_3) x77_4).f5).length c282_5) := (blk_cell BK283.out 5).trans rfl; have hfz49_0 := blk_frozen BK283.out 0; have hfz49_1 := blk_frozen BK283.out 1; have hfz49_2 := blk_frozen BK283.out 2; have hfz49_3 := blk_frozen BK283.out 3; have hfz49_4 := blk_frozen BK283.out 4; have hfz49_5 := blk_frozen BK283.out 5) | ((with_reducible refine gate_callee (f := 17) rfl ?_); refine goesL_ (some 89) rfl rfl Tryd.func17 (by kernel_rfl) rfl #[.agg #[.string a0_0, .int .i64 a0_1, .int .i64 a0_2, .int .i64 a0_3, .slice (some ad281) l0_4.length c0_4], .agg #[.int .i64 ((rd_TIns (rd_LIns l0_4 x71_3) x77_4).f0), .int .i64 ((rd_TIns (rd_LIns l0_4 x71_3) x77_4).f1), .int .i64 ((rd_TIns (rd_LIns l0_4 x71_3) x77_4).f2), .int .i64 ((rd_TIns (rd_LIns l0_4 x71_3) x77_4).f3), .string ((rd_TIns (rd_LIns l0_4 x71_3) x77_4).f4), .slice A282_5 ((rd_TIns (rd_LIns l0_4 x71_3) x77_4).f5).length c282_5], .bool (x77_4 == (wrap64 (((rd_LIns l0_4 x71_3).length : Int) - 1)))] rfl qL ?_; (with_reducible refine (mach_one.calls k4 a0_0 a0_1 a0_2 a0_3 _ _ l0_4 ((rd_TIns (rd_LIns l0_4 x71_3) x77_4).f0) ((rd_TIns (rd_LIns l0_4 x71_3) x77_4).f1) ((rd_TIns (rd_LIns l0_4 x71_3) x77_4).f2) ((rd_TIns (rd_LIns l0_4 x71_3) x77_4).f3) ((rd_TIns (rd_LIns l0_4 x71_3) x77_4).f4) (fun k_ => k_ < w.heap.size) _ _ ((rd_TIns (rd_LIns l0_4 x71_3) x77_4).f5) (x77_4 == (wrap64 (((rd_LIns l0_4 x71_3).length : Int) - 1))) t284 _ ?side1 ?side2 ?side3 A35.out (hL := ?side99)).mono ?_); (case side1 => exact qCB HR0_4.out); (case side2 => exact HC0_4.out); (case side3 => exact Kd.V_mk HC282_5.out (Kd.F_below (Kd.C_F (Kd.heap_int .i64) HR282_5.out) qB)); (case side99 => exact LaidW.below HLd.out qB); rintro e w50 ⟨rfl, hb⟩; refine ⟨_, rfl, ?_⟩; replace BK276 := qW BK276 hb; replace BK283 := qW BK283 hb; replace HB := qH hb; (try clear hb)))
                   go_ret
                   exact ⟨qE, qB⟩
                 ·rw [zD c34] at H
                  exact absurd H (by simp)
                ·rw [zD c33] at H
                 exact absurd H (by simp)
               ·rw [zD c32] at H
                have c32b0 := zG c32
                clear c32
                have H' := zA H
                clear H
                go_wp2
                go_roundg k4
                case measure => have := HJ3.out; have := HK2.out; have := HK3.out; have := HK4.out; omega
                case rel => exact ⟨(wrap64 (x71_3 + 1)), qT, H', ⟨by have := HJ3.out; have := HK2.out; have := HK3.out; have := HK4.out; omega⟩, ⟨qK BK276.out⟩, ⟨qB⟩⟩
            ·rw [zD c31] at H
             exact absurd H (by simp)
           ·rw [zD c30] at H
            exact absurd H (by simp)
          ·rw [zD c29] at H
           have c29b0 := zG c29
           clear c29
           obtain rfl := zI H
           go_wp2
           go_ret
           exact ⟨qE, qB⟩
 ·replace c3 := Bool.eq_false_iff.mpr c3
  subst c3
  have H1 : (some 70) = some r := by rw [zD (show ¬ (false = true) by decide)] at H; exact H
  clear H
  have H := H1
  clear H1
  obtain rfl := zI H
  go_enter Tryd.func9, Tryd.ntmps9
  go_wp2_with (first | ((with_reducible refine gate_dst (N := 1) rfl ?_); (try (refine gate_guard (by rfl) ?_; dsimp only)); refine box_event (by rfl) (N := 1) (by rfl) (cs := #[.string a0_0, .int .i64 a0_1, .int .i64 a0_2, .int .i64 a0_3, .slice A0_4 l0_4.length c0_4]) (t := 34) ?hr ?_; (case hr => go_simp <;> rfl); intro gb276 hg w51 hbox hb; have BK276 := zA (hbox); have GW276 := qG hg; have GE276 := GW276; replace HB := qH hb; clear hb hbox hg; have z52_0 := bk5 BK276.out) | ((with_reducible refine gate_callee (f := 11) rfl ?_); refine goesL_ (some 13) rfl rfl Tryd.func11 (by kernel_rfl) rfl #[.string a0_0] rfl qL ?_; (with_reducible refine (ir_Name.calls a0_0 false _ A2.out).mono ?_); rintro e w53 ⟨rfl, hb⟩; refine ⟨_, rfl, ?_⟩; replace BK276 := qW BK276 hb; replace HB := qH hb; (try clear hb)))
  go_ret
  exact ⟨qE, qB⟩

mutual
def cubbyref07_Name.j0 : Nat → ByteArray → Bool → Option (Bool)
 | 0, _, _ => none
 | k + 1, x0, x13 => if x13 = true then (some false) else (cubbyref07_Name.l0 k x0 0)
def cubbyref07_Name.l0 : Nat → ByteArray → Int → Option (Bool)
 | 0, _, _ => none
 | k + 1, x0, x3 => if x3 < (x0.size : Int) then (if 0 ≤ x3 then (if (bt x0 x3) ≥ 97 then (if (bt x0 x3) ≥ 48 then (if ((bt x0 x3) ≤ 122) then (cubbyref07_Name.l0 k x0 (wrap64 (x3 + 1))) else (if ((bt x0 x3) ≤ 57) then (if x3 = 0 then (some false) else (cubbyref07_Name.l0 k x0 (wrap64 (x3 + 1)))) else (some false))) else (if ((bt x0 x3) ≤ 122) then (cubbyref07_Name.l0 k x0 (wrap64 (x3 + 1))) else (some false))) else (if (bt x0 x3) ≥ 48 then (if ((bt x0 x3) ≤ 57) then (if x3 = 0 then (some false) else (cubbyref07_Name.l0 k x0 (wrap64 (x3 + 1)))) else (some false)) else (some false))) else (none)) else (some true)
end
def cubbyref07_Name.f (k : Nat) (a0 : ByteArray) : Option (Bool) := if (a0.size : Int) < 1 then (cubbyref07_Name.j0 k a0 true) else (cubbyref07_Name.j0 k a0 (decide ((a0.size : Int) > 12)))
set_option maxHeartbeats 8000000 in
set_option maxRecDepth 100000 in
theorem cubbyref07_Name.calls (k : Nat) (a0 : ByteArray) (r : Bool) (w : World) (h : cubbyref07_Name.f k a0 = some r) :
 Calls Tryd.prog 13 #[.string a0] w fun e w' => e = .returned (.bool r) ∧ Drawn0 w w' := by
 have H := h; clear h; unfold cubbyref07_Name.f at H
 have HC2 := zA H
 clear H
 go_enter Tryd.func13, Tryd.ntmps13
 go_upto_region 1 with (fail)
 go_cut [13] (fun v13 wc => ∃ (kq : Nat) (x13_1 : Bool), v13 = .bool x13_1 ∧ Aside0 (cubbyref07_Name.j0 kq a0 x13_1 = some r) ∧ Aside0 (kq ≤ k) ∧ Drawn0 w wc)
 case first =>
  have H := HC2.out
  clear HC2
  by_cases c3 : (a0.size : Int) < 1
  ·rw [zC c3] at H
   have c3b0 := zF c3
   have c3b1 : decide (a0.size < 1) = true := zF (by omega)
   clear c3
   (first | rw [c3b0] | (simp only [i64_w, i32_w]; rw [c3b0]) | skip)
   have H' := zA H
   clear H
   go_wp2
   go_meet
   case rel => exact ⟨_, (true), qT, H', ⟨qO⟩, qD⟩
  ·rw [zD c3] at H
   have c3b0 := zG c3
   have c3b1 : decide (a0.size < 1) = false := zG (by omega)
   clear c3
   (first | rw [c3b0] | (simp only [i64_w, i32_w]; rw [c3b0]) | skip)
   have H' := zA H
   clear H
   go_wp2
   go_meet
   case rel => exact ⟨_, (decide ((a0.size : Int) > 12)), qT, H', ⟨qO⟩, qD⟩
 case rest =>
  clear HC2
  obtain ⟨kq, x13_1, rfl, HA, HJ1, ⟨mc1, rfl⟩⟩ := hcut
  cases kq with
  | zero => exact absurd HA.out (by simp [cubbyref07_Name.j0])
  | succ kj1 =>
   have H := HA.out
   clear HA
   simp only [cubbyref07_Name.j0] at H
   by_cases c4 : x13_1 = true
   ·subst c4
    have H1 : (some false) = some r := by rw [zC rfl] at H; exact H
    clear H
    have H := H1
    clear H1
    obtain rfl := zI H
    go_wp2
    go_ret
    exact ⟨by first | rfl | (simp; done) | (simp [*]; done), qD⟩
   ·replace c4 := Bool.eq_false_iff.mpr c4
    subst c4
    have H1 : (cubbyref07_Name.l0 kj1 a0 0) = some r := by rw [zD (show ¬ (false = true) by decide)] at H; exact H
    clear H
    have H := H1
    clear H1
    have H' := zA H
    clear H
    go_wp2
    go_loopg [3] kj1 (fun kq v3 w' => ∃ (x3_2 : Int), v3 = .int .i64 x3_2 ∧ Aside0 (cubbyref07_Name.l0 kq a0 x3_2 = some r) ∧ Aside0 (kq ≤ kj1) ∧ Drawn0 w w')
    case atStart => exact ⟨(0), qT, H', ⟨Nat.le_refl _⟩, qD⟩
    case round =>
     clear H'
     obtain ⟨x3_2, rfl, HA, HK2, ⟨m2, rfl⟩⟩ := hrel
     cases gk with
     | zero => exact absurd HA.out (by simp [cubbyref07_Name.l0])
     | succ k2 =>
      have H := HA.out
      clear HA
      simp only [cubbyref07_Name.l0] at H
      by_cases c5 : x3_2 < (a0.size : Int)
      ·rw [zC c5] at H
       have c5b0 := zF c5
       clear c5
       by_cases c6 : 0 ≤ x3_2
       ·rw [zC c6] at H
        have c6b0 := zF c6
        clear c6
        by_cases c8 : (bt a0 x3_2) ≥ 97
        ·rw [zC c8] at H
         have c8b0 : decide (97 ≤ (bt a0 x3_2)) = true := zF c8
         clear c8
         by_cases c11 : (bt a0 x3_2) ≥ 48
         ·rw [zC c11] at H
          have c11b0 : decide (48 ≤ (bt a0 x3_2)) = true := zF c11
          clear c11
          by_cases c13 : ((bt a0 x3_2) ≤ 122)
          ·rw [zC c13] at H
           have c13b0 : decide ((bt a0 x3_2) ≤ 122) = true := zF c13
           clear c13
           have H' := zA H
           clear H
           have p7 : 0 ≤ (x3_2 : Int) := zB qA
           have q7 : x3_2 < (a0.size : Int) := zB qA
           have hx7 := bt_at a0 x3_2
           replace p7 := eq_true p7
           replace q7 := eq_true q7
           have p9 : 0 ≤ (x3_2 : Int) := zB qA
           have q9 : x3_2 < (a0.size : Int) := zB qA
           have hx9 := bt_at a0 x3_2
           replace p9 := eq_true p9
           replace q9 := eq_true q9
           have p10 : 0 ≤ (x3_2 : Int) := zB qA
           have q10 : x3_2 < (a0.size : Int) := zB qA
           have hx10 := bt_at a0 x3_2
           replace p10 := eq_true p10
           replace q10 := eq_true q10
           have p12 : 0 ≤ (x3_2 : Int) := zB qA
           have q12 : x3_2 < (a0.size : Int) := zB qA
           have hx12 := bt_at a0 x3_2
           replace p12 := eq_true p12
           replace q12 := eq_true q12
           go_wp2
           go_roundg k2
           case measure => have := HJ1.out; have := HK2.out; omega
           case rel => exact ⟨(wrap64 (x3_2 + 1)), qT, H', ⟨by have := HJ1.out; have := HK2.out; omega⟩, qD⟩
          ·rw [zD c13] at H
           have c13b0 : decide ((bt a0 x3_2) ≤ 122) = false := zG c13
           clear c13
           by_cases c14 : ((bt a0 x3_2) ≤ 57)
           ·rw [zC c14] at H
            have c14b0 : decide ((bt a0 x3_2) ≤ 57) = true := zF c14
            clear c14
            by_cases c15 : x3_2 = 0
            ·rw [zC c15] at H
             obtain ⟨c15b0, c15b1⟩ := qe c15; clear c15
             obtain rfl := zI H
             have p7 : 0 ≤ (x3_2 : Int) := zB qA
             have q7 : x3_2 < (a0.size : Int) := zB qA
             have hx7 := bt_at a0 x3_2
             replace p7 := eq_true p7
             replace q7 := eq_true q7
             have p9 : 0 ≤ (x3_2 : Int) := zB qA
             have q9 : x3_2 < (a0.size : Int) := zB qA
             have hx9 := bt_at a0 x3_2
             replace p9 := eq_true p9
             replace q9 := eq_true q9
             have p10 : 0 ≤ (x3_2 : Int) := zB qA
             have q10 : x3_2 < (a0.size : Int) := zB qA
             have hx10 := bt_at a0 x3_2
             replace p10 := eq_true p10
             replace q10 := eq_true q10
             have p12 : 0 ≤ (x3_2 : Int) := zB qA
             have q12 : x3_2 < (a0.size : Int) := zB qA
             have hx12 := bt_at a0 x3_2
             replace p12 := eq_true p12
             replace q12 := eq_true q12
             go_wp2
             go_ret
             exact ⟨by first | rfl | (simp; done) | (simp [*]; done), qD⟩
            ·rw [zD c15] at H
             obtain ⟨c15b0, c15b1⟩ := qn c15
             have H' := zA H
             clear H
             have p7 : 0 ≤ (x3_2 : Int) := zB qA
             have q7 : x3_2 < (a0.size : Int) := zB qA
             have hx7 := bt_at a0 x3_2
             replace p7 := eq_true p7
             replace q7 := eq_true q7
             have p9 : 0 ≤ (x3_2 : Int) := zB qA
             have q9 : x3_2 < (a0.size : Int) := zB qA
             have hx9 := bt_at a0 x3_2
             replace p9 := eq_true p9
             replace q9 := eq_true q9
             have p10 : 0 ≤ (x3_2 : Int) := zB qA
             have q10 : x3_2 < (a0.size : Int) := zB qA
             have hx10 := bt_at a0 x3_2
             replace p10 := eq_true p10
             replace q10 := eq_true q10
             have p12 : 0 ≤ (x3_2 : Int) := zB qA
             have q12 : x3_2 < (a0.size : Int) := zB qA
             have hx12 := bt_at a0 x3_2
             replace p12 := eq_true p12
             replace q12 := eq_true q12
             go_wp2
             go_roundg k2
             case measure => have := HJ1.out; have := HK2.out; omega
             case rel => exact ⟨(wrap64 (x3_2 + 1)), qT, H', ⟨by have := HJ1.out; have := HK2.out; omega⟩, qD⟩
           ·rw [zD c14] at H
            have c14b0 : decide ((bt a0 x3_2) ≤ 57) = false := zG c14
            clear c14
            obtain rfl := zI H
            have p7 : 0 ≤ (x3_2 : Int) := zB qA
            have q7 : x3_2 < (a0.size : Int) := zB qA
            have hx7 := bt_at a0 x3_2
            replace p7 := eq_true p7
            replace q7 := eq_true q7
            have p9 : 0 ≤ (x3_2 : Int) := zB qA
            have q9 : x3_2 < (a0.size : Int) := zB qA
            have hx9 := bt_at a0 x3_2
            replace p9 := eq_true p9
            replace q9 := eq_true q9
            have p10 : 0 ≤ (x3_2 : Int) := zB qA
            have q10 : x3_2 < (a0.size : Int) := zB qA
            have hx10 := bt_at a0 x3_2
            replace p10 := eq_true p10
            replace q10 := eq_true q10
            have p12 : 0 ≤ (x3_2 : Int) := zB qA
            have q12 : x3_2 < (a0.size : Int) := zB qA
            have hx12 := bt_at a0 x3_2
            replace p12 := eq_true p12
            replace q12 := eq_true q12
            go_wp2
            go_ret
            exact ⟨by first | rfl | (simp; done) | (simp [*]; done), qD⟩
         ·rw [zD c11] at H
          have c11b0 : decide (48 ≤ (bt a0 x3_2)) = false := zG c11
          clear c11
          by_cases c16 : ((bt a0 x3_2) ≤ 122)
          ·rw [zC c16] at H
           have c16b0 : decide ((bt a0 x3_2) ≤ 122) = true := zF c16
           clear c16
           have H' := zA H
           clear H
           have p7 : 0 ≤ (x3_2 : Int) := zB qA
           have q7 : x3_2 < (a0.size : Int) := zB qA
           have hx7 := bt_at a0 x3_2
           replace p7 := eq_true p7
           replace q7 := eq_true q7
           have p9 : 0 ≤ (x3_2 : Int) := zB qA
           have q9 : x3_2 < (a0.size : Int) := zB qA
           have hx9 := bt_at a0 x3_2
           replace p9 := eq_true p9
           replace q9 := eq_true q9
           have p10 : 0 ≤ (x3_2 : Int) := zB qA
           have q10 : x3_2 < (a0.size : Int) := zB qA
           have hx10 := bt_at a0 x3_2
           replace p10 := eq_true p10
           replace q10 := eq_true q10
           go_wp2
           go_roundg k2
           case measure => have := HJ1.out; have := HK2.out; omega
           case rel => exact ⟨(wrap64 (x3_2 + 1)), qT, H', ⟨by have := HJ1.out; have := HK2.out; omega⟩, qD⟩
          ·rw [zD c16] at H
           have c16b0 : decide ((bt a0 x3_2) ≤ 122) = false := zG c16
           clear c16
           obtain rfl := zI H
           have p7 : 0 ≤ (x3_2 : Int) := zB qA
           have q7 : x3_2 < (a0.size : Int) := zB qA
           have hx7 := bt_at a0 x3_2
           replace p7 := eq_true p7
           replace q7 := eq_true q7
           have p9 : 0 ≤ (x3_2 : Int) := zB qA
           have q9 : x3_2 < (a0.size : Int) := zB qA
           have hx9 := bt_at a0 x3_2
           replace p9 := eq_true p9
           replace q9 := eq_true q9
           have p10 : 0 ≤ (x3_2 : Int) := zB qA
           have q10 : x3_2 < (a0.size : Int) := zB qA
           have hx10 := bt_at a0 x3_2
           replace p10 := eq_true p10
           replace q10 := eq_true q10
           go_wp2
           go_ret
           exact ⟨by first | rfl | (simp; done) | (simp [*]; done), qD⟩
        ·rw [zD c8] at H
         have c8b0 : decide (97 ≤ (bt a0 x3_2)) = false := zG c8
         clear c8
         by_cases c18 : (bt a0 x3_2) ≥ 48
         ·rw [zC c18] at H
          have c18b0 : decide (48 ≤ (bt a0 x3_2)) = true := zF c18
          clear c18
          by_cases c20 : ((bt a0 x3_2) ≤ 57)
          ·rw [zC c20] at H
           have c20b0 : decide ((bt a0 x3_2) ≤ 57) = true := zF c20
           clear c20
           by_cases c21 : x3_2 = 0
           ·rw [zC c21] at H
            obtain ⟨c21b0, c21b1⟩ := qe c21; clear c21
            obtain rfl := zI H
            have p7 : 0 ≤ (x3_2 : Int) := zB qA
            have q7 : x3_2 < (a0.size : Int) := zB qA
            have hx7 := bt_at a0 x3_2
            replace p7 := eq_true p7
            replace q7 := eq_true q7
            have p17 : 0 ≤ (x3_2 : Int) := zB qA
            have q17 : x3_2 < (a0.size : Int) := zB qA
            have hx17 := bt_at a0 x3_2
            replace p17 := eq_true p17
            replace q17 := eq_true q17
            have p19 : 0 ≤ (x3_2 : Int) := zB qA
            have q19 : x3_2 < (a0.size : Int) := zB qA
            have hx19 := bt_at a0 x3_2
            replace p19 := eq_true p19
            replace q19 := eq_true q19
            go_wp2
            go_ret
            exact ⟨by first | rfl | (simp; done) | (simp [*]; done), qD⟩
           ·rw [zD c21] at H
            obtain ⟨c21b0, c21b1⟩ := qn c21
            have H' := zA H
            clear H
            have p7 : 0 ≤ (x3_2 : Int) := zB qA
            have q7 : x3_2 < (a0.size : Int) := zB qA
            have hx7 := bt_at a0 x3_2
            replace p7 := eq_true p7
            replace q7 := eq_true q7
            have p17 : 0 ≤ (x3_2 : Int) := zB qA
            have q17 : x3_2 < (a0.size : Int) := zB qA
            have hx17 := bt_at a0 x3_2
            replace p17 := eq_true p17
            replace q17 := eq_true q17
            have p19 : 0 ≤ (x3_2 : Int) := zB qA
            have q19 : x3_2 < (a0.size : Int) := zB qA
            have hx19 := bt_at a0 x3_2
            replace p19 := eq_true p19
            replace q19 := eq_true q19
            go_wp2
            go_roundg k2
            case measure => have := HJ1.out; have := HK2.out; omega
            case rel => exact ⟨(wrap64 (x3_2 + 1)), qT, H', ⟨by have := HJ1.out; have := HK2.out; omega⟩, qD⟩
          ·rw [zD c20] at H
           have c20b0 : decide ((bt a0 x3_2) ≤ 57) = false := zG c20
           clear c20
           obtain rfl := zI H
           have p7 : 0 ≤ (x3_2 : Int) := zB qA
           have q7 : x3_2 < (a0.size : Int) := zB qA
           have hx7 := bt_at a0 x3_2
           replace p7 := eq_true p7
           replace q7 := eq_true q7
           have p17 : 0 ≤ (x3_2 : Int) := zB qA
           have q17 : x3_2 < (a0.size : Int) := zB qA
           have hx17 := bt_at a0 x3_2
           replace p17 := eq_true p17
           replace q17 := eq_true q17
           have p19 : 0 ≤ (x3_2 : Int) := zB qA
           have q19 : x3_2 < (a0.size : Int) := zB qA
           have hx19 := bt_at a0 x3_2
           replace p19 := eq_true p19
           replace q19 := eq_true q19
           go_wp2
           go_ret
           exact ⟨by first | rfl | (simp; done) | (simp [*]; done), qD⟩
         ·rw [zD c18] at H
          have c18b0 : decide (48 ≤ (bt a0 x3_2)) = false := zG c18
          clear c18
          obtain rfl := zI H
          have p7 : 0 ≤ (x3_2 : Int) := zB qA
          have q7 : x3_2 < (a0.size : Int) := zB qA
          have hx7 := bt_at a0 x3_2
          replace p7 := eq_true p7
          replace q7 := eq_true q7
          have p17 : 0 ≤ (x3_2 : Int) := zB qA
          have q17 : x3_2 < (a0.size : Int) := zB qA
          have hx17 := bt_at a0 x3_2
          replace p17 := eq_true p17
          replace q17 := eq_true q17
          go_wp2
          go_ret
          exact ⟨by first | rfl | (simp; done) | (simp [*]; done), qD⟩
       ·rw [zD c6] at H
        exact absurd H (by simp)
      ·rw [zD c5] at H
       have c5b0 := zG c5
       clear c5
       obtain rfl := zI H
       go_wp2
       go_ret
       exact ⟨by first | rfl | (simp; done) | (simp [*]; done), qD⟩

def cubbyref13_in.f (a0 : Int) (a1 : Int) : Option (Bool) := if a0 ≥ 0 then (some (decide (a0 < a1))) else (some false)
set_option maxHeartbeats 8000000 in
set_option maxRecDepth 100000 in
theorem cubbyref13_in.calls (a0 : Int) (a1 : Int) (r : Bool) (w : World) (h : cubbyref13_in.f a0 a1 = some r) :
 Calls Tryd.prog 18 #[.int .i64 a0, .int .i64 a1] w fun e w' => e = .returned (.bool r) ∧ Drawn0 w w' := by
 have H := h; clear h; unfold cubbyref13_in.f at H
 by_cases c3 : a0 ≥ 0
 ·rw [zC c3] at H
  have c3b0 : decide (0 ≤ a0) = true := zF c3
  clear c3
  obtain rfl := zI H
  go_enter Tryd.func18, Tryd.ntmps18
  go_wp2
  go_ret
  exact ⟨by first | rfl | (simp; done) | (simp [*]; done), qD⟩
 ·rw [zD c3] at H
  have c3b0 : decide (0 ≤ a0) = false := zG c3
  clear c3
  obtain rfl := zI H
  go_enter Tryd.func18, Tryd.ntmps18
  go_wp2
  go_ret
  exact ⟨by first | rfl | (simp; done) | (simp [*]; done), qD⟩

def cubbyref07_Def.f (a0_0 : Int) (a0_1 : Int) (a0_2 : Int) (a0_3 : Int) (a0_4 : ByteArray) (l0_5 : List Int) : Option (Int) := if a0_0 = 1 then (some a0_1) else (if a0_0 = 2 then (some a0_1) else (if a0_0 = 8 then (some a0_1) else (if a0_0 = 3 then (some a0_1) else (if a0_0 = 4 then (some a0_1) else (if a0_0 = 5 then (some a0_1) else (if a0_0 = 6 then (some a0_1) else (if a0_0 = 7 then (some a0_1) else (if a0_0 = 11 then (some a0_1) else (some (-1))))))))))
set_option maxHeartbeats 8000000 in
set_option maxRecDepth 100000 in
theorem cubbyref07_Def.calls (a0_0 : Int) (a0_1 : Int) (a0_2 : Int) (a0_3 : Int) (a0_4 : ByteArray) (A0_5 : Option Addr) (c0_5 : Nat) (l0_5 : List Int) (r : Int) (w : World) (hr0_5 : Kd.C (Kd.int .i64) w A0_5 l0_5.length l0_5) (hc0_5 : l0_5.length ≤ c0_5) (h : cubbyref07_Def.f a0_0 a0_1 a0_2 a0_3 a0_4 l0_5 = some r) :
 Calls Tryd.prog 28 #[.agg #[.int .i64 a0_0, .int .i64 a0_1, .int .i64 a0_2, .int .i64 a0_3, .string a0_4, .slice A0_5 l0_5.length c0_5]] w fun e w' => e = .returned (.int .i64 r) ∧ Below w.heap.size w w' := by
 have hu31 := Tryd.underlying31
 have HR0_5 := zA hr0_5
 have HC0_5 := zA hc0_5
 clear hr0_5 hc0_5
 have HB := zA (Below.refl w.heap.size w)
 have H := h; clear h; unfold cubbyref07_Def.f at H
 by_cases c2 : a0_0 = 1
 ·rw [zC c2] at H
  obtain ⟨c2b0, c2b1⟩ := qe c2; clear c2
  obtain rfl := zI H
  go_enter Tryd.func28, Tryd.ntmps28
  go_wp2_with (first | ((with_reducible refine gate_dst (N := 1) rfl ?_); refine box_event (by rfl) (N := 1) (by rfl) (cs := #[.int .i64 a0_0, .int .i64 a0_1, .int .i64 a0_2, .int .i64 a0_3, .string a0_4, .slice A0_5 l0_5.length c0_5]) (t := 31) ?hr ?_; (case hr => go_simp <;> rfl); intro gb144 hg w3 hbox hb; have BK144 := zA (hbox); have GW144 := qG hg; have GE144 := GW144; replace HB := qH hb; clear hb hbox hg; have z4_0 := bk6 BK144.out))
  go_ret
  exact ⟨qE, qB⟩
 ·rw [zD c2] at H
  obtain ⟨c2b0, c2b1⟩ := qn c2
  by_cases c5 : a0_0 = 2
  ·rw [zC c5] at H
   obtain ⟨c5b0, c5b1⟩ := qe c5; clear c5
   obtain rfl := zI H
   go_enter Tryd.func28, Tryd.ntmps28
   go_wp2_with (first | ((with_reducible refine gate_dst (N := 1) rfl ?_); refine box_event (by rfl) (N := 1) (by rfl) (cs := #[.int .i64 a0_0, .int .i64 a0_1, .int .i64 a0_2, .int .i64 a0_3, .string a0_4, .slice A0_5 l0_5.length c0_5]) (t := 31) ?hr ?_; (case hr => go_simp <;> rfl); intro gb144 hg w6 hbox hb; have BK144 := zA (hbox); have GW144 := qG hg; have GE144 := GW144; replace HB := qH hb; clear hb hbox hg; have z7_0 := bk6 BK144.out))
   go_ret
   exact ⟨qE, qB⟩
  ·rw [zD c5] at H
   obtain ⟨c5b0, c5b1⟩ := qn c5
   by_cases c8 : a0_0 = 8
   ·rw [zC c8] at H
    obtain ⟨c8b0, c8b1⟩ := qe c8; clear c8
    obtain rfl := zI H
    go_enter Tryd.func28, Tryd.ntmps28
    go_wp2_with (first | ((with_reducible refine gate_dst (N := 1) rfl ?_); refine box_event (by rfl) (N := 1) (by rfl) (cs := #[.int .i64 a0_0, .int .i64 a0_1, .int .i64 a0_2, .int .i64 a0_3, .string a0_4, .slice A0_5 l0_5.length c0_5]) (t := 31) ?hr ?_; (case hr => go_simp <;> rfl); intro gb144 hg w9 hbox hb; have BK144 := zA (hbox); have GW144 := qG hg; have GE144 := GW144; replace HB := qH hb; clear hb hbox hg; have z10_0 := bk6 BK144.out))
    go_ret
    exact ⟨qE, qB⟩
   ·rw [zD c8] at H
    obtain ⟨c8b0, c8b1⟩ := qn c8
    by_cases c11 : a0_0 = 3
    ·rw [zC c11] at H
     obtain ⟨c11b0, c11b1⟩ := qe c11; clear c11
     obtain rfl := zI H
     go_enter Tryd.func28, Tryd.ntmps28
     go_wp2_with (first | ((with_reducible refine gate_dst (N := 1) rfl ?_); refine box_event (by rfl) (N := 1) (by rfl) (cs := #[.int .i64 a0_0, .int .i64 a0_1, .int .i64 a0_2, .int .i64 a0_3, .string a0_4, .slice A0_5 l0_5.length c0_5]) (t := 31) ?hr ?_; (case hr => go_simp <;> rfl); intro gb144 hg w12 hbox hb; have BK144 := zA (hbox); have GW144 := qG hg; have GE144 := GW144; replace HB := qH hb; clear hb hbox hg; have z13_0 := bk6 BK144.out))
     go_ret
     exact ⟨qE, qB⟩
    ·rw [zD c11] at H
     obtain ⟨c11b0, c11b1⟩ := qn c11
     by_cases c14 : a0_0 = 4
     ·rw [zC c14] at H
      obtain ⟨c14b0, c14b1⟩ := qe c14; clear c14
      obtain rfl := zI H
      go_enter Tryd.func28, Tryd.ntmps28
      go_wp2_with (first | ((with_reducible refine gate_dst (N := 1) rfl ?_); refine box_event (by rfl) (N := 1) (by rfl) (cs := #[.int .i64 a0_0, .int .i64 a0_1, .int .i64 a0_2, .int .i64 a0_3, .string a0_4, .slice A0_5 l0_5.length c0_5]) (t := 31) ?hr ?_; (case hr => go_simp <;> rfl); intro gb144 hg w15 hbox hb; have BK144 := zA (hbox); have GW144 := qG hg; have GE144 := GW144; replace HB := qH hb; clear hb hbox hg; have z16_0 := bk6 BK144.out))
      go_ret
      exact ⟨qE, qB⟩
     ·rw [zD c14] at H
      obtain ⟨c14b0, c14b1⟩ := qn c14
      by_cases c17 : a0_0 = 5
      ·rw [zC c17] at H
       obtain ⟨c17b0, c17b1⟩ := qe c17; clear c17
       obtain rfl := zI H
       go_enter Tryd.func28, Tryd.ntmps28
       go_wp2_with (first | ((with_reducible refine gate_dst (N := 1) rfl ?_); refine box_event (by rfl) (N := 1) (by rfl) (cs := #[.int .i64 a0_0, .int .i64 a0_1, .int .i64 a0_2, .int .i64 a0_3, .string a0_4, .slice A0_5 l0_5.length c0_5]) (t := 31) ?hr ?_; (case hr => go_simp <;> rfl); intro gb144 hg w18 hbox hb; have BK144 := zA (hbox); have GW144 := qG hg; have GE144 := GW144; replace HB := qH hb; clear hb hbox hg; have z19_0 := bk6 BK144.out))
       go_ret
       exact ⟨qE, qB⟩
      ·rw [zD c17] at H
       obtain ⟨c17b0, c17b1⟩ := qn c17
       by_cases c20 : a0_0 = 6
       ·rw [zC c20] at H
        obtain ⟨c20b0, c20b1⟩ := qe c20; clear c20
        obtain rfl := zI H
        go_enter Tryd.func28, Tryd.ntmps28
        go_wp2_with (first | ((with_reducible refine gate_dst (N := 1) rfl ?_); refine box_event (by rfl) (N := 1) (by rfl) (cs := #[.int .i64 a0_0, .int .i64 a0_1, .int .i64 a0_2, .int .i64 a0_3, .string a0_4, .slice A0_5 l0_5.length c0_5]) (t := 31) ?hr ?_; (case hr => go_simp <;> rfl); intro gb144 hg w21 hbox hb; have BK144 := zA (hbox); have GW144 := qG hg; have GE144 := GW144; replace HB := qH hb; clear hb hbox hg; have z22_0 := bk6 BK144.out))
        go_ret
        exact ⟨qE, qB⟩
       ·rw [zD c20] at H
        obtain ⟨c20b0, c20b1⟩ := qn c20
        by_cases c23 : a0_0 = 7
        ·rw [zC c23] at H
         obtain ⟨c23b0, c23b1⟩ := qe c23; clear c23
         obtain rfl := zI H
         go_enter Tryd.func28, Tryd.ntmps28
         go_wp2_with (first | ((with_reducible refine gate_dst (N := 1) rfl ?_); refine box_event (by rfl) (N := 1) (by rfl) (cs := #[.int .i64 a0_0, .int .i64 a0_1, .int .i64 a0_2, .int .i64 a0_3, .string a0_4, .slice A0_5 l0_5.length c0_5]) (t := 31) ?hr ?_; (case hr => go_simp <;> rfl); intro gb144 hg w24 hbox hb; have BK144 := zA (hbox); have GW144 := qG hg; have GE144 := GW144; replace HB := qH hb; clear hb hbox hg; have z25_0 := bk6 BK144.out))
         go_ret
         exact ⟨qE, qB⟩
        ·rw [zD c23] at H
         obtain ⟨c23b0, c23b1⟩ := qn c23
         by_cases c26 : a0_0 = 11
         ·rw [zC c26] at H
          obtain ⟨c26b0, c26b1⟩ := qe c26; clear c26
          obtain rfl := zI H
          go_enter Tryd.func28, Tryd.ntmps28
          go_wp2_with (first | ((with_reducible refine gate_dst (N := 1) rfl ?_); refine box_event (by rfl) (N := 1) (by rfl) (cs := #[.int .i64 a0_0, .int .i64 a0_1, .int .i64 a0_2, .int .i64 a0_3, .string a0_4, .slice A0_5 l0_5.length c0_5]) (t := 31) ?hr ?_; (case hr => go_simp <;> rfl); intro gb144 hg w27 hbox hb; have BK144 := zA (hbox); have GW144 := qG hg; have GE144 := GW144; replace HB := qH hb; clear hb hbox hg; have z28_0 := bk6 BK144.out))
          go_ret
          exact ⟨qE, qB⟩
         ·rw [zD c26] at H
          obtain ⟨c26b0, c26b1⟩ := qn c26
          obtain rfl := zI H
          go_enter Tryd.func28, Tryd.ntmps28
          go_wp2_with (first | ((with_reducible refine gate_dst (N := 1) rfl ?_); refine box_event (by rfl) (N := 1) (by rfl) (cs := #[.int .i64 a0_0, .int .i64 a0_1, .int .i64 a0_2, .int .i64 a0_3, .string a0_4, .slice A0_5 l0_5.length c0_5]) (t := 31) ?hr ?_; (case hr => go_simp <;> rfl); intro gb144 hg w29 hbox hb; have BK144 := zA (hbox); have GW144 := qG hg; have GE144 := GW144; replace HB := qH hb; clear hb hbox hg; have z30_0 := bk6 BK144.out))
          go_ret
          exact ⟨qE, qB⟩

def cubbyref07_Last.f (a0 : Int) : Option (Bool) := if a0 = 12 then (some true) else (if a0 = 13 then (some true) else (some (a0 == 14)))
set_option maxHeartbeats 8000000 in
set_option maxRecDepth 100000 in
theorem cubbyref07_Last.calls (a0 : Int) (r : Bool) (w : World) (h : cubbyref07_Last.f a0 = some r) :
 Calls Tryd.prog 26 #[.int .i64 a0] w fun e w' => e = .returned (.bool r) ∧ Drawn0 w w' := by
 have H := h; clear h; unfold cubbyref07_Last.f at H
 by_cases c2 : a0 = 12
 ·rw [zC c2] at H
  obtain ⟨c2b0, c2b1⟩ := qe c2; clear c2
  obtain rfl := zI H
  go_enter Tryd.func26, Tryd.ntmps26
  go_wp2
  go_ret
  exact ⟨by first | rfl | (simp; done) | (simp [*]; done), qD⟩
 ·rw [zD c2] at H
  obtain ⟨c2b0, c2b1⟩ := qn c2
  by_cases c3 : a0 = 13
  ·rw [zC c3] at H
   obtain ⟨c3b0, c3b1⟩ := qe c3; clear c3
   obtain rfl := zI H
   go_enter Tryd.func26, Tryd.ntmps26
   go_wp2
   go_ret
   exact ⟨by first | rfl | (simp; done) | (simp [*]; done), qD⟩
  ·rw [zD c3] at H
   obtain ⟨c3b0, c3b1⟩ := qn c3
   obtain rfl := zI H
   go_enter Tryd.func26, Tryd.ntmps26
   go_wp2
   go_ret
   exact ⟨by first | rfl | (simp; done) | (simp [*]; done), qD⟩
end Go.Proofs.YthidcafbhjahdaaDoor.Q
