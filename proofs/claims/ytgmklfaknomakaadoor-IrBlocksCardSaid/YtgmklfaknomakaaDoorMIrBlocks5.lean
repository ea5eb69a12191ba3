/- IrBlocks: its parts, put together. -/
import Derived.OpenShut
import Derived.Test.YtgmklfaknomakaaDoorMIrBlocks1
import Derived.Test.YtgmklfaknomakaaDoorMIrBlocks2
import Derived.Test.YtgmklfaknomakaaDoorMIrBlocks3
import Derived.Test.YtgmklfaknomakaaDoorMIrBlocks4
namespace Go.Proofs.YtgmklfaknomakaaDoor.Q
open Go.RowKit Go.Proofs.YtgmklfaknomakaaDoorW.PrintWords Go.Proofs.YtgmklfaknomakaaDoorW.PrintLast Go.Proofs.YtgmklfaknomakaaDoorW.PrintMore
attribute [local go_sem] max2_int min2_int max_two min_two max_three min_three max_four min_four   -- for this text's walks alone
set_option linter.unusedVariables false
set_option linter.unusedSimpArgs false

/-! ### cubbylaw07_IrBlocks: function 8 -/
mutual
def cubbylaw07_IrBlocks.j0 : Nat → Int → Int → Bool → ByteArray → Int → Int → List (List (SIns)) → Option (Bool)
 | 0, _, _, _, _, _, _, _ => none
 | k + 1, x1, x2, x22, x316000, x316001, x316002, x316003 => if x22 = true then (some true) else ((ir_Check.f k x316000 x316001 x316002 x316003).bind fun t317 => ((cubbyref07_Check.f k x316000 x316001 x316002 x316003).bind fun t318 => (if t317 = t318 then (if t317 = 0 then (if (x316003.length : Int) = 0 then (none) else (if 0 ≤ (Int.tmod (wrap64 (x1)) (x316003.length : Int)) then (if (Int.tmod (wrap64 (x1)) (x316003.length : Int)) < (x316003.length : Int) then (if ((rd_LIns x316003 (Int.tmod (wrap64 (x1)) (x316003.length : Int))).length : Int) = 0 then (none) else (if 0 ≤ (Int.tmod (wrap64 (x2)) ((rd_LIns x316003 (Int.tmod (wrap64 (x1)) (x316003.length : Int))).length : Int)) then (if (Int.tmod (wrap64 (x2)) ((rd_LIns x316003 (Int.tmod (wrap64 (x1)) (x316003.length : Int))).length : Int)) < ((rd_LIns x316003 (Int.tmod (wrap64 (x1)) (x316003.length : Int))).length : Int) then ((ir_Last.f ((rd_TIns (rd_LIns x316003 (Int.tmod (wrap64 (x1)) (x316003.length : Int))) (Int.tmod (wrap64 (x2)) ((rd_LIns x316003 (Int.tmod (wrap64 (x1)) (x316003.length : Int))).length : Int))).f0)).bind fun t321 => (if (t321 != ((Int.tmod (wrap64 (x2)) ((rd_LIns x316003 (Int.tmod (wrap64 (x1)) (x316003.length : Int))).length : Int)) == (wrap64 (((rd_LIns x316003 (Int.tmod (wrap64 (x1)) (x316003.length : Int))).length : Int) - 1)))) = true then (some false) else ((ir_Targets.f ((rd_TIns (rd_LIns x316003 (Int.tmod (wrap64 (x1)) (x316003.length : Int))) (Int.tmod (wrap64 (x2)) ((rd_LIns x316003 (Int.tmod (wrap64 (x1)) (x316003.length : Int))).length : Int))).f0) ((rd_TIns (rd_LIns x316003 (Int.tmod (wrap64 (x1)) (x316003.length : Int))) (Int.tmod (wrap64 (x2)) ((rd_LIns x316003 (Int.tmod (wrap64 (x1)) (x316003.length : Int))).length : Int))).f1) ((rd_TIns (rd_LIns x316003 (Int.tmod (wrap64 (x1)) (x316003.length : Int))) (Int.tmod (wrap64 (x2)) ((rd_LIns x316003 (Int.tmod (wrap64 (x1)) (x316003.length : Int))).length : Int))).f2) ((rd_TIns (rd_LIns x316003 (Int.tmod (wrap64 (x1)) (x316003.length : Int))) (Int.tmod (wrap64 (x2)) ((rd_LIns x316003 (Int.tmod (wrap64 (x1)) (x316003.length : Int))).length : Int))).f3) ((rd_TIns (rd_LIns x316003 (Int.tmod (wrap64 (x1)) (x316003.length : Int))) (Int.tmod (wrap64 (x2)) ((rd_LIns x316003 (Int.tmod (wrap64 (x1)) (x316003.length : Int))).length : Int))).f4) ((rd_TIns (rd_LIns x316003 (Int.tmod (wrap64 (x1)) (x316003.length : Int))) (Int.tmod (wrap64 (x2)) ((rd_LIns x316003 (Int.tmod (wrap64 (x1)) (x316003.length : Int))).length : Int))).f5)).bind fun t323 => (cubbylaw07_IrBlocks.l0 k (rd_LIns x316003 (Int.tmod (wrap64 (x1)) (x316003.length : Int))) (Int.tmod (wrap64 (x2)) ((rd_LIns x316003 (Int.tmod (wrap64 (x1)) (x316003.length : Int))).length : Int)) t323 0 x316000 x316001 x316002 x316003)))) else (none)) else (none))) else (none)) else (none))) else (some true)) else (some false))))
def cubbylaw07_IrBlocks.l0 : Nat → List (SIns) → Int → List Int → Int → ByteArray → Int → Int → List (List (SIns)) → Option (Bool)
 | 0, _, _, _, _, _, _, _, _ => none
 | k + 1, x8, x9, x10, x11, x316000, x316001, x316002, x316003 => if x11 < (x10.length : Int) then (if 0 ≤ x11 then (if (rd x10 x11) < 0 then (some false) else (if (rd x10 x11) ≥ (x316003.length : Int) then (some false) else (cubbylaw07_IrBlocks.l0 k x8 x9 x10 (wrap64 (x11 + 1)) x316000 x316001 x316002 x316003))) else (none)) else (if 0 ≤ x9 then (if x9 < (x8.length : Int) then ((ir_Uses.f k ((rd_TIns x8 x9).f0) ((rd_TIns x8 x9).f1) ((rd_TIns x8 x9).f2) ((rd_TIns x8 x9).f3) ((rd_TIns x8 x9).f4) ((rd_TIns x8 x9).f5)).bind fun t329 => (cubbylaw07_IrBlocks.l1 k x8 x9 x10 t329 0 x316000 x316001 x316002 x316003)) else (none)) else (none))
def cubbylaw07_IrBlocks.l1 : Nat → List (SIns) → Int → List Int → List Int → Int → ByteArray → Int → Int → List (List (SIns)) → Option (Bool)
 | 0, _, _, _, _, _, _, _, _, _ => none
 | k + 1, x8, x9, x10, x12, x13, x316000, x316001, x316002, x316003 => if x13 < (x12.length : Int) then (if 0 ≤ x13 then (if (rd x12 x13) < 0 then (some false) else (if (rd x12 x13) ≥ x316002 then (some false) else (cubbylaw07_IrBlocks.l1 k x8 x9 x10 x12 (wrap64 (x13 + 1)) x316000 x316001 x316002 x316003))) else (none)) else (if 0 ≤ x9 then (if x9 < (x8.length : Int) then ((ir_Def.f ((rd_TIns x8 x9).f0) ((rd_TIns x8 x9).f1) ((rd_TIns x8 x9).f2) ((rd_TIns x8 x9).f3) ((rd_TIns x8 x9).f4) ((rd_TIns x8 x9).f5)).bind fun t335 => (if t335 < x316002 then (if (x10.length : Int) > 0 then (some true) else (if x9 < (wrap64 ((x8.length : Int) - 1)) then (some true) else (some (((rd_TIns x8 x9).f0) == 14)))) else (some false))) else (none)) else (none))
end
def cubbylaw07_IrBlocks.f (k : Nat) (a0_0 : ByteArray) (a0_1 : Int) (a0_2 : Int) (l0_3 : List (List (SIns))) (a1 : Int) (a2 : Int) : Option (Bool) := (cubbylaw07_heavy.f k l0_3).bind fun t316 => (if t316 = true then (cubbylaw07_IrBlocks.j0 k a1 a2 true a0_0 a0_1 a0_2 l0_3) else (cubbylaw07_IrBlocks.j0 k a1 a2 (decide ((a0_0.size : Int) > 1024)) a0_0 a0_1 a0_2 l0_3))
theorem cubbylaw07_IrBlocks.mono_l : ∀ k, (∀ y0 y1 y2 y3 y4 y5 y6, LeO (cubbylaw07_IrBlocks.j0 k y0 y1 y2 y3 y4 y5 y6) (cubbylaw07_IrBlocks.j0 (k + 1) y0 y1 y2 y3 y4 y5 y6)) ∧ (∀ y0 y1 y2 y3 y4 y5 y6 y7, LeO (cubbylaw07_IrBlocks.l0 k y0 y1 y2 y3 y4 y5 y6 y7) (cubbylaw07_IrBlocks.l0 (k + 1) y0 y1 y2 y3 y4 y5 y6 y7)) ∧ (∀ y0 y1 y2 y3 y4 y5 y6 y7 y8, LeO (cubbylaw07_IrBlocks.l1 k y0 y1 y2 y3 y4 y5 y6 y7 y8) (cubbylaw07_IrBlocks.l1 (k + 1) y0 y1 y2 y3 y4 y5 y6 y7 y8))
 | 0 => ⟨fun _ _ _ _ _ _ _ r h => by simp [cubbylaw07_IrBlocks.j0] at h, fun _ _ _ _ _ _ _ _ r h => by simp [cubbylaw07_IrBlocks.l0] at h, fun _ _ _ _ _ _ _ _ _ r h => by simp [cubbylaw07_IrBlocks.l1] at h⟩
 | k + 1 => by
  obtain ⟨ih0, ih1, ih2⟩ := cubbylaw07_IrBlocks.mono_l k
  refine ⟨?_, ?_, ?_⟩
  ·intro y0 y1 y2 y3 y4 y5 y6
   unfold cubbylaw07_IrBlocks.j0
   repeat' first
   | (with_reducible exact ih0 _ _ _ _ _ _ _)
   | (with_reducible exact ih1 _ _ _ _ _ _ _ _)
   | (with_reducible exact ih2 _ _ _ _ _ _ _ _ _)
   | (with_reducible exact cubbylaw07_heavy.mono _ _)
   | (with_reducible exact cubbyref07_Check.mono _ _ _ _ _)
   | (with_reducible exact ir_Check.mono _ _ _ _ _)
   | (with_reducible exact ir_Uses.mono _ _ _ _ _ _ _)
   | (with_reducible exact LeO.refl _)
   | (with_reducible exact LeO.none _)
   | (with_reducible refine LeO.ite ?_ ?_)
   | (with_reducible refine LeO.bind ?_ (fun _ => ?_))
   | exact ih0 _ _ _ _ _ _ _
   | exact ih1 _ _ _ _ _ _ _ _
   | exact ih2 _ _ _ _ _ _ _ _ _
   | exact cubbylaw07_heavy.mono _ _
   | exact cubbyref07_Check.mono _ _ _ _ _
   | exact ir_Check.mono _ _ _ _ _
   | exact ir_Uses.mono _ _ _ _ _ _ _
   | exact LeO.none _
   | refine LeO.ite ?_ ?_
   | refine LeO.bind ?_ (fun _ => ?_)
  ·intro y0 y1 y2 y3 y4 y5 y6 y7
   unfold cubbylaw07_IrBlocks.l0
   repeat' first
   | (with_reducible exact ih0 _ _ _ _ _ _ _)
   | (with_reducible exact ih1 _ _ _ _ _ _ _ _)
   | (with_reducible exact ih2 _ _ _ _ _ _ _ _ _)
   | (with_reducible exact cubbylaw07_heavy.mono _ _)
   | (with_reducible exact cubbyref07_Check.mono _ _ _ _ _)
   | (with_reducible exact ir_Check.mono _ _ _ _ _)
   | (with_reducible exact ir_Uses.mono _ _ _ _ _ _ _)
   | (with_reducible exact LeO.refl _)
   | (with_reducible exact LeO.none _)
   | (with_reducible refine LeO.ite ?_ ?_)
   | (with_reducible refine LeO.bind ?_ (fun _ => ?_))
   | exact ih0 _ _ _ _ _ _ _
   | exact ih1 _ _ _ _ _ _ _ _
   | exact ih2 _ _ _ _ _ _ _ _ _
   | exact cubbylaw07_heavy.mono _ _
   | exact cubbyref07_Check.mono _ _ _ _ _
   | exact ir_Check.mono _ _ _ _ _
   | exact ir_Uses.mono _ _ _ _ _ _ _
   | exact LeO.none _
   | refine LeO.ite ?_ ?_
   | refine LeO.bind ?_ (fun _ => ?_)
  ·intro y0 y1 y2 y3 y4 y5 y6 y7 y8
   unfold cubbylaw07_IrBlocks.l1
   repeat' first
   | (with_reducible exact ih0 _ _ _ _ _ _ _)
   | (with_reducible exact ih1 _ _ _ _ _ _ _ _)
   | (with_reducible exact ih2 _ _ _ _ _ _ _ _ _)
   | (with_reducible exact cubbylaw07_heavy.mono _ _)
   | (with_reducible exact cubbyref07_Check.mono _ _ _ _ _)
   | (with_reducible exact ir_Check.mono _ _ _ _ _)
   | (with_reducible exact ir_Uses.mono _ _ _ _ _ _ _)
   | (with_reducible exact LeO.refl _)
   | (with_reducible exact LeO.none _)
   | (with_reducible refine LeO.ite ?_ ?_)
   | (with_reducible refine LeO.bind ?_ (fun _ => ?_))
   | exact ih0 _ _ _ _ _ _ _
   | exact ih1 _ _ _ _ _ _ _ _
   | exact ih2 _ _ _ _ _ _ _ _ _
   | exact cubbylaw07_heavy.mono _ _
   | exact cubbyref07_Check.mono _ _ _ _ _
   | exact ir_Check.mono _ _ _ _ _
   | exact ir_Uses.mono _ _ _ _ _ _ _
   | exact LeO.none _
   | refine LeO.ite ?_ ?_
   | refine LeO.bind ?_ (fun _ => ?_)
theorem cubbylaw07_IrBlocks.mono : ∀ a0 a1 a2 a3 a4 a5 k, LeO (cubbylaw07_IrBlocks.f k a0 a1 a2 a3 a4 a5) (cubbylaw07_IrBlocks.f (k + 1) a0 a1 a2 a3 a4 a5) := by
 intro a0 a1 a2 a3 a4 a5 k
 obtain ⟨ih0, ih1, ih2⟩ := cubbylaw07_IrBlocks.mono_l k
 unfold cubbylaw07_IrBlocks.f
 repeat' first
   | (with_reducible exact ih0 _ _ _ _ _ _ _)
   | (with_reducible exact ih1 _ _ _ _ _ _ _ _)
   | (with_reducible exact ih2 _ _ _ _ _ _ _ _ _)
   | (with_reducible exact cubbylaw07_heavy.mono _ _)
   | (with_reducible exact cubbyref07_Check.mono _ _ _ _ _)
   | (with_reducible exact ir_Check.mono _ _ _ _ _)
   | (with_reducible exact ir_Uses.mono _ _ _ _ _ _ _)
   | (with_reducible exact LeO.refl _)
   | (with_reducible exact LeO.none _)
   | (with_reducible refine LeO.ite ?_ ?_)
   | (with_reducible refine LeO.bind ?_ (fun _ => ?_))
   | exact ih0 _ _ _ _ _ _ _
   | exact ih1 _ _ _ _ _ _ _ _
   | exact ih2 _ _ _ _ _ _ _ _ _
   | exact cubbylaw07_heavy.mono _ _
   | exact cubbyref07_Check.mono _ _ _ _ _
   | exact ir_Check.mono _ _ _ _ _
   | exact ir_Uses.mono _ _ _ _ _ _ _
   | exact LeO.none _
   | refine LeO.ite ?_ ?_
   | refine LeO.bind ?_ (fun _ => ?_)
def cubbylaw07_IrBlocks.T8 : Bool × List (List Nat × List Nat) := (true, [([], []), ([0], [0]), ([], []), ([2], [2]), ([], []), ([4], [4]), ([5], [5]), ([3, 6], [3, 6]), ([1, 7], [1, 7]), ([8], [8]), ([9, 0, 1, 2, 3, 4, 5, 6, 7, 8, 9], [9])])
def cubbylaw07_IrBlocks.B8 : List Nat := [0, 1, 0, 4, 0, 16, 48, 124, 255, 511, 1023]
theorem cubbylaw07_IrBlocks.tab8 : rtab .any (opsOf Tryd.f8 8) = cubbylaw07_IrBlocks.T8 := by kernel_rfl
theorem cubbylaw07_IrBlocks.bits8 : waitsOk cubbylaw07_IrBlocks.T8.2 cubbylaw07_IrBlocks.B8 = true := by kernel_rfl
def cubbylaw07_IrBlocks.T16 : Bool × List (List Nat × List Nat) := (true, [([], []), ([], []), ([0, 1], [0, 1]), ([2], [2]), ([3], [3]), ([4], [4]), ([5], [5]), ([5], [5]), ([6, 7, 5], [5, 6, 7]), ([8, 5], [5, 8]), ([5], [5]), ([10, 5], [5, 10]), ([11, 5], [5, 11]), ([9, 12, 5], [5, 9, 12]), ([5, 13], [5, 13])])
def cubbylaw07_IrBlocks.B16 : List Nat := [0, 0, 3, 7, 15, 31, 63, 63, 255, 511, 63, 1087, 3135, 8191, 16383]
theorem cubbylaw07_IrBlocks.tab16 : rtab .any (opsOf Tryd.f8 16) = cubbylaw07_IrBlocks.T16 := by kernel_rfl
theorem cubbylaw07_IrBlocks.bits16 : waitsOk cubbylaw07_IrBlocks.T16.2 cubbylaw07_IrBlocks.B16 = true := by kernel_rfl
def cubbylaw07_IrBlocks.T22 : Bool × List (List Nat × List Nat) := (true, [([], []), ([], []), ([0, 1], [0, 1]), ([2], [2]), ([3], [3]), ([4], [4]), ([5], [5]), ([5], [5]), ([6, 7, 5], [5, 6, 7]), ([8, 5], [5, 8]), ([5], [5]), ([10, 5], [5, 10]), ([9, 11, 5], [5, 9, 11]), ([5, 12], [5, 12])])
def cubbylaw07_IrBlocks.B22 : List Nat := [0, 0, 3, 7, 15, 31, 63, 63, 255, 511, 63, 1087, 4095, 8191]
theorem cubbylaw07_IrBlocks.tab22 : rtab .any (opsOf Tryd.f8 22) = cubbylaw07_IrBlocks.T22 := by kernel_rfl
theorem cubbylaw07_IrBlocks.bits22 : waitsOk cubbylaw07_IrBlocks.T22.2 cubbylaw07_IrBlocks.B22 = true := by kernel_rfl
def cubbylaw07_IrBlocks.T24 : Bool × List (List Nat × List Nat) := (true, [([], []), ([], []), ([0, 1], [0, 1]), ([2], [2]), ([3], [3]), ([], []), ([5], [5]), ([4, 6], [4, 6]), ([7, 4], [7]), ([8], [8]), ([9, 8], [8, 9]), ([10, 8], [8, 10]), ([11, 8, 8], [8, 11]), ([12], [12]), ([12], [12]), ([14, 12], [12, 14]), ([15, 12], [12, 15]), ([13, 16, 12], [12, 13, 16]), ([12, 17, 8], [8, 12, 17]), ([18, 12, 8], [8, 18]), ([19], [19]), ([19], [19]), ([20, 21, 19], [19, 20, 21]), ([22, 19], [19, 22]), ([23, 19], [19, 23]), ([24, 19], [19, 24]), ([19, 25, 8], [8, 19, 25]), ([8, 26], [8, 26]), ([27, 19, 0, 1, 2, 3, 4, 5, 6, 7, 8, 9, 10, 11, 12, 13, 14, 15, 16, 17, 18, 19, 20, 21, 22, 23, 24, 25, 26, 27], [27])])
def cubbylaw07_IrBlocks.B24 : List Nat := [0, 0, 3, 7, 15, 0, 32, 127, 255, 511, 1023, 2047, 4095, 8191, 8191, 24575, 57343, 131071, 262143, 524287, 1048575, 1048575, 4194303, 8388607, 16777215, 33554431, 67108863, 134217727, 268435455]
theorem cubbylaw07_IrBlocks.tab24 : rtab .any (opsOf Tryd.f8 24) = cubbylaw07_IrBlocks.T24 := by kernel_rfl
theorem cubbylaw07_IrBlocks.bits24 : waitsOk cubbylaw07_IrBlocks.T24.2 cubbylaw07_IrBlocks.B24 = true := by kernel_rfl
set_option maxHeartbeats 8000000 in
set_option maxRecDepth 100000 in
theorem cubbylaw07_IrBlocks.calls (k : Nat) (a0_0 : ByteArray) (a0_1 : Int) (a0_2 : Int) (A0_3 : Option Addr) (c0_3 : Nat) (l0_3 : List (List (SIns))) (a1 : Int) (a2 : Int) (r : Bool) (w : World) (hL : LaidW w) (hr : r = true) (hr0_3 : Kd.C (Kd.slice 24 kIns) w A0_3 l0_3.length l0_3) (hc0_3 : l0_3.length ≤ c0_3) (h : cubbylaw07_IrBlocks.f k a0_0 a0_1 a0_2 l0_3 a1 a2 = some r) :
  Calls Tryd.prog 8 #[.agg #[.string a0_0, .int .i64 a0_1, .int .i64 a0_2, .slice A0_3 l0_3.length c0_3], .int .u8 a1, .int .u8 a2] w fun e w' => e = .returned (.bool r) ∧ Below w.heap.size w w' := by
 have hu34 := Tryd.underlying34
 have hu24 := Tryd.underlying24
 have HR0_3 := Aside0.mk hr0_3
 have HC0_3 := Aside0.mk hc0_3
 clear hr0_3 hc0_3
 have HB := Aside0.mk (Below.refl w.heap.size w)
 have HLd := Aside0.mk hL
 clear hL
 have HRt := Aside0.mk hr
 clear hr
 have H : ((cubbylaw07_heavy.f k l0_3).bind fun t316 => (if t316 = true then (cubbylaw07_IrBlocks.j0 k a1 a2 true a0_0 a0_1 a0_2 l0_3) else (cubbylaw07_IrBlocks.j0 k a1 a2 (decide ((a0_0.size : Int) > 1024)) a0_0 a0_1 a0_2 l0_3))) = some r := h
 clear h
 have HC4 := Aside0.mk H
 clear H
 go_enter Tryd.func8, Tryd.ntmps8
 go_upto_region 1 with (first | ((with_reducible refine gate_dst (N := 3) rfl ?_); (try (refine gate_guard (by rfl) ?_; dsimp only)); refine box_event ?hg (N := 3) ?hd (cs := #[.string a0_0, .int .i64 a0_1, .int .i64 a0_2, .slice A0_3 l0_3.length c0_3]) (t := 34) ?hr ?_; (case hd => rfl); (case hg => rfl); (case hr => first | (go_simp; done) | (go_simp; rfl)); intro gb315 hg w5 hbox hb; have n0_ := Aside0.mk (below_step (by repeat (first | (with_reducible first | exact HB.out | apply below_alloc | apply pw_below_drewN | apply below_drew1) | exact HB.out)) hb); have n1_ := Aside0.mk (hbox); have n2_ := Aside0.mk ((by rw [hg]; exact (below_size (by repeat (first | (with_reducible first | exact HB.out | apply below_alloc | apply pw_below_drewN | apply below_drew1) | exact HB.out))) : w.heap.size ≤ gb315)); have n3_ := Aside0.mk ((by rw [hg]; exact (below_size (by repeat (first | (with_reducible first | exact HB.out | apply below_alloc | apply pw_below_drewN | apply below_drew1) | exact HB.out))) : w.heap.size ≤ gb315)); clear HB; have HB := n0_; have BK315 := n1_; have GW315 := n2_; have GE315 := n3_; clear n0_ n1_ n2_ n3_; clear hb hbox hg))
 (try simp only [Act.put, List.setIfInBounds_toArray, List.set_cons_zero, List.set_cons_succ])
 go_cut [22] (fun v22 wc => ∃ (kq : Nat) (x22_3 : Bool), v22 = .bool x22_3 ∧ Aside0 (cubbylaw07_IrBlocks.j0 kq a1 a2 x22_3 a0_0 a0_1 a0_2 l0_3 = some r) ∧ Aside0 (kq ≤ k) ∧ Aside0 (wc.heap[gb315]? = some (.cells #[.string a0_0, .int .i64 a0_1, .int .i64 a0_2, (.slice A0_3 l0_3.length c0_3)] 34 (0, 0))) ∧ Aside0 (Below w.heap.size w wc))
 case first =>
  have H := HC4.out
  clear HC4
  replace H := Option.bind_eq_some_iff.mp H
  obtain ⟨t316, A60, H⟩ := H
  replace H : (if t316 = true then (cubbylaw07_IrBlocks.j0 k a1 a2 true a0_0 a0_1 a0_2 l0_3) else (cubbylaw07_IrBlocks.j0 k a1 a2 (decide ((a0_0.size : Int) > 1024)) a0_0 a0_1 a0_2 l0_3)) = some r := H
  have A6 := Aside0.mk A60
  clear A60
  by_cases c7 : t316 = true
  ·subst c7
   have H1 : (cubbylaw07_IrBlocks.j0 k a1 a2 true a0_0 a0_1 a0_2 l0_3) = some r := by rw [if_pos rfl] at H; exact H
   clear H
   have H := H1
   clear H1
   have H' := Aside0.mk H
   clear H
   have hcz8_0 : w5.cell? ⟨gb315, 0, none⟩ = some (.string a0_0) := (blk_cell BK315.out 0).trans rfl
   have hcz8_1 : w5.cell? ⟨gb315, 1, none⟩ = some (.int .i64 a0_1) := (blk_cell BK315.out 1).trans rfl
   have hcz8_2 : w5.cell? ⟨gb315, 2, none⟩ = some (.int .i64 a0_2) := (blk_cell BK315.out 2).trans rfl
   have hcz8_3 : w5.cell? ⟨gb315, 3, none⟩ = some (.slice A0_3 l0_3.length c0_3) := (blk_cell BK315.out 3).trans rfl
   have hfz8_0 := blk_frozen BK315.out 0
   have hfz8_1 := blk_frozen BK315.out 1
   have hfz8_2 := blk_frozen BK315.out 2
   have hfz8_3 := blk_frozen BK315.out 3
   go_wp2_with (first | ((with_reducible refine gate_callee (f := 27) rfl ?_); refine goesL_ (some 16) rfl rfl Tryd.func27 (by kernel_rfl) rfl #[.slice A0_3 l0_3.length c0_3] rfl (by (try simp only [List.map_toArray, List.map_cons, List.map_nil]); first | done | rfl | (simp only [List.length_drop, List.length_take]; rfl)) ?_; (with_reducible refine (cubbylaw07_heavy.calls k _ _ l0_3 true _ ?side1 ?side2 A6.out).mono ?_); (case side1 => repeat (first | exact (Kd.C_below HR0_3.out HB.out) | (with_reducible refine Kd.C_alloc ?_ _) | (with_reducible refine Kd.C_drewN ?_ _) | (with_reducible refine Kd.C_drew ?_))); (case side2 => exact HC0_3.out); rintro e w9 ⟨rfl, hb⟩; refine ⟨_, rfl, ?_⟩; have n0_ := Aside0.mk (blk_below (g := gb315) (o := .cells #[.string a0_0, .int .i64 a0_1, .int .i64 a0_2, .slice A0_3 l0_3.length c0_3] 34 (0, 0)) (by (with_reducible repeat (first | refine blk_drewN ?_ _ | refine blk_drew ?_ | refine blk_alloc ?_ _)); exact BK315.out) hb); have n1_ := Aside0.mk (below_step (by repeat (first | (with_reducible first | exact HB.out | apply below_alloc | apply pw_below_drewN | apply below_drew1 | refine below_set ?_ GE315.out) | exact HB.out)) hb); clear BK315; clear HB; have BK315 := n0_; have HB := n1_; clear n0_ n1_; (try clear hb); (try clear hb2); (try clear hk); (try clear hi)))
   go_meet
   case rel => exact ⟨_, (true), (by first | rfl | (simp; done) | (simp [*]; done)), H', ⟨by first | omega | exact Nat.le_refl _⟩, ⟨by (with_reducible repeat (first | refine blk_drewN ?_ _ | refine blk_drew ?_ | refine blk_alloc ?_ _)); exact BK315.out⟩, ⟨by repeat (first | (with_reducible first | exact HB.out | apply below_alloc | apply pw_below_drewN | apply below_drew1 | refine below_set ?_ GE315.out) | exact HB.out)⟩⟩
  ·replace c7 := Bool.eq_false_iff.mpr c7
   subst c7
   have H1 : (cubbylaw07_IrBlocks.j0 k a1 a2 (decide ((a0_0.size : Int) > 1024)) a0_0 a0_1 a0_2 l0_3) = some r := by rw [if_neg (show ¬ (false = true) by decide)] at H; exact H
   clear H
   have H := H1
   clear H1
   have H' := Aside0.mk H
   clear H
   have hcz10_0 : w5.cell? ⟨gb315, 0, none⟩ = some (.string a0_0) := (blk_cell BK315.out 0).trans rfl
   have hcz10_1 : w5.cell? ⟨gb315, 1, none⟩ = some (.int .i64 a0_1) := (blk_cell BK315.out 1).trans rfl
   have hcz10_2 : w5.cell? ⟨gb315, 2, none⟩ = some (.int .i64 a0_2) := (blk_cell BK315.out 2).trans rfl
   have hcz10_3 : w5.cell? ⟨gb315, 3, none⟩ = some (.slice A0_3 l0_3.length c0_3) := (blk_cell BK315.out 3).trans rfl
   have hfz10_0 := blk_frozen BK315.out 0
   have hfz10_1 := blk_frozen BK315.out 1
   have hfz10_2 := blk_frozen BK315.out 2
   have hfz10_3 := blk_frozen BK315.out 3
   go_wp2_with (first | ((with_reducible refine gate_callee (f := 27) rfl ?_); refine goesL_ (some 16) rfl rfl Tryd.func27 (by kernel_rfl) rfl #[.slice A0_3 l0_3.length c0_3] rfl (by (try simp only [List.map_toArray, List.map_cons, List.map_nil]); first | done | rfl | (simp only [List.length_drop, List.length_take]; rfl)) ?_; (with_reducible refine (cubbylaw07_heavy.calls k _ _ l0_3 false _ ?side1 ?side2 A6.out).mono ?_); (case side1 => repeat (first | exact (Kd.C_below HR0_3.out HB.out) | (with_reducible refine Kd.C_alloc ?_ _) | (with_reducible refine Kd.C_drewN ?_ _) | (with_reducible refine Kd.C_drew ?_))); (case side2 => exact HC0_3.out); rintro e w11 ⟨rfl, hb⟩; refine ⟨_, rfl, ?_⟩; have n0_ := Aside0.mk (blk_below (g := gb315) (o := .cells #[.string a0_0, .int .i64 a0_1, .int .i64 a0_2, .slice A0_3 l0_3.length c0_3] 34 (0, 0)) (by (with_reducible repeat (first | refine blk_drewN ?_ _ | refine blk_drew ?_ | refine blk_alloc ?_ _)); exact BK315.out) hb); have n1_ := Aside0.mk (below_step (by repeat (first | (with_reducible first | exact HB.out | apply below_alloc | apply pw_below_drewN | apply below_drew1 | refine below_set ?_ GE315.out) | exact HB.out)) hb); clear BK315; clear HB; have BK315 := n0_; have HB := n1_; clear n0_ n1_; (try clear hb); (try clear hb2); (try clear hk); (try clear hi); have hcz12_0 : w11.cell? ⟨gb315, 0, none⟩ = some (.string a0_0) := (blk_cell BK315.out 0).trans rfl; have hcz12_1 : w11.cell? ⟨gb315, 1, none⟩ = some (.int .i64 a0_1) := (blk_cell BK315.out 1).trans rfl; have hcz12_2 : w11.cell? ⟨gb315, 2, none⟩ = some (.int .i64 a0_2) := (blk_cell BK315.out 2).trans rfl; have hcz12_3 : w11.cell? ⟨gb315, 3, none⟩ = some (.slice A0_3 l0_3.length c0_3) := (blk_cell BK315.out 3).trans rfl; have hfz12_0 := blk_frozen BK315.out 0; have hfz12_1 := blk_frozen BK315.out 1; have hfz12_2 := blk_frozen BK315.out 2; have hfz12_3 := blk_frozen BK315.out 3))
   go_meet
   case rel => exact ⟨_, (decide ((a0_0.size : Int) > 1024)), (by first | rfl | (simp; done) | (simp [*]; done)), H', ⟨by first | omega | exact Nat.le_refl _⟩, ⟨by (with_reducible repeat (first | refine blk_drewN ?_ _ | refine blk_drew ?_ | refine blk_alloc ?_ _)); exact BK315.out⟩, ⟨by repeat (first | (with_reducible first | exact HB.out | apply below_alloc | apply pw_below_drewN | apply below_drew1 | refine below_set ?_ GE315.out) | exact HB.out)⟩⟩
 case rest =>
  clear HC4
  try clear c2
  try clear p2
  try clear c7
  try clear c8
  try clear hcz10_0
  try clear hcz10_1
  try clear hcz10_2
  try clear hcz10_3
  try clear hcz12_0
  try clear hcz12_1
  try clear hcz12_2
  try clear hcz12_3
  try clear hcz8_0
  try clear hcz8_1
  try clear hcz8_2
  try clear hcz8_3
  try clear hfz10_0
  try clear hfz10_1
  try clear hfz10_2
  try clear hfz10_3
  try clear hfz12_0
  try clear hfz12_1
  try clear hfz12_2
  try clear hfz12_3
  try clear hfz8_0
  try clear hfz8_1
  try clear hfz8_2
  try clear hfz8_3
  obtain ⟨kq, x22_3, rfl, HA, HJ3, BK315, HB⟩ := hcut
  cases kq with
  | zero => exact absurd HA.out (by simp [cubbylaw07_IrBlocks.j0])
  | succ kj3 =>
   have H := HA.out
   clear HA
   simp only [cubbylaw07_IrBlocks.j0] at H
   by_cases c13 : x22_3 = true
   ·subst c13
    have H1 : (some true) = some r := by rw [if_pos rfl] at H; exact H
    clear H
    have H := H1
    clear H1
    obtain rfl := Option.some.inj H
    go_wp2
    go_ret
    exact ⟨by first | rfl | (simp [errW_none, errW_some] <;> rfl) | (simp [*, errW_none, errW_some] <;> rfl), by repeat (first | (with_reducible first | exact HB.out | apply below_alloc | apply pw_below_drewN | apply below_drew1 | refine below_set ?_ GE315.out) | exact HB.out)⟩
   ·replace c13 := Bool.eq_false_iff.mpr c13
    subst c13
    have H1 : ((ir_Check.f kj3 a0_0 a0_1 a0_2 l0_3).bind fun t317 => ((cubbyref07_Check.f kj3 a0_0 a0_1 a0_2 l0_3).bind fun t318 => (if t317 = t318 then (if t317 = 0 then (if (l0_3.length : Int) = 0 then (none) else (if 0 ≤ (Int.tmod (wrap64 (a1)) (l0_3.length : Int)) then (if (Int.tmod (wrap64 (a1)) (l0_3.length : Int)) < (l0_3.length : Int) then (if ((rd_LIns l0_3 (Int.tmod (wrap64 (a1)) (l0_3.length : Int))).length : Int) = 0 then (none) else (if 0 ≤ (Int.tmod (wrap64 (a2)) ((rd_LIns l0_3 (Int.tmod (wrap64 (a1)) (l0_3.length : Int))).length : Int)) then (if (Int.tmod (wrap64 (a2)) ((rd_LIns l0_3 (Int.tmod (wrap64 (a1)) (l0_3.length : Int))).length : Int)) < ((rd_LIns l0_3 (Int.tmod (wrap64 (a1)) (l0_3.length : Int))).length : Int) then ((ir_Last.f ((rd_TIns (rd_LIns l0_3 (Int.tmod (wrap64 (a1)) (l0_3.length : Int))) (Int.tmod (wrap64 (a2)) ((rd_LIns l0_3 (Int.tmod (wrap64 (a1)) (l0_3.length : Int))).length : Int))).f0)).bind fun t321 => (if (t321 != ((Int.tmod (wrap64 (a2)) ((rd_LIns l0_3 (Int.tmod (wrap64 (a1)) (l0_3.length : Int))).length : Int)) == (wrap64 (((rd_LIns l0_3 (Int.tmod (wrap64 (a1)) (l0_3.length : Int))).length : Int) - 1)))) = true then (some false) else ((ir_Targets.f ((rd_TIns (rd_LIns l0_3 (Int.tmod (wrap64 (a1)) (l0_3.length : Int))) (Int.tmod (wrap64 (a2)) ((rd_LIns l0_3 (Int.tmod (wrap64 (a1)) (l0_3.length : Int))).length : Int))).f0) ((rd_TIns (rd_LIns l0_3 (Int.tmod (wrap64 (a1)) (l0_3.length : Int))) (Int.tmod (wrap64 (a2)) ((rd_LIns l0_3 (Int.tmod (wrap64 (a1)) (l0_3.length : Int))).length : Int))).f1) ((rd_TIns (rd_LIns l0_3 (Int.tmod (wrap64 (a1)) (l0_3.length : Int))) (Int.tmod (wrap64 (a2)) ((rd_LIns l0_3 (Int.tmod (wrap64 (a1)) (l0_3.length : Int))).length : Int))).f2) ((rd_TIns (rd_LIns l0_3 (Int.tmod (wrap64 (a1)) (l0_3.length : Int))) (Int.tmod (wrap64 (a2)) ((rd_LIns l0_3 (Int.tmod (wrap64 (a1)) (l0_3.length : Int))).length : Int))).f3) ((rd_TIns (rd_LIns l0_3 (Int.tmod (wrap64 (a1)) (l0_3.length : Int))) (Int.tmod (wrap64 (a2)) ((rd_LIns l0_3 (Int.tmod (wrap64 (a1)) (l0_3.length : Int))).length : Int))).f4) ((rd_TIns (rd_LIns l0_3 (Int.tmod (wrap64 (a1)) (l0_3.length : Int))) (Int.tmod (wrap64 (a2)) ((rd_LIns l0_3 (Int.tmod (wrap64 (a1)) (l0_3.length : Int))).length : Int))).f5)).bind fun t323 => (cubbylaw07_IrBlocks.l0 kj3 (rd_LIns l0_3 (Int.tmod (wrap64 (a1)) (l0_3.length : Int))) (Int.tmod (wrap64 (a2)) ((rd_LIns l0_3 (Int.tmod (wrap64 (a1)) (l0_3.length : Int))).length : Int)) t323 0 a0_0 a0_1 a0_2 l0_3)))) else (none)) else (none))) else (none)) else (none))) else (some true)) else (some false)))) = some r := by rw [if_neg (show ¬ (false = true) by decide)] at H; exact H
    clear H
    have H := H1
    clear H1
    replace H := Option.bind_eq_some_iff.mp H
    obtain ⟨t317, A140, H⟩ := H
    replace H : ((cubbyref07_Check.f kj3 a0_0 a0_1 a0_2 l0_3).bind fun t318 => (if t317 = t318 then (if t317 = 0 then (if (l0_3.length : Int) = 0 then (none) else (if 0 ≤ (Int.tmod (wrap64 (a1)) (l0_3.length : Int)) then (if (Int.tmod (wrap64 (a1)) (l0_3.length : Int)) < (l0_3.length : Int) then (if ((rd_LIns l0_3 (Int.tmod (wrap64 (a1)) (l0_3.length : Int))).length : Int) = 0 then (none) else (if 0 ≤ (Int.tmod (wrap64 (a2)) ((rd_LIns l0_3 (Int.tmod (wrap64 (a1)) (l0_3.length : Int))).length : Int)) then (if (Int.tmod (wrap64 (a2)) ((rd_LIns l0_3 (Int.tmod (wrap64 (a1)) (l0_3.length : Int))).length : Int)) < ((rd_LIns l0_3 (Int.tmod (wrap64 (a1)) (l0_3.length : Int))).length : Int) then ((ir_Last.f ((rd_TIns (rd_LIns l0_3 (Int.tmod (wrap64 (a1)) (l0_3.length : Int))) (Int.tmod (wrap64 (a2)) ((rd_LIns l0_3 (Int.tmod (wrap64 (a1)) (l0_3.length : Int))).length : Int))).f0)).bind fun t321 => (if (t321 != ((Int.tmod (wrap64 (a2)) ((rd_LIns l0_3 (Int.tmod (wrap64 (a1)) (l0_3.length : Int))).length : Int)) == (wrap64 (((rd_LIns l0_3 (Int.tmod (wrap64 (a1)) (l0_3.length : Int))).length : Int) - 1)))) = true then (some false) else ((ir_Targets.f ((rd_TIns (rd_LIns l0_3 (Int.tmod (wrap64 (a1)) (l0_3.length : Int))) (Int.tmod (wrap64 (a2)) ((rd_LIns l0_3 (Int.tmod (wrap64 (a1)) (l0_3.length : Int))).length : Int))).f0) ((rd_TIns (rd_LIns l0_3 (Int.tmod (wrap64 (a1)) (l0_3.length : Int))) (Int.tmod (wrap64 (a2)) ((rd_LIns l0_3 (Int.tmod (wrap64 (a1)) (l0_3.length : Int))).length : Int))).f1) ((rd_TIns (rd_LIns l0_3 (Int.tmod (wrap64 (a1)) (l0_3.length : Int))) (Int.tmod (wrap64 (a2)) ((rd_LIns l0_3 (Int.tmod (wrap64 (a1)) (l0_3.length : Int))).length : Int))).f2) ((rd_TIns (rd_LIns l0_3 (Int.tmod (wrap64 (a1)) (l0_3.length : Int))) (Int.tmod (wrap64 (a2)) ((rd_LIns l0_3 (Int.tmod (wrap64 (a1)) (l0_3.length : Int))).length : Int))).f3) ((rd_TIns (rd_LIns l0_3 (Int.tmod (wrap64 (a1)) (l0_3.length : Int))) (Int.tmod (wrap64 (a2)) ((rd_LIns l0_3 (Int.tmod (wrap64 (a1)) (l0_3.length : Int))).length : Int))).f4) ((rd_TIns (rd_LIns l0_3 (Int.tmod (wrap64 (a1)) (l0_3.length : Int))) (Int.tmod (wrap64 (a2)) ((rd_LIns l0_3 (Int.tmod (wrap64 (a1)) (l0_3.length : Int))).length : Int))).f5)).bind fun t323 => (cubbylaw07_IrBlocks.l0 kj3 (rd_LIns l0_3 (Int.tmod (wrap64 (a1)) (l0_3.length : Int))) (Int.tmod (wrap64 (a2)) ((rd_LIns l0_3 (Int.tmod (wrap64 (a1)) (l0_3.length : Int))).length : Int)) t323 0 a0_0 a0_1 a0_2 l0_3)))) else (none)) else (none))) else (none)) else (none))) else (some true)) else (some false))) = some r := H
    have A14 := Aside0.mk A140
    clear A140
    replace H := Option.bind_eq_some_iff.mp H
    obtain ⟨t318, A150, H⟩ := H
    replace H : (if t317 = t318 then (if t317 = 0 then (if (l0_3.length : Int) = 0 then (none) else (if 0 ≤ (Int.tmod (wrap64 (a1)) (l0_3.length : Int)) then (if (Int.tmod (wrap64 (a1)) (l0_3.length : Int)) < (l0_3.length : Int) then (if ((rd_LIns l0_3 (Int.tmod (wrap64 (a1)) (l0_3.length : Int))).length : Int) = 0 then (none) else (if 0 ≤ (Int.tmod (wrap64 (a2)) ((rd_LIns l0_3 (Int.tmod (wrap64 (a1)) (l0_3.length : Int))).length : Int)) then (if (Int.tmod (wrap64 (a2)) ((rd_LIns l0_3 (Int.tmod (wrap64 (a1)) (l0_3.length : Int))).length : Int)) < ((rd_LIns l0_3 (Int.tmod (wrap64 (a1)) (l0_3.length : Int))).length : Int) then ((ir_Last.f ((rd_TIns (rd_LIns l0_3 (Int.tmod (wrap64 (a1)) (l0_3.length : Int))) (Int.tmod (wrap64 (a2)) ((rd_LIns l0_3 (Int.tmod (wrap64 (a1)) (l0_3.length : Int))).length : Int))).f0)).bind fun t321 => (if (t321 != ((Int.tmod (wrap64 (a2)) ((rd_LIns l0_3 (Int.tmod (wrap64 (a1)) (l0_3.length : Int))).length : Int)) == (wrap64 (((rd_LIns l0_3 (Int.tmod (wrap64 (a1)) (l0_3.length : Int))).length : Int) - 1)))) = true then (some false) else ((ir_Targets.f ((rd_TIns (rd_LIns l0_3 (Int.tmod (wrap64 (a1)) (l0_3.length : Int))) (Int.tmod (wrap64 (a2)) ((rd_LIns l0_3 (Int.tmod (wrap64 (a1)) (l0_3.length : Int))).length : Int))).f0) ((rd_TIns (rd_LIns l0_3 (Int.tmod (wrap64 (a1)) (l0_3.length : Int))) (Int.tmod (wrap64 (a2)) ((rd_LIns l0_3 (Int.tmod (wrap64 (a1)) (l0_3.length : Int))).length : Int))).f1) ((rd_TIns (rd_LIns l0_3 (Int.tmod (wrap64 (a1)) (l0_3.length : Int))) (Int.tmod (wrap64 (a2)) ((rd_LIns l0_3 (Int.tmod (wrap64 (a1)) (l0_3.length : Int))).length : Int))).f2) ((rd_TIns (rd_LIns l0_3 (Int.tmod (wrap64 (a1)) (l0_3.length : Int))) (Int.tmod (wrap64 (a2)) ((rd_LIns l0_3 (Int.tmod (wrap64 (a1)) (l0_3.length : Int))).length : Int))).f3) ((rd_TIns (rd_LIns l0_3 (Int.tmod (wrap64 (a1)) (l0_3.length : Int))) (Int.tmod (wrap64 (a2)) ((rd_LIns l0_3 (Int.tmod (wrap64 (a1)) (l0_3.length : Int))).length : Int))).f4) ((rd_TIns (rd_LIns l0_3 (Int.tmod (wrap64 (a1)) (l0_3.length : Int))) (Int.tmod (wrap64 (a2)) ((rd_LIns l0_3 (Int.tmod (wrap64 (a1)) (l0_3.length : Int))).length : Int))).f5)).bind fun t323 => (cubbylaw07_IrBlocks.l0 kj3 (rd_LIns l0_3 (Int.tmod (wrap64 (a1)) (l0_3.length : Int))) (Int.tmod (wrap64 (a2)) ((rd_LIns l0_3 (Int.tmod (wrap64 (a1)) (l0_3.length : Int))).length : Int)) t323 0 a0_0 a0_1 a0_2 l0_3)))) else (none)) else (none))) else (none)) else (none))) else (some true)) else (some false)) = some r := H
    have A15 := Aside0.mk A150
    clear A150
    by_cases c16 : t317 = t318
    ·rw [if_pos c16] at H
     have c16b0 : (t317 == t318) = true := beq_iff_eq.mpr c16
     have c16b1 : (t317 != t318) = false := bne_eq_false_iff_eq.mpr c16
     clear c16
     by_cases c17 : t317 = 0
     ·rw [if_pos c17] at H
      have c17b0 : (t317 == 0) = true := beq_iff_eq.mpr c17
      have c17b1 : (t317 != 0) = false := bne_eq_false_iff_eq.mpr c17
      clear c17
      by_cases c18 : (l0_3.length : Int) = 0
      ·rw [if_pos c18] at H
       exact absurd H (by simp)
      ·rw [if_neg c18] at H
       have c18b0 : ((l0_3.length : Int) == 0) = false := beq_eq_false_iff_ne.mpr c18
       have c18b1 : ((l0_3.length : Int) != 0) = true := bne_iff_ne.mpr c18
       have c18b2 : ¬ (l0_3 = []) := fun h_ => c18 (by rw [h_]; rfl)
       obtain ⟨ji19, hji19⟩ : ∃ j_ : Int, (Int.tmod (wrap64 (a1)) (l0_3.length : Int)) = j_ := ⟨_, rfl⟩
       replace H : (if 0 ≤ (ji19) then (if (ji19) < (l0_3.length : Int) then (if ((rd_LIns l0_3 (ji19)).length : Int) = 0 then (none) else (if 0 ≤ (Int.tmod (wrap64 (a2)) ((rd_LIns l0_3 (ji19)).length : Int)) then (if (Int.tmod (wrap64 (a2)) ((rd_LIns l0_3 (ji19)).length : Int)) < ((rd_LIns l0_3 (ji19)).length : Int) then ((ir_Last.f ((rd_TIns (rd_LIns l0_3 (ji19)) (Int.tmod (wrap64 (a2)) ((rd_LIns l0_3 (ji19)).length : Int))).f0)).bind fun t321 => (if (t321 != ((Int.tmod (wrap64 (a2)) ((rd_LIns l0_3 (ji19)).length : Int)) == (wrap64 (((rd_LIns l0_3 (ji19)).length : Int) - 1)))) = true then (some false) else ((ir_Targets.f ((rd_TIns (rd_LIns l0_3 (ji19)) (Int.tmod (wrap64 (a2)) ((rd_LIns l0_3 (ji19)).length : Int))).f0) ((rd_TIns (rd_LIns l0_3 (ji19)) (Int.tmod (wrap64 (a2)) ((rd_LIns l0_3 (ji19)).length : Int))).f1) ((rd_TIns (rd_LIns l0_3 (ji19)) (Int.tmod (wrap64 (a2)) ((rd_LIns l0_3 (ji19)).length : Int))).f2) ((rd_TIns (rd_LIns l0_3 (ji19)) (Int.tmod (wrap64 (a2)) ((rd_LIns l0_3 (ji19)).length : Int))).f3) ((rd_TIns (rd_LIns l0_3 (ji19)) (Int.tmod (wrap64 (a2)) ((rd_LIns l0_3 (ji19)).length : Int))).f4) ((rd_TIns (rd_LIns l0_3 (ji19)) (Int.tmod (wrap64 (a2)) ((rd_LIns l0_3 (ji19)).length : Int))).f5)).bind fun t323 => (cubbylaw07_IrBlocks.l0 kj3 (rd_LIns l0_3 (ji19)) (Int.tmod (wrap64 (a2)) ((rd_LIns l0_3 (ji19)).length : Int)) t323 0 a0_0 a0_1 a0_2 l0_3)))) else (none)) else (none))) else (none)) else (none)) = some r := by first | (rw [hji19] at H; exact H) | (simp only [hji19] at H ⊢; exact H)
       (try rw [hji19] at A14)
       (try rw [hji19] at A15)
       by_cases c20 : 0 ≤ (ji19)
       ·rw [if_pos c20] at H
        have c20b0 : decide (0 ≤ (ji19)) = true := decide_eq_true c20
        clear c20
        by_cases c21 : (ji19) < (l0_3.length : Int)
        ·rw [if_pos c21] at H
         have c21b0 : decide ((ji19) < (l0_3.length : Int)) = true := decide_eq_true c21
         clear c21
         by_cases c22 : ((rd_LIns l0_3 (ji19)).length : Int) = 0
         ·rw [if_pos c22] at H
          exact absurd H (by simp)
         ·rw [if_neg c22] at H
          have c22b0 : (((rd_LIns l0_3 (ji19)).length : Int) == 0) = false := beq_eq_false_iff_ne.mpr c22
          have c22b1 : (((rd_LIns l0_3 (ji19)).length : Int) != 0) = true := bne_iff_ne.mpr c22
          have c22b2 : ¬ ((rd_LIns l0_3 (ji19)) = []) := fun h_ => c22 (by rw [h_]; rfl)
          obtain ⟨ji23, hji23⟩ : ∃ j_ : Int, (Int.tmod (wrap64 (a2)) ((rd_LIns l0_3 (ji19)).length : Int)) = j_ := ⟨_, rfl⟩
          replace H : (if 0 ≤ (ji23) then (if (ji23) < ((rd_LIns l0_3 (ji19)).length : Int) then ((ir_Last.f ((rd_TIns (rd_LIns l0_3 (ji19)) (ji23)).f0)).bind fun t321 => (if (t321 != ((ji23) == (wrap64 (((rd_LIns l0_3 (ji19)).length : Int) - 1)))) = true then (some false) else ((ir_Targets.f ((rd_TIns (rd_LIns l0_3 (ji19)) (ji23)).f0) ((rd_TIns (rd_LIns l0_3 (ji19)) (ji23)).f1) ((rd_TIns (rd_LIns l0_3 (ji19)) (ji23)).f2) ((rd_TIns (rd_LIns l0_3 (ji19)) (ji23)).f3) ((rd_TIns (rd_LIns l0_3 (ji19)) (ji23)).f4) ((rd_TIns (rd_LIns l0_3 (ji19)) (ji23)).f5)).bind fun t323 => (cubbylaw07_IrBlocks.l0 kj3 (rd_LIns l0_3 (ji19)) ji23 t323 0 a0_0 a0_1 a0_2 l0_3)))) else (none)) else (none)) = some r := by first | (rw [hji23] at H; exact H) | (simp only [hji23] at H ⊢; exact H)
          (try rw [hji23] at A14)
          (try rw [hji23] at A15)
          by_cases c24 : 0 ≤ (ji23)
          ·rw [if_pos c24] at H
           have c24b0 : decide (0 ≤ (ji23)) = true := decide_eq_true c24
           clear c24
           by_cases c25 : (ji23) < ((rd_LIns l0_3 (ji19)).length : Int)
           ·rw [if_pos c25] at H
            have c25b0 : decide ((ji23) < ((rd_LIns l0_3 (ji19)).length : Int)) = true := decide_eq_true c25
            clear c25
            replace H := Option.bind_eq_some_iff.mp H
            obtain ⟨t321, A260, H⟩ := H
            replace H : (if (t321 != ((ji23) == (wrap64 (((rd_LIns l0_3 (ji19)).length : Int) - 1)))) = true then (some false) else ((ir_Targets.f ((rd_TIns (rd_LIns l0_3 (ji19)) (ji23)).f0) ((rd_TIns (rd_LIns l0_3 (ji19)) (ji23)).f1) ((rd_TIns (rd_LIns l0_3 (ji19)) (ji23)).f2) ((rd_TIns (rd_LIns l0_3 (ji19)) (ji23)).f3) ((rd_TIns (rd_LIns l0_3 (ji19)) (ji23)).f4) ((rd_TIns (rd_LIns l0_3 (ji19)) (ji23)).f5)).bind fun t323 => (cubbylaw07_IrBlocks.l0 kj3 (rd_LIns l0_3 (ji19)) ji23 t323 0 a0_0 a0_1 a0_2 l0_3))) = some r := H
            have A26 := Aside0.mk A260
            clear A260
            by_cases c27 : (t321 != ((ji23) == (wrap64 (((rd_LIns l0_3 (ji19)).length : Int) - 1)))) = true
            ·rw [if_pos c27] at H
             have c27b0 : (t321 != ((ji23) == (wrap64 (((rd_LIns l0_3 (ji19)).length : Int) - 1)))) = true := c27
             (try (have c27b1 : decide (t321 = ((ji23) == (wrap64 (((rd_LIns l0_3 (ji19)).length : Int) - 1)))) = false := by simpa using c27))
             (try (have c27b2 : (t321 == ((ji23) == (wrap64 (((rd_LIns l0_3 (ji19)).length : Int) - 1)))) = false := by simpa using c27))
             (try (have c27b3 : ¬ (t321 = ((ji23) == (wrap64 (((rd_LIns l0_3 (ji19)).length : Int) - 1)))) := by simpa using c27))
             clear c27
             exact absurd ((Option.some.inj H).trans HRt.out) (by decide)
            ·rw [if_neg c27] at H
             have c27b0 : (t321 != ((ji23) == (wrap64 (((rd_LIns l0_3 (ji19)).length : Int) - 1)))) = false := by simpa using c27
             (try (have c27b1 : decide (t321 = ((ji23) == (wrap64 (((rd_LIns l0_3 (ji19)).length : Int) - 1)))) = true := by simpa using c27))
             (try (have c27b2 : (t321 == ((ji23) == (wrap64 (((rd_LIns l0_3 (ji19)).length : Int) - 1)))) = true := by simpa using c27))
             clear c27
             replace H := Option.bind_eq_some_iff.mp H
             obtain ⟨t323, A280, H⟩ := H
             replace H : (cubbylaw07_IrBlocks.l0 kj3 (rd_LIns l0_3 (ji19)) ji23 t323 0 a0_0 a0_1 a0_2 l0_3) = some r := H
             have A28 := Aside0.mk A280
             clear A280
             have H' := Aside0.mk H
             clear H
             have hcz29_0 : wc.cell? ⟨gb315, 0, none⟩ = some (.string a0_0) := (blk_cell BK315.out 0).trans rfl
             have hcz29_1 : wc.cell? ⟨gb315, 1, none⟩ = some (.int .i64 a0_1) := (blk_cell BK315.out 1).trans rfl
             have hcz29_2 : wc.cell? ⟨gb315, 2, none⟩ = some (.int .i64 a0_2) := (blk_cell BK315.out 2).trans rfl
             have hcz29_3 : wc.cell? ⟨gb315, 3, none⟩ = some (.slice A0_3 l0_3.length c0_3) := (blk_cell BK315.out 3).trans rfl
             have hfz29_0 := blk_frozen BK315.out 0
             have hfz29_1 := blk_frozen BK315.out 1
             have hfz29_2 := blk_frozen BK315.out 2
             have hfz29_3 := blk_frozen BK315.out 3
             try go_wp2_with (first | ((with_reducible refine gate_callee (f := 28) rfl ?_); refine goesL_ (some 24) rfl rfl Tryd.func28 (by kernel_rfl) rfl #[.agg #[.string a0_0, .int .i64 a0_1, .int .i64 a0_2, .slice A0_3 l0_3.length c0_3]] rfl (by (try simp only [List.map_toArray, List.map_cons, List.map_nil]); first | done | rfl | (simp only [List.length_drop, List.length_take]; rfl)) ?_; (with_reducible refine (ir_Check.calls kj3 a0_0 a0_1 a0_2 _ _ l0_3 t317 _ ?side1 ?side2 A14.out (hL := ?side99)).mono ?_); (case side1 => repeat (first | exact (Kd.C_below HR0_3.out HB.out) | (with_reducible refine Kd.C_alloc ?_ _) | (with_reducible refine Kd.C_drewN ?_ _) | (with_reducible refine Kd.C_drew ?_))); (case side2 => exact HC0_3.out); (case side99 => exact LaidW.below HLd.out (by repeat (first | (with_reducible first | exact HB.out | apply below_alloc | apply pw_below_drewN | apply below_drew1 | refine below_set ?_ GE315.out) | exact HB.out))); rintro e w30 ⟨rfl, hb⟩; refine ⟨_, rfl, ?_⟩; have n0_ := Aside0.mk (blk_below (g := gb315) (o := .cells #[.string a0_0, .int .i64 a0_1, .int .i64 a0_2, .slice A0_3 l0_3.length c0_3] 34 (0, 0)) (by (with_reducible repeat (first | refine blk_drewN ?_ _ | refine blk_drew ?_ | refine blk_alloc ?_ _)); exact BK315.out) hb); have n1_ := Aside0.mk (below_step (by repeat (first | (with_reducible first | exact HB.out | apply below_alloc | apply pw_below_drewN | apply below_drew1 | refine below_set ?_ GE315.out) | exact HB.out)) hb); clear BK315; clear HB; have BK315 := n0_; have HB := n1_; clear n0_ n1_; (try clear hb); (try clear hb2); (try clear hk); (try clear hi); have hcz31_0 : w30.cell? ⟨gb315, 0, none⟩ = some (.string a0_0) := (blk_cell BK315.out 0).trans rfl; have hcz31_1 : w30.cell? ⟨gb315, 1, none⟩ = some (.int .i64 a0_1) := (blk_cell BK315.out 1).trans rfl; have hcz31_2 : w30.cell? ⟨gb315, 2, none⟩ = some (.int .i64 a0_2) := (blk_cell BK315.out 2).trans rfl; have hcz31_3 : w30.cell? ⟨gb315, 3, none⟩ = some (.slice A0_3 l0_3.length c0_3) := (blk_cell BK315.out 3).trans rfl; have hfz31_0 := blk_frozen BK315.out 0; have hfz31_1 := blk_frozen BK315.out 1; have hfz31_2 := blk_frozen BK315.out 2; have hfz31_3 := blk_frozen BK315.out 3) | ((with_reducible refine gate_callee (f := 29) rfl ?_); refine goesL_ (some 27) rfl rfl Tryd.func29 (by kernel_rfl) rfl #[.agg #[.string a0_0, .int .i64 a0_1, .int .i64 a0_2, .slice A0_3 l0_3.length c0_3]] rfl (by (try simp only [List.map_toArray, List.map_cons, List.map_nil]); first | done | rfl | (simp only [List.length_drop, List.length_take]; rfl)) ?_; (with_reducible refine (cubbyref07_Check.calls kj3 a0_0 a0_1 a0_2 _ _ l0_3 t318 _ ?side1 ?side2 A15.out).mono ?_); (case side1 => repeat (first | exact (Kd.C_below HR0_3.out HB.out) | (with_reducible refine Kd.C_alloc ?_ _) | (with_reducible refine Kd.C_drewN ?_ _) | (with_reducible refine Kd.C_drew ?_))); (case side2 => exact HC0_3.out); rintro e w32 ⟨rfl, hb⟩; refine ⟨_, rfl, ?_⟩; have n0_ := Aside0.mk (blk_below (g := gb315) (o := .cells #[.string a0_0, .int .i64 a0_1, .int .i64 a0_2, .slice A0_3 l0_3.length c0_3] 34 (0, 0)) (by (with_reducible repeat (first | refine blk_drewN ?_ _ | refine blk_drew ?_ | refine blk_alloc ?_ _)); exact BK315.out) hb); have n1_ := Aside0.mk (below_step (by repeat (first | (with_reducible first | exact HB.out | apply below_alloc | apply pw_below_drewN | apply below_drew1 | refine below_set ?_ GE315.out) | exact HB.out)) hb); clear BK315; clear HB; have BK315 := n0_; have HB := n1_; clear n0_ n1_; (try clear hb); (try clear hb2); (try clear hk); (try clear hi)))
             have n0_ := Aside0.mk (blk_drew BK315.out)
             have n1_ := Aside0.mk (below_drew1 HB.out)
             clear BK315
             clear HB
             have BK315 := n0_
             have HB := n1_
             clear n0_ n1_
             have p319 : 0 ≤ ((ji19) : Int) := of_decide_eq_true (by first | (with_reducible assumption) | assumption)
             have q319 : (ji19) < (l0_3.length : Int) := of_decide_eq_true (by first | (with_reducible assumption) | assumption)
             obtain ⟨ad319, A319_0, c319_0, e319, hx319_0, hl319_0, hi319_0⟩ := at_LIns HR0_3.out (ji19) p319 q319
             have hw319_0 := hx319_0
             cases e319
             replace hx319_0 := (HB.out.cell (World.block_lt_of_cell? w _ hx319_0)).trans hx319_0
             have HR319_0 := Aside0.mk hi319_0
             have HC319_0 := Aside0.mk hl319_0
             clear hi319_0 hl319_0
             replace p319 := eq_true p319
             replace q319 := eq_true q319
             refine start_ (n := 11) (S := fun w' => w'.cell? ⟨gb315, 0, none⟩ = some (.string a0_0) ∧ w'.cell? ⟨gb315, 1, none⟩ = some (.int .i64 a0_1) ∧ w'.cell? ⟨gb315, 2, none⟩ = some (.int .i64 a0_2) ∧ w'.cell? ⟨gb315, 3, none⟩ = some (.slice (some ad319) l0_3.length c0_3) ∧ w'.cell? (ad319.add ((ji19)).toNat) = some (.slice A319_0 (rd_LIns l0_3 (ji19)).length c319_0)) (ds := []) #[false, false, false, false, false, false, false, false, false, false, false] (by kernel_rfl) rfl rfl ⟨(blk_cell BK315.out 0).trans rfl, (blk_cell BK315.out 1).trans rfl, (blk_cell BK315.out 2).trans rfl, (blk_cell BK315.out 3).trans rfl, ((HB.out.cell (World.block_lt_of_cell? w _ hw319_0)).trans hw319_0)⟩ (fun hHeld => ?_); refine with_tabW cubbylaw07_IrBlocks.tab8 cubbylaw07_IrBlocks.bits8 (fun HT_ HW_ => ?_)
             generalize w32.drew = w33 at BK315 HB HR319_0 hx319_0 hHeld ⊢
             refine pure_ (i := 0) (N := some 31) (v := ?_) (a' := ?_) #[true, false, false, false, false, false, false, false, false, false, false] rfl rfl (any_of HT_.out (by kernel_rfl)) (fun _ _ _ h => h) (Or.inl ⟨by rfl, ?_⟩) ?_ ?_
             rotate_left
             ·intro w'
              go_simp
              with_reducible rfl
             rotate_left
             ·simp only [Act.put, List.setIfInBounds_toArray, List.set_cons_zero, List.set_cons_succ, i64_w, i32_w]
              rfl
             refine pure_ (i := 2) (N := some 33) (v := ?_) (a' := ?_) #[true, false, true, false, false, false, false, false, false, false, false] rfl rfl (any_of HT_.out (by kernel_rfl)) (fun _ _ _ h => h) (Or.inl ⟨by rfl, ?_⟩) ?_ ?_
             rotate_left
             ·intro w'
              go_simp
              with_reducible rfl
             rotate_left
             ·simp only [Act.put, List.setIfInBounds_toArray, List.set_cons_zero, List.set_cons_succ, i64_w, i32_w]
              rfl
             refine pure_ (i := 3) (N := some 34) (v := ?_) (a' := ?_) #[true, false, true, true, false, false, false, false, false, false, false] rfl rfl (any_of HT_.out (by kernel_rfl)) (fun _ _ _ h => h) (Or.inl ⟨by rfl, ?_⟩) ?_ ?_
             rotate_left
             ·intro w'
              go_simp
              with_reducible rfl
             rotate_left
             ·simp only [Act.put, List.setIfInBounds_toArray, List.set_cons_zero, List.set_cons_succ, i64_w, i32_w]
              rfl
             refine pure_ (i := 4) (N := some 35) (v := ?_) (a' := ?_) #[true, false, true, true, true, false, false, false, false, false, false] rfl rfl (any_of HT_.out (by kernel_rfl)) (fun _ _ _ h => h) (Or.inl ⟨by rfl, ?_⟩) ?_ ?_
             rotate_left
             ·intro w'
              go_simp
              with_reducible rfl
             rotate_left
             ·simp only [Act.put, List.setIfInBounds_toArray, List.set_cons_zero, List.set_cons_succ, i64_w, i32_w]
              rfl
             refine take_ (i := 1) (N := some 32) (v := ?_) (a' := ?_) #[true, true, true, true, true, false, false, false, false, false, false] rfl rfl (take_ofW HT_.out HW_.out (by kernel_rfl)) (fun _ _ _ h => h) (Or.inl ⟨by rfl, ?_⟩) hHeld ?_ ?_
             rotate_left
             ·rintro w' ⟨s0, s1, s2, s3, s4⟩
              go_simp
              with_reducible rfl
             rotate_left
             ·simp only [Act.put, List.setIfInBounds_toArray, List.set_cons_zero, List.set_cons_succ, i64_w, i32_w]
              rfl
             refine take_ (i := 5) (N := some 36) (v := ?_) (a' := ?_) #[true, true, true, true, true, true, false, false, false, false, false] rfl rfl (take_ofW HT_.out HW_.out (by kernel_rfl)) (fun _ _ _ h => h) (Or.inl ⟨by rfl, ?_⟩) hHeld ?_ ?_
             rotate_left
             ·rintro w' ⟨s0, s1, s2, s3, s4⟩
              go_simp
              with_reducible rfl
             rotate_left
             ·simp only [Act.put, List.setIfInBounds_toArray, List.set_cons_zero, List.set_cons_succ, i64_w, i32_w]
              rfl
             refine pure_ (i := 6) (N := some 37) (v := ?_) (a' := ?_) #[true, true, true, true, true, true, true, false, false, false, false] rfl rfl (any_of HT_.out (by kernel_rfl)) (fun _ _ _ h => h) (Or.inl ⟨by rfl, ?_⟩) ?_ ?_
             rotate_left
             ·intro w'
              go_simp
              with_reducible rfl
             rotate_left
             ·simp only [Act.put, List.setIfInBounds_toArray, List.set_cons_zero, List.set_cons_succ, i64_w, i32_w]
              rfl
             refine pure_ (i := 7) (N := some 38) (v := ?_) (a' := ?_) #[true, true, true, true, true, true, true, true, false, false, false] rfl rfl (any_of HT_.out (by kernel_rfl)) (fun _ _ _ h => h) (Or.inl ⟨by rfl, ?_⟩) ?_ ?_
             rotate_left
             ·intro w'
              go_simp
              with_reducible rfl
             rotate_left
             ·simp only [Act.put, List.setIfInBounds_toArray, List.set_cons_zero, List.set_cons_succ, i64_w, i32_w]
              rfl
             refine pure_ (i := 8) (N := some 39) (v := ?_) (a' := ?_) #[true, true, true, true, true, true, true, true, true, false, false] rfl rfl (any_of HT_.out (by kernel_rfl)) (fun _ _ _ h => h) (Or.inl ⟨by rfl, ?_⟩) ?_ ?_
             rotate_left
             ·intro w'
              go_simp
              with_reducible rfl
             rotate_left
             ·simp only [Act.put, List.setIfInBounds_toArray, List.set_cons_zero, List.set_cons_succ, i64_w, i32_w]
              rfl
             refine take_ (i := 9) (N := some 40) (v := ?_) (a' := ?_) #[true, true, true, true, true, true, true, true, true, true, false] rfl rfl (take_ofW HT_.out HW_.out (by kernel_rfl)) (fun _ _ _ h => h) (Or.inl ⟨by rfl, ?_⟩) hHeld ?_ ?_
             rotate_left
             ·rintro w' ⟨s0, s1, s2, s3, s4⟩
              go_simp
              with_reducible rfl
             rotate_left
             ·simp only [Act.put, List.setIfInBounds_toArray, List.set_cons_zero, List.set_cons_succ, i64_w, i32_w]
              rfl
             refine pure_ (i := 10) (N := some 8) (v := ?_) (a' := ?_) #[true, true, true, true, true, true, true, true, true, true, true] rfl rfl (any_of HT_.out (by kernel_rfl)) (fun _ _ _ h => h) (Or.inl ⟨by rfl, ?_⟩) ?_ ?_
             rotate_left
             ·intro w'
              go_simp
              with_reducible rfl
             rotate_left
             ·simp only [Act.put, List.setIfInBounds_toArray, List.set_cons_zero, List.set_cons_succ, i64_w, i32_w]
              rfl
             refine done_ (done_of HT_.out (by kernel_rfl)) ?_
             have p320 : 0 ≤ ((ji23) : Int) := of_decide_eq_true (by first | (with_reducible assumption) | assumption)
             have q320 : (ji23) < ((rd_LIns l0_3 (ji19)).length : Int) := of_decide_eq_true (by first | (with_reducible assumption) | assumption)
             obtain ⟨ad320, A320_5, c320_5, e320, hx320_0, hx320_1, hx320_2, hx320_3, hx320_4, hx320_5, hl320_5, hi320_5⟩ := at_TIns HR319_0.out (ji23) p320 q320
             cases e320
             replace hx320_0 := (HB.out.cell (World.block_lt_of_cell? w _ hx320_0)).trans hx320_0
             replace hx320_1 := (HB.out.cell (World.block_lt_of_cell? w _ hx320_1)).trans hx320_1
             replace hx320_2 := (HB.out.cell (World.block_lt_of_cell? w _ hx320_2)).trans hx320_2
             replace hx320_3 := (HB.out.cell (World.block_lt_of_cell? w _ hx320_3)).trans hx320_3
             replace hx320_4 := (HB.out.cell (World.block_lt_of_cell? w _ hx320_4)).trans hx320_4
             replace hx320_5 := (HB.out.cell (World.block_lt_of_cell? w _ hx320_5)).trans hx320_5
             have HR320_5 := Aside0.mk hi320_5
             have HC320_5 := Aside0.mk hl320_5
             clear hi320_5 hl320_5
             replace p320 := eq_true p320
             replace q320 := eq_true q320
             try go_wp2_with (first | ((with_reducible refine gate_callee (f := 16) rfl ?_); refine goesL_ (some 51) rfl rfl Tryd.func16 (by kernel_rfl) rfl #[.int .i64 ((rd_TIns (rd_LIns l0_3 (ji19)) (ji23)).f0)] rfl (by (try simp only [List.map_toArray, List.map_cons, List.map_nil]); first | done | (simp only [hji19, hji23]; rfl) | rfl | (simp only [List.length_drop, List.length_take]; rfl)) ?_; (with_reducible refine (ir_Last.calls ((rd_TIns (rd_LIns l0_3 (ji19)) (ji23)).f0) t321 _ A26.out).mono ?_); rintro e w' ⟨rfl, ⟨nd, rfl⟩⟩; refine ⟨_, rfl, ?_⟩; have p322 : 0 ≤ ((ji23) : Int) := of_decide_eq_true (by first | (with_reducible assumption) | assumption); have q322 : (ji23) < ((rd_LIns l0_3 (ji19)).length : Int) := of_decide_eq_true (by first | (with_reducible assumption) | assumption); obtain ⟨ad322, A322_5, c322_5, e322, hx322_0, hx322_1, hx322_2, hx322_3, hx322_4, hx322_5, hl322_5, hi322_5⟩ := at_TIns HR319_0.out (ji23) p322 q322; obtain rfl : ad320 = ad322 := (by injection e322); replace hx322_0 := (HB.out.cell (World.block_lt_of_cell? w _ hx322_0)).trans hx322_0; replace hx322_1 := (HB.out.cell (World.block_lt_of_cell? w _ hx322_1)).trans hx322_1; replace hx322_2 := (HB.out.cell (World.block_lt_of_cell? w _ hx322_2)).trans hx322_2; replace hx322_3 := (HB.out.cell (World.block_lt_of_cell? w _ hx322_3)).trans hx322_3; replace hx322_4 := (HB.out.cell (World.block_lt_of_cell? w _ hx322_4)).trans hx322_4; replace hx322_5 := (HB.out.cell (World.block_lt_of_cell? w _ hx322_5)).trans hx322_5; have HR322_5 := Aside0.mk hi322_5; have HC322_5 := Aside0.mk hl322_5; clear hi322_5 hl322_5; replace p322 := eq_true p322; replace q322 := eq_true q322; have ea_ := Option.some.inj (hx320_5.symm.trans hx322_5); injection ea_ with ea_ en_ ec_; subst ea_; subst ec_; clear en_) | ((with_reducible refine gate_callee (f := 14) rfl ?_); refine goesL_ (some 62) rfl rfl Tryd.func14 (by kernel_rfl) rfl #[.agg #[.int .i64 ((rd_TIns (rd_LIns l0_3 (ji19)) (ji23)).f0), .int .i64 ((rd_TIns (rd_LIns l0_3 (ji19)) (ji23)).f1), .int .i64 ((rd_TIns (rd_LIns l0_3 (ji19)) (ji23)).f2), .int .i64 ((rd_TIns (rd_LIns l0_3 (ji19)) (ji23)).f3), .string ((rd_TIns (rd_LIns l0_3 (ji19)) (ji23)).f4), .slice A320_5 ((rd_TIns (rd_LIns l0_3 (ji19)) (ji23)).f5).length c320_5]] rfl (by (try simp only [List.map_toArray, List.map_cons, List.map_nil]); first | done | (simp only [hji19, hji23]; rfl) | rfl | (simp only [List.length_drop, List.length_take]; rfl)) ?_; (with_reducible refine (ir_Targets.calls ((rd_TIns (rd_LIns l0_3 (ji19)) (ji23)).f0) ((rd_TIns (rd_LIns l0_3 (ji19)) (ji23)).f1) ((rd_TIns (rd_LIns l0_3 (ji19)) (ji23)).f2) ((rd_TIns (rd_LIns l0_3 (ji19)) (ji23)).f3) ((rd_TIns (rd_LIns l0_3 (ji19)) (ji23)).f4) _ _ ((rd_TIns (rd_LIns l0_3 (ji19)) (ji23)).f5) t323 _ ?side1 ?side2 A28.out).mono ?_); (case side1 => repeat (first | exact (Kd.C_below HR322_5.out (by repeat (first | (with_reducible first | exact HB.out | apply below_alloc | apply pw_below_drewN | apply below_drew1 | refine below_set ?_ GE315.out) | exact HB.out))) | (with_reducible refine Kd.C_alloc ?_ _) | (with_reducible refine Kd.C_drewN ?_ _) | (with_reducible refine Kd.C_drew ?_))); (case side2 => exact HC322_5.out); rintro e w34 ⟨v324, rfl, ho0, hb⟩; refine ⟨_, rfl, ?_⟩; have n0_ := Aside0.mk (Kd.R_lower ho0 (below_size (by repeat (first | (with_reducible first | exact HB.out | apply below_alloc | apply pw_below_drewN | apply below_drew1 | refine below_set ?_ GE315.out) | exact HB.out)))); have n1_ := Aside0.mk (blk_below (g := gb315) (o := .cells #[.string a0_0, .int .i64 a0_1, .int .i64 a0_2, .slice (some ad319) l0_3.length c0_3] 34 (0, 0)) (by (with_reducible repeat (first | refine blk_drewN ?_ _ | refine blk_drew ?_ | refine blk_alloc ?_ _)); exact BK315.out) hb); have n2_ := Aside0.mk (below_step (by repeat (first | (with_reducible first | exact HB.out | apply below_alloc | apply pw_below_drewN | apply below_drew1 | refine below_set ?_ GE315.out) | exact HB.out)) hb); clear BK315; clear HB; have HO325 := n0_; have BK315 := n1_; have HB := n2_; clear n0_ n1_ n2_; (try clear hb); (try clear hb2); (try clear hk); (try clear hi); (try clear ho0)))
             go_loopg [11] kj3 (fun kq v11 w' => ∃ (x11_2 : Int), v11 = .int .i64 x11_2 ∧ Aside0 (cubbylaw07_IrBlocks.l0 kq (rd_LIns l0_3 (ji19)) ji23 t323 x11_2 a0_0 a0_1 a0_2 l0_3 = some r) ∧ Aside0 (kq ≤ kj3) ∧ Aside0 (Kd.R (Kd.int .i64) 3 w' w.heap.size (fun _ => True) v324 t323) ∧ Aside0 (w'.heap[gb315]? = some (.cells #[.string a0_0, .int .i64 a0_1, .int .i64 a0_2, (.slice (some ad319) l0_3.length c0_3)] 34 (0, 0))) ∧ Aside0 (Below w.heap.size w w'))
             case atStart => exact ⟨(0), (by first | rfl | (simp; done) | (simp [*]; done)), H', ⟨Nat.le_refl _⟩, ⟨by (with_reducible repeat (first | apply Kd.R_alloc | apply Kd.R_drewN | apply Kd.R_drew)); exact HO325.out⟩, ⟨by (with_reducible repeat (first | refine blk_drewN ?_ _ | refine blk_drew ?_ | refine blk_alloc ?_ _)); exact BK315.out⟩, ⟨by repeat (first | (with_reducible first | exact HB.out | apply below_alloc | apply pw_below_drewN | apply below_drew1 | refine below_set ?_ GE315.out) | exact HB.out)⟩⟩
             case round =>
              clear H'
              try clear c1
              try clear c2
              try clear p2
              try clear c3
              try clear p3
              try clear q3
              try clear hx3
              try clear p6
              try clear c7
              try clear c8
              try clear c13
              try clear c14
              try clear c16
              try clear c16b0
              try clear c16b1
              try clear c17
              try clear c17b0
              try clear c17b1
              try clear c18
              try clear c18b0
              try clear c18b1
              try clear c18b2
              try clear c20
              try clear c20b0
              try clear c21
              try clear c21b0
              try clear c22
              try clear c22b0
              try clear c22b1
              try clear c22b2
              try clear c24
              try clear c24b0
              try clear c25
              try clear c25b0
              try clear c27
              try clear c27b0
              try clear c27b1
              try clear c27b2
              try clear c28
              try clear c29
              try clear c31
              try clear p31
              try clear q31
              try clear hx31
              try clear c32
              try clear p32
              try clear q32
              try clear hx32
              try clear hcz10_0
              try clear hcz10_1
              try clear hcz10_2
              try clear hcz10_3
              try clear hcz12_0
              try clear hcz12_1
              try clear hcz12_2
              try clear hcz12_3
              try clear hcz29_0
              try clear hcz29_1
              try clear hcz29_2
              try clear hcz29_3
              try clear hcz31_0
              try clear hcz31_1
              try clear hcz31_2
              try clear hcz31_3
              try clear hcz8_0
              try clear hcz8_1
              try clear hcz8_2
              try clear hcz8_3
              try clear hfz10_0
              try clear hfz10_1
              try clear hfz10_2
              try clear hfz10_3
              try clear hfz12_0
              try clear hfz12_1
              try clear hfz12_2
              try clear hfz12_3
              try clear hfz29_0
              try clear hfz29_1
              try clear hfz29_2
              try clear hfz29_3
              try clear hfz31_0
              try clear hfz31_1
              try clear hfz31_2
              try clear hfz31_3
              try clear hfz8_0
              try clear hfz8_1
              try clear hfz8_2
              try clear hfz8_3
              try clear hx319_0
              try clear hx320_0
              try clear hx320_1
              try clear hx320_2
              try clear hx320_3
              try clear hx320_4
              try clear hx320_5
              try clear hx322_0
              try clear hx322_1
              try clear hx322_2
              try clear hx322_3
              try clear hx322_4
              try clear hx322_5
              try clear p2
              try clear p319
              try clear p320
              try clear p322
              try clear q319
              try clear q320
              try clear q322
              obtain ⟨x11_2, rfl, HA, HK2, HO_10, BK315, HB⟩ := hrel
              cases gk with
              | zero => exact absurd HA.out (by simp [cubbylaw07_IrBlocks.l0])
              | succ k2 =>
               have H := HA.out
               clear HA
               simp only [cubbylaw07_IrBlocks.l0] at H
               by_cases c35 : x11_2 < (t323.length : Int)
               ·rw [if_pos c35] at H
                have c35b0 : decide (x11_2 < (t323.length : Int)) = true := decide_eq_true c35
                clear c35
                by_cases c36 : 0 ≤ x11_2
                ·rw [if_pos c36] at H
                 have c36b0 : decide (0 ≤ x11_2) = true := decide_eq_true c36
                 clear c36
                 by_cases c37 : (rd t323 x11_2) < 0
                 ·rw [if_pos c37] at H
                  have c37b0 : decide ((rd t323 x11_2) < 0) = true := decide_eq_true c37
                  clear c37
                  exact absurd ((Option.some.inj H).trans HRt.out) (by decide)
                 ·rw [if_neg c37] at H
                  have c37b0 : decide ((rd t323 x11_2) < 0) = false := decide_eq_false c37
                  clear c37
                  by_cases c38 : (rd t323 x11_2) ≥ (l0_3.length : Int)
                  ·rw [if_pos c38] at H
                   have c38b0 : decide ((l0_3.length : Int) ≤ (rd t323 x11_2)) = true := decide_eq_true c38
                   clear c38
                   exact absurd ((Option.some.inj H).trans HRt.out) (by decide)
                  ·rw [if_neg c38] at H
                   have c38b0 : decide ((l0_3.length : Int) ≤ (rd t323 x11_2)) = false := decide_eq_false c38
                   clear c38
                   have H' := Aside0.mk H
                   clear H
                   obtain ⟨Ao39, co39, eo39⟩ := Kd.R_slice HO_10.out
                   subst eo39
                   try go_wp2
                   have n0_ := Aside0.mk (Kd.R_drew HO_10.out)
                   have n1_ := Aside0.mk (blk_drew BK315.out)
                   have n2_ := Aside0.mk (below_drew1 HB.out)
                   clear HO_10
                   clear BK315
                   clear HB
                   have HO_10 := n0_
                   have BK315 := n1_
                   have HB := n2_
                   clear n0_ n1_ n2_
                   have p326 : 0 ≤ (x11_2 : Int) := of_decide_eq_true (by first | (with_reducible assumption) | assumption)
                   have q326 : x11_2 < (t323.length : Int) := of_decide_eq_true (by first | (with_reducible assumption) | assumption)
                   obtain ⟨ad326, e326, hx326_0⟩ := Kd.at_int (Kd.R_reads' HO_10.out).2.2 x11_2 p326 q326
                   cases e326
                   replace p326 := eq_true p326
                   replace q326 := eq_true q326
                   have p327 : 0 ≤ (x11_2 : Int) := of_decide_eq_true (by first | (with_reducible assumption) | assumption)
                   have q327 : x11_2 < (t323.length : Int) := of_decide_eq_true (by first | (with_reducible assumption) | assumption)
                   obtain ⟨ad327, e327, hx327_0⟩ := Kd.at_int (Kd.R_reads' HO_10.out).2.2 x11_2 p327 q327
                   obtain rfl : ad326 = ad327 := (by injection e327)
                   replace p327 := eq_true p327
                   replace q327 := eq_true q327
                   refine start_ (n := 15) (S := fun w' => w'.cell? ⟨gb315, 0, none⟩ = some (.string a0_0) ∧ w'.cell? ⟨gb315, 1, none⟩ = some (.int .i64 a0_1) ∧ w'.cell? ⟨gb315, 2, none⟩ = some (.int .i64 a0_2) ∧ w'.cell? ⟨gb315, 3, none⟩ = some (.slice (some ad319) l0_3.length c0_3) ∧ w'.cell? (ad326.add (x11_2).toNat) = some (.int .i64 (rd t323 x11_2)) ∧ w'.cell? (ad326.add (x11_2).toNat) = some (.int .i64 (rd t323 x11_2))) (ds := []) #[false, false, false, false, false, false, false, false, false, false, false, false, false, false, false] (by kernel_rfl) rfl rfl ⟨(blk_cell BK315.out 0).trans rfl, (blk_cell BK315.out 1).trans rfl, (blk_cell BK315.out 2).trans rfl, (blk_cell BK315.out 3).trans rfl, hx326_0, hx327_0⟩ (fun hHeld => ?_); refine with_tabW cubbylaw07_IrBlocks.tab16 cubbylaw07_IrBlocks.bits16 (fun HT_ HW_ => ?_)
                   generalize wr.drew = w40 at HO_10 BK315 HB hx326_0 hx327_0 hHeld ⊢
                   refine pure_ (i := 0) (N := some 69) (v := ?_) (a' := ?_) #[true, false, false, false, false, false, false, false, false, false, false, false, false, false, false] rfl rfl (any_of HT_.out (by kernel_rfl)) (fun _ _ _ h => h) (Or.inl ⟨by rfl, ?_⟩) ?_ ?_
                   rotate_left
                   ·intro w'
                    go_simp
                    with_reducible rfl
                   rotate_left
                   ·simp only [Act.put, List.setIfInBounds_toArray, List.set_cons_zero, List.set_cons_succ, i64_w, i32_w]
                    rfl
                   refine pure_ (i := 1) (N := some 70) (v := ?_) (a' := ?_) #[true, true, false, false, false, false, false, false, false, false, false, false, false, false, false] rfl rfl (any_of HT_.out (by kernel_rfl)) (fun _ _ _ h => h) (Or.inl ⟨by rfl, ?_⟩) ?_ ?_
                   rotate_left
                   ·intro w'
                    go_simp
                    with_reducible rfl
                   rotate_left
                   ·simp only [Act.put, List.setIfInBounds_toArray, List.set_cons_zero, List.set_cons_succ, i64_w, i32_w]
                    rfl
                   refine pure_ (i := 2) (N := some 71) (v := ?_) (a' := ?_) #[true, true, true, false, false, false, false, false, false, false, false, false, false, false, false] rfl rfl (any_of HT_.out (by kernel_rfl)) (fun _ _ _ h => h) (Or.inl ⟨by rfl, ?_⟩) ?_ ?_
                   rotate_left
                   ·intro w'
                    go_simp
                    with_reducible rfl
                   rotate_left
                   ·simp only [Act.put, List.setIfInBounds_toArray, List.set_cons_zero, List.set_cons_succ, i64_w, i32_w]
                    rfl
                   refine take_ (i := 3) (N := some 72) (v := ?_) (a' := ?_) #[true, true, true, true, false, false, false, false, false, false, false, false, false, false, false] rfl rfl (take_ofW HT_.out HW_.out (by kernel_rfl)) (fun _ _ _ h => h) (Or.inl ⟨by rfl, ?_⟩) hHeld ?_ ?_
                   rotate_left
                   ·rintro w' ⟨s0, s1, s2, s3, s4, s5⟩
                    go_simp
                    with_reducible rfl
                   rotate_left
                   ·simp only [Act.put, List.setIfInBounds_toArray, List.set_cons_zero, List.set_cons_succ, i64_w, i32_w]
                    rfl
                   refine pure_ (i := 4) (N := some 73) (v := ?_) (a' := ?_) #[true, true, true, true, true, false, false, false, false, false, false, false, false, false, false] rfl rfl (any_of HT_.out (by kernel_rfl)) (fun _ _ _ h => h) (Or.inl ⟨by rfl, ?_⟩) ?_ ?_
                   rotate_left
                   ·intro w'
                    go_simp
                    with_reducible rfl
                   rotate_left
                   ·simp only [Act.put, List.setIfInBounds_toArray, List.set_cons_zero, List.set_cons_succ, i64_w, i32_w]
                    rfl
                   refine pure_ (i := 5) (N := some 74) (v := ?_) (a' := ?_) #[true, true, true, true, true, true, false, false, false, false, false, false, false, false, false] rfl rfl (any_of HT_.out (by kernel_rfl)) (fun _ _ _ h => h) (Or.inl ⟨by rfl, ?_⟩) ?_ ?_
                   rotate_left
                   ·intro w'
                    go_simp
                    with_reducible rfl
                   rotate_left
                   ·simp only [Act.put, List.setIfInBounds_toArray, List.set_cons_zero, List.set_cons_succ, i64_w, i32_w]
                    rfl
                   refine pure_ (i := 6) (N := some 75) (v := ?_) (a' := ?_) #[true, true, true, true, true, true, true, false, false, false, false, false, false, false, false] rfl rfl (any_of HT_.out (by kernel_rfl)) (fun _ _ _ h => h) (Or.inl ⟨by rfl, ?_⟩) ?_ ?_
                   rotate_left
                   ·intro w'
                    go_simp
                    with_reducible rfl
                   rotate_left
                   ·simp only [Act.put, List.setIfInBounds_toArray, List.set_cons_zero, List.set_cons_succ, i64_w, i32_w]
                    rfl
                   refine pure_ (i := 7) (N := some 76) (v := ?_) (a' := ?_) #[true, true, true, true, true, true, true, true, false, false, false, false, false, false, false] rfl rfl (any_of HT_.out (by kernel_rfl)) (fun _ _ _ h => h) (Or.inl ⟨by rfl, ?_⟩) ?_ ?_
                   rotate_left
                   ·intro w'
                    go_simp
                    with_reducible rfl
                   rotate_left
                   ·simp only [Act.put, List.setIfInBounds_toArray, List.set_cons_zero, List.set_cons_succ, i64_w, i32_w]
                    rfl
                   refine pure_ (i := 8) (N := some 77) (v := ?_) (a' := ?_) #[true, true, true, true, true, true, true, true, true, false, false, false, false, false, false] rfl rfl (any_of HT_.out (by kernel_rfl)) (fun _ _ _ h => h) (Or.inl ⟨by rfl, ?_⟩) ?_ ?_
                   rotate_left
                   ·intro w'
                    go_simp
                    with_reducible rfl
                   rotate_left
                   ·simp only [Act.put, List.setIfInBounds_toArray, List.set_cons_zero, List.set_cons_succ, i64_w, i32_w]
                    rfl
                   refine pure_ (i := 10) (N := some 79) (v := ?_) (a' := ?_) #[true, true, true, true, true, true, true, true, true, false, true, false, false, false, false] rfl rfl (any_of HT_.out (by kernel_rfl)) (fun _ _ _ h => h) (Or.inl ⟨by rfl, ?_⟩) ?_ ?_
                   rotate_left
                   ·intro w'
                    go_simp
                    with_reducible rfl
                   rotate_left
                   ·simp only [Act.put, List.setIfInBounds_toArray, List.set_cons_zero, List.set_cons_succ, i64_w, i32_w]
                    rfl
                   refine take_ (i := 9) (N := some 78) (v := ?_) (a' := ?_) #[true, true, true, true, true, true, true, true, true, true, true, false, false, false, false] rfl rfl (take_ofW HT_.out HW_.out (by kernel_rfl)) (fun _ _ _ h => h) (Or.inl ⟨by rfl, ?_⟩) hHeld ?_ ?_
                   rotate_left
                   ·rintro w' ⟨s0, s1, s2, s3, s4, s5⟩
                    go_simp
                    with_reducible rfl
                   rotate_left
                   ·simp only [Act.put, List.setIfInBounds_toArray, List.set_cons_zero, List.set_cons_succ, i64_w, i32_w]
                    rfl
                   refine take_ (i := 11) (N := some 80) (v := ?_) (a' := ?_) #[true, true, true, true, true, true, true, true, true, true, true, true, false, false, false] rfl rfl (take_ofW HT_.out HW_.out (by kernel_rfl)) (fun _ _ _ h => h) (Or.inl ⟨by rfl, ?_⟩) hHeld ?_ ?_
                   rotate_left
                   ·rintro w' ⟨s0, s1, s2, s3, s4, s5⟩
                    go_simp
                    with_reducible rfl
                   rotate_left
                   ·simp only [Act.put, List.setIfInBounds_toArray, List.set_cons_zero, List.set_cons_succ, i64_w, i32_w]
                    rfl
                   refine pure_ (i := 12) (N := some 81) (v := ?_) (a' := ?_) #[true, true, true, true, true, true, true, true, true, true, true, true, true, false, false] rfl rfl (any_of HT_.out (by kernel_rfl)) (fun _ _ _ h => h) (Or.inl ⟨by rfl, ?_⟩) ?_ ?_
                   rotate_left
                   ·intro w'
                    go_simp
                    with_reducible rfl
                   rotate_left
                   ·simp only [Act.put, List.setIfInBounds_toArray, List.set_cons_zero, List.set_cons_succ, i64_w, i32_w]
                    rfl
                   refine pure_ (i := 13) (N := some 82) (v := ?_) (a' := ?_) #[true, true, true, true, true, true, true, true, true, true, true, true, true, true, false] rfl rfl (any_of HT_.out (by kernel_rfl)) (fun _ _ _ h => h) (Or.inl ⟨by rfl, ?_⟩) ?_ ?_
                   rotate_left
                   ·intro w'
                    go_simp
                    with_reducible rfl
                   rotate_left
                   ·simp only [Act.put, List.setIfInBounds_toArray, List.set_cons_zero, List.set_cons_succ, i64_w, i32_w]
                    rfl
                   refine pure_ (i := 14) (N := some 83) (v := ?_) (a' := ?_) #[true, true, true, true, true, true, true, true, true, true, true, true, true, true, true] rfl rfl (any_of HT_.out (by kernel_rfl)) (fun _ _ _ h => h) (Or.inl ⟨by rfl, ?_⟩) ?_ ?_
                   rotate_left
                   ·intro w'
                    go_simp
                    with_reducible rfl
                   rotate_left
                   ·simp only [Act.put, List.setIfInBounds_toArray, List.set_cons_zero, List.set_cons_succ, i64_w, i32_w]
                    rfl
                   refine done_ (done_of HT_.out (by kernel_rfl)) ?_
                   try go_wp2
                   go_roundg k2
                   case measure => have := HJ3.out; have := HK2.out; omega
                   case rel => exact ⟨(wrap64 (x11_2 + 1)), (by first | rfl | (simp; done) | (simp [*]; done)), H', ⟨by have := HJ3.out; have := HK2.out; omega⟩, ⟨by (with_reducible repeat (first | apply Kd.R_alloc | apply Kd.R_drewN | apply Kd.R_drew)); exact HO_10.out⟩, ⟨by (with_reducible repeat (first | refine blk_drewN ?_ _ | refine blk_drew ?_ | refine blk_alloc ?_ _)); exact BK315.out⟩, ⟨by repeat (first | (with_reducible first | exact HB.out | apply below_alloc | apply pw_below_drewN | apply below_drew1 | refine below_set ?_ GE315.out) | exact HB.out)⟩⟩
                ·rw [if_neg c36] at H
                 exact absurd H (by simp)
               ·rw [if_neg c35] at H
                have c35b0 : decide (x11_2 < (t323.length : Int)) = false := decide_eq_false c35
                clear c35
                by_cases c41 : 0 ≤ ji23
                ·rw [if_pos c41] at H
                 have c41b0 : decide (0 ≤ ji23) = true := decide_eq_true c41
                 clear c41
                 by_cases c42 : ji23 < ((rd_LIns l0_3 (ji19)).length : Int)
                 ·rw [if_pos c42] at H
                  have c42b0 : decide (ji23 < ((rd_LIns l0_3 (ji19)).length : Int)) = true := decide_eq_true c42
                  clear c42
                  replace H := Option.bind_eq_some_iff.mp H
                  obtain ⟨t329, A430, H⟩ := H
                  replace H : (cubbylaw07_IrBlocks.l1 k2 (rd_LIns l0_3 (ji19)) ji23 t323 t329 0 a0_0 a0_1 a0_2 l0_3) = some r := H
                  have A43 := Aside0.mk A430
                  clear A430
                  have H' := Aside0.mk H
                  clear H
                  obtain ⟨Ao44, co44, eo44⟩ := Kd.R_slice HO_10.out
                  subst eo44
                  have p328 : 0 ≤ (ji23 : Int) := of_decide_eq_true (by first | (with_reducible assumption) | assumption)
                  have q328 : ji23 < ((rd_LIns l0_3 (ji19)).length : Int) := of_decide_eq_true (by first | (with_reducible assumption) | assumption)
                  obtain ⟨ad328, A328_5, c328_5, e328, hx328_0, hx328_1, hx328_2, hx328_3, hx328_4, hx328_5, hl328_5, hi328_5⟩ := at_TIns HR319_0.out ji23 p328 q328
                  obtain rfl : ad320 = ad328 := (by injection e328)
                  replace hx328_0 := (HB.out.cell (World.block_lt_of_cell? w _ hx328_0)).trans hx328_0
                  replace hx328_1 := (HB.out.cell (World.block_lt_of_cell? w _ hx328_1)).trans hx328_1
                  replace hx328_2 := (HB.out.cell (World.block_lt_of_cell? w _ hx328_2)).trans hx328_2
                  replace hx328_3 := (HB.out.cell (World.block_lt_of_cell? w _ hx328_3)).trans hx328_3
                  replace hx328_4 := (HB.out.cell (World.block_lt_of_cell? w _ hx328_4)).trans hx328_4
                  replace hx328_5 := (HB.out.cell (World.block_lt_of_cell? w _ hx328_5)).trans hx328_5
                  have HR328_5 := Aside0.mk hi328_5
                  have HC328_5 := Aside0.mk hl328_5
                  clear hi328_5 hl328_5
                  replace p328 := eq_true p328
                  replace q328 := eq_true q328
                  go_wp2_with (first | ((with_reducible refine gate_callee (f := 10) rfl ?_); refine goesL_ (some 88) rfl rfl Tryd.func10 (by kernel_rfl) rfl #[.agg #[.int .i64 ((rd_TIns (rd_LIns l0_3 (ji19)) ji23).f0), .int .i64 ((rd_TIns (rd_LIns l0_3 (ji19)) ji23).f1), .int .i64 ((rd_TIns (rd_LIns l0_3 (ji19)) ji23).f2), .int .i64 ((rd_TIns (rd_LIns l0_3 (ji19)) ji23).f3), .string ((rd_TIns (rd_LIns l0_3 (ji19)) ji23).f4), .slice A328_5 ((rd_TIns (rd_LIns l0_3 (ji19)) ji23).f5).length c328_5]] rfl (by (try simp only [List.map_toArray, List.map_cons, List.map_nil]); first | done | (simp only [hji19, hji23]; rfl) | rfl | (simp only [List.length_drop, List.length_take]; rfl)) ?_; (with_reducible refine (ir_Uses.calls k2 ((rd_TIns (rd_LIns l0_3 (ji19)) ji23).f0) ((rd_TIns (rd_LIns l0_3 (ji19)) ji23).f1) ((rd_TIns (rd_LIns l0_3 (ji19)) ji23).f2) ((rd_TIns (rd_LIns l0_3 (ji19)) ji23).f3) ((rd_TIns (rd_LIns l0_3 (ji19)) ji23).f4) _ _ ((rd_TIns (rd_LIns l0_3 (ji19)) ji23).f5) t329 _ ?side1 ?side2 A43.out (hL := ?side99)).mono ?_); (case side1 => repeat (first | exact (Kd.C_below HR328_5.out HB.out) | (with_reducible refine Kd.C_alloc ?_ _) | (with_reducible refine Kd.C_drewN ?_ _) | (with_reducible refine Kd.C_drew ?_))); (case side2 => exact HC328_5.out); (case side99 => exact LaidW.below HLd.out (by repeat (first | (with_reducible first | exact HB.out | apply below_alloc | apply pw_below_drewN | apply below_drew1 | refine below_set ?_ GE315.out) | exact HB.out))); rintro e w45 ⟨v330, rfl, ho0, hb⟩; refine ⟨_, rfl, ?_⟩; have n0_ := Aside0.mk (Kd.R_elder' (by (with_reducible repeat (first | apply Kd.R_alloc | apply Kd.R_drewN | apply Kd.R_drew)); exact HO_10.out) (Kd.R_base ho0) hb); have n1_ := Aside0.mk (Kd.R_lower (Kd.R_new' ho0 (Kd.R_lt (by (with_reducible repeat (first | apply Kd.R_alloc | apply Kd.R_drewN | apply Kd.R_drew)); exact HO_10.out))) (below_size (by repeat (first | (with_reducible first | exact HB.out | apply below_alloc | apply pw_below_drewN | apply below_drew1 | refine below_set ?_ GE315.out) | exact HB.out)))); have n2_ := Aside0.mk (blk_below (g := gb315) (o := .cells #[.string a0_0, .int .i64 a0_1, .int .i64 a0_2, .slice (some ad319) l0_3.length c0_3] 34 (0, 0)) (by (with_reducible repeat (first | refine blk_drewN ?_ _ | refine blk_drew ?_ | refine blk_alloc ?_ _)); exact BK315.out) hb); have n3_ := Aside0.mk (below_step (by repeat (first | (with_reducible first | exact HB.out | apply below_alloc | apply pw_below_drewN | apply below_drew1 | refine below_set ?_ GE315.out) | exact HB.out)) hb); clear HO_10; clear BK315; clear HB; have HO_10 := n0_; have HO331 := n1_; have BK315 := n2_; have HB := n3_; clear n0_ n1_ n2_ n3_; (try clear hb); (try clear hb2); (try clear hk); (try clear hi); (try clear ho0)))
                  go_loopg [13] k2 (fun kq v13 w' => ∃ (x13_3 : Int), v13 = .int .i64 x13_3 ∧ Aside0 (cubbylaw07_IrBlocks.l1 kq (rd_LIns l0_3 (ji19)) ji23 t323 t329 x13_3 a0_0 a0_1 a0_2 l0_3 = some r) ∧ Aside0 (kq ≤ k2) ∧ Aside0 (Kd.R (Kd.int .i64) 3 w' w.heap.size (fun k_ => some k_ ≠ (v330 : Value).ownBlock) (.slice Ao44 t323.length co44) t323) ∧ Aside0 (Kd.R (Kd.int .i64) 3 w' w.heap.size (fun k_ => some k_ ≠ ((.slice Ao44 t323.length co44) : Value).ownBlock) v330 t329) ∧ Aside0 (w'.heap[gb315]? = some (.cells #[.string a0_0, .int .i64 a0_1, .int .i64 a0_2, (.slice (some ad319) l0_3.length c0_3)] 34 (0, 0))) ∧ Aside0 (Below w.heap.size w w'))
                  case atStart => exact ⟨(0), (by first | rfl | (simp; done) | (simp [*]; done)), H', ⟨Nat.le_refl _⟩, ⟨by (with_reducible repeat (first | apply Kd.R_alloc | apply Kd.R_drewN | apply Kd.R_drew)); exact Kd.R_mono HO_10.out (fun _ hk => hk.2)⟩, ⟨by (with_reducible repeat (first | apply Kd.R_alloc | apply Kd.R_drewN | apply Kd.R_drew)); exact Kd.R_mono HO331.out (fun _ hk => hk.2)⟩, ⟨by (with_reducible repeat (first | refine blk_drewN ?_ _ | refine blk_drew ?_ | refine blk_alloc ?_ _)); exact BK315.out⟩, ⟨by repeat (first | (with_reducible first | exact HB.out | apply below_alloc | apply pw_below_drewN | apply below_drew1 | refine below_set ?_ GE315.out) | exact HB.out)⟩⟩
                  case round =>
                   clear H'
                   try clear c1
                   try clear c2
                   try clear p2
                   try clear c3
                   try clear p3
                   try clear q3
                   try clear hx3
                   try clear c4
                   try clear p6
                   try clear c7
                   try clear c8
                   try clear c10
                   try clear c13
                   try clear c14
                   try clear c16
                   try clear c16b0
                   try clear c16b1
                   try clear c17
                   try clear c17b0
                   try clear c17b1
                   try clear c18
                   try clear c18b0
                   try clear c18b1
                   try clear c18b2
                   try clear c20
                   try clear c20b0
                   try clear c21
                   try clear c21b0
                   try clear c22
                   try clear c22b0
                   try clear c22b1
                   try clear c22b2
                   try clear c24
                   try clear c24b0
                   try clear c25
                   try clear c25b0
                   try clear c27
                   try clear c27b0
                   try clear c27b1
                   try clear c27b2
                   try clear c28
                   try clear c29
                   try clear c31
                   try clear p31
                   try clear q31
                   try clear hx31
                   try clear c32
                   try clear p32
                   try clear q32
                   try clear hx32
                   try clear c35
                   try clear c35b0
                   try clear c36
                   try clear c36b0
                   try clear c37
                   try clear c37b0
                   try clear c38
                   try clear c38b0
                   try clear c41
                   try clear c41b0
                   try clear c42
                   try clear c42b0
                   try clear hcz10_0
                   try clear hcz10_1
                   try clear hcz10_2
                   try clear hcz10_3
                   try clear hcz12_0
                   try clear hcz12_1
                   try clear hcz12_2
                   try clear hcz12_3
                   try clear hcz29_0
                   try clear hcz29_1
                   try clear hcz29_2
                   try clear hcz29_3
                   try clear hcz31_0
                   try clear hcz31_1
                   try clear hcz31_2
                   try clear hcz31_3
                   try clear hcz8_0
                   try clear hcz8_1
                   try clear hcz8_2
                   try clear hcz8_3
                   try clear hfz10_0
                   try clear hfz10_1
                   try clear hfz10_2
                   try clear hfz10_3
                   try clear hfz12_0
                   try clear hfz12_1
                   try clear hfz12_2
                   try clear hfz12_3
                   try clear hfz29_0
                   try clear hfz29_1
                   try clear hfz29_2
                   try clear hfz29_3
                   try clear hfz31_0
                   try clear hfz31_1
                   try clear hfz31_2
                   try clear hfz31_3
                   try clear hfz8_0
                   try clear hfz8_1
                   try clear hfz8_2
                   try clear hfz8_3
                   try clear hx319_0
                   try clear hx320_0
                   try clear hx320_1
                   try clear hx320_2
                   try clear hx320_3
                   try clear hx320_4
                   try clear hx320_5
                   try clear hx322_0
                   try clear hx322_1
                   try clear hx322_2
                   try clear hx322_3
                   try clear hx322_4
                   try clear hx322_5
                   try clear hx326_0
                   try clear hx327_0
                   try clear hx328_0
                   try clear hx328_1
                   try clear hx328_2
                   try clear hx328_3
                   try clear hx328_4
                   try clear hx328_5
                   try clear p2
                   try clear p3
                   try clear p31
                   try clear p319
                   try clear p32
                   try clear p320
                   try clear p322
                   try clear p326
                   try clear p327
                   try clear p328
                   try clear p6
                   try clear q3
                   try clear q31
                   try clear q319
                   try clear q32
                   try clear q320
                   try clear q322
                   try clear q326
                   try clear q327
                   try clear q328
                   obtain ⟨x13_3, rfl, HA, HK3, HO_10, HO_12, BK315, HB⟩ := hrel
                   cases gk with
                   | zero => exact absurd HA.out (by simp [cubbylaw07_IrBlocks.l1])
                   | succ k3 =>
                    have H := HA.out
                    clear HA
                    simp only [cubbylaw07_IrBlocks.l1] at H
                    by_cases c46 : x13_3 < (t329.length : Int)
                    ·rw [if_pos c46] at H
                     have c46b0 : decide (x13_3 < (t329.length : Int)) = true := decide_eq_true c46
                     clear c46
                     by_cases c47 : 0 ≤ x13_3
                     ·rw [if_pos c47] at H
                      have c47b0 : decide (0 ≤ x13_3) = true := decide_eq_true c47
                      clear c47
                      by_cases c48 : (rd t329 x13_3) < 0
                      ·rw [if_pos c48] at H
                       have c48b0 : decide ((rd t329 x13_3) < 0) = true := decide_eq_true c48
                       clear c48
                       exact absurd ((Option.some.inj H).trans HRt.out) (by decide)
                      ·rw [if_neg c48] at H
                       have c48b0 : decide ((rd t329 x13_3) < 0) = false := decide_eq_false c48
                       clear c48
                       by_cases c49 : (rd t329 x13_3) ≥ a0_2
                       ·rw [if_pos c49] at H
                        have c49b0 : decide (a0_2 ≤ (rd t329 x13_3)) = true := decide_eq_true c49
                        clear c49
                        exact absurd ((Option.some.inj H).trans HRt.out) (by decide)
                       ·rw [if_neg c49] at H
                        have c49b0 : decide (a0_2 ≤ (rd t329 x13_3)) = false := decide_eq_false c49
                        clear c49
                        have H' := Aside0.mk H
                        clear H
                        obtain ⟨Ao50, co50, eo50⟩ := Kd.R_slice HO_12.out
                        subst eo50
                        try go_wp2
                        have n0_ := Aside0.mk (Kd.R_drew HO_10.out)
                        have n1_ := Aside0.mk (Kd.R_drew HO_12.out)
                        have n2_ := Aside0.mk (blk_drew BK315.out)
                        have n3_ := Aside0.mk (below_drew1 HB.out)
                        clear HO_10
                        clear HO_12
                        clear BK315
                        clear HB
                        have HO_10 := n0_
                        have HO_12 := n1_
                        have BK315 := n2_
                        have HB := n3_
                        clear n0_ n1_ n2_ n3_
                        have p332 : 0 ≤ (x13_3 : Int) := of_decide_eq_true (by first | (with_reducible assumption) | assumption)
                        have q332 : x13_3 < (t329.length : Int) := of_decide_eq_true (by first | (with_reducible assumption) | assumption)
                        obtain ⟨ad332, e332, hx332_0⟩ := Kd.at_int (Kd.R_reads' HO_12.out).2.2 x13_3 p332 q332
                        cases e332
                        replace p332 := eq_true p332
                        replace q332 := eq_true q332
                        have p333 : 0 ≤ (x13_3 : Int) := of_decide_eq_true (by first | (with_reducible assumption) | assumption)
                        have q333 : x13_3 < (t329.length : Int) := of_decide_eq_true (by first | (with_reducible assumption) | assumption)
                        obtain ⟨ad333, e333, hx333_0⟩ := Kd.at_int (Kd.R_reads' HO_12.out).2.2 x13_3 p333 q333
                        obtain rfl : ad332 = ad333 := (by injection e333)
                        replace p333 := eq_true p333
                        replace q333 := eq_true q333
                        refine start_ (n := 14) (S := fun w' => w'.cell? ⟨gb315, 0, none⟩ = some (.string a0_0) ∧ w'.cell? ⟨gb315, 1, none⟩ = some (.int .i64 a0_1) ∧ w'.cell? ⟨gb315, 2, none⟩ = some (.int .i64 a0_2) ∧ w'.cell? ⟨gb315, 3, none⟩ = some (.slice (some ad319) l0_3.length c0_3) ∧ w'.cell? (ad332.add (x13_3).toNat) = some (.int .i64 (rd t329 x13_3)) ∧ w'.cell? (ad332.add (x13_3).toNat) = some (.int .i64 (rd t329 x13_3))) (ds := []) #[false, false, false, false, false, false, false, false, false, false, false, false, false, false] (by kernel_rfl) rfl rfl ⟨(blk_cell BK315.out 0).trans rfl, (blk_cell BK315.out 1).trans rfl, (blk_cell BK315.out 2).trans rfl, (blk_cell BK315.out 3).trans rfl, hx332_0, hx333_0⟩ (fun hHeld => ?_); refine with_tabW cubbylaw07_IrBlocks.tab22 cubbylaw07_IrBlocks.bits22 (fun HT_ HW_ => ?_)
                        generalize wr.drew = w51 at HO_10 HO_12 BK315 HB hx332_0 hx333_0 hHeld ⊢
                        refine pure_ (i := 0) (N := some 95) (v := ?_) (a' := ?_) #[true, false, false, false, false, false, false, false, false, false, false, false, false, false] rfl rfl (any_of HT_.out (by kernel_rfl)) (fun _ _ _ h => h) (Or.inl ⟨by rfl, ?_⟩) ?_ ?_
                        rotate_left
                        ·intro w'
                         go_simp
                         with_reducible rfl
                        rotate_left
                        ·simp only [Act.put, List.setIfInBounds_toArray, List.set_cons_zero, List.set_cons_succ, i64_w, i32_w]
                         rfl
                        refine pure_ (i := 1) (N := some 96) (v := ?_) (a' := ?_) #[true, true, false, false, false, false, false, false, false, false, false, false, false, false] rfl rfl (any_of HT_.out (by kernel_rfl)) (fun _ _ _ h => h) (Or.inl ⟨by rfl, ?_⟩) ?_ ?_
                        rotate_left
                        ·intro w'
                         go_simp
                         with_reducible rfl
                        rotate_left
                        ·simp only [Act.put, List.setIfInBounds_toArray, List.set_cons_zero, List.set_cons_succ, i64_w, i32_w]
                         rfl
                        refine pure_ (i := 2) (N := some 97) (v := ?_) (a' := ?_) #[true, true, true, false, false, false, false, false, false, false, false, false, false, false] rfl rfl (any_of HT_.out (by kernel_rfl)) (fun _ _ _ h => h) (Or.inl ⟨by rfl, ?_⟩) ?_ ?_
                        rotate_left
                        ·intro w'
                         go_simp
                         with_reducible rfl
                        rotate_left
                        ·simp only [Act.put, List.setIfInBounds_toArray, List.set_cons_zero, List.set_cons_succ, i64_w, i32_w]
                         rfl
                        refine take_ (i := 3) (N := some 98) (v := ?_) (a' := ?_) #[true, true, true, true, false, false, false, false, false, false, false, false, false, false] rfl rfl (take_ofW HT_.out HW_.out (by kernel_rfl)) (fun _ _ _ h => h) (Or.inl ⟨by rfl, ?_⟩) hHeld ?_ ?_
                        rotate_left
                        ·rintro w' ⟨s0, s1, s2, s3, s4, s5⟩
                         go_simp
                         with_reducible rfl
                        rotate_left
                        ·simp only [Act.put, List.setIfInBounds_toArray, List.set_cons_zero, List.set_cons_succ, i64_w, i32_w]
                         rfl
                        refine pure_ (i := 4) (N := some 99) (v := ?_) (a' := ?_) #[true, true, true, true, true, false, false, false, false, false, false, false, false, false] rfl rfl (any_of HT_.out (by kernel_rfl)) (fun _ _ _ h => h) (Or.inl ⟨by rfl, ?_⟩) ?_ ?_
                        rotate_left
                        ·intro w'
                         go_simp
                         with_reducible rfl
                        rotate_left
                        ·simp only [Act.put, List.setIfInBounds_toArray, List.set_cons_zero, List.set_cons_succ, i64_w, i32_w]
                         rfl
                        refine pure_ (i := 5) (N := some 100) (v := ?_) (a' := ?_) #[true, true, true, true, true, true, false, false, false, false, false, false, false, false] rfl rfl (any_of HT_.out (by kernel_rfl)) (fun _ _ _ h => h) (Or.inl ⟨by rfl, ?_⟩) ?_ ?_
                        rotate_left
                        ·intro w'
                         go_simp
                         with_reducible rfl
                        rotate_left
                        ·simp only [Act.put, List.setIfInBounds_toArray, List.set_cons_zero, List.set_cons_succ, i64_w, i32_w]
                         rfl
                        refine pure_ (i := 6) (N := some 101) (v := ?_) (a' := ?_) #[true, true, true, true, true, true, true, false, false, false, false, false, false, false] rfl rfl (any_of HT_.out (by kernel_rfl)) (fun _ _ _ h => h) (Or.inl ⟨by rfl, ?_⟩) ?_ ?_
                        rotate_left
                        ·intro w'
                         go_simp
                         with_reducible rfl
                        rotate_left
                        ·simp only [Act.put, List.setIfInBounds_toArray, List.set_cons_zero, List.set_cons_succ, i64_w, i32_w]
                         rfl
                        refine pure_ (i := 7) (N := some 102) (v := ?_) (a' := ?_) #[true, true, true, true, true, true, true, true, false, false, false, false, false, false] rfl rfl (any_of HT_.out (by kernel_rfl)) (fun _ _ _ h => h) (Or.inl ⟨by rfl, ?_⟩) ?_ ?_
                        rotate_left
                        ·intro w'
                         go_simp
                         with_reducible rfl
                        rotate_left
                        ·simp only [Act.put, List.setIfInBounds_toArray, List.set_cons_zero, List.set_cons_succ, i64_w, i32_w]
                         rfl
                        refine pure_ (i := 8) (N := some 103) (v := ?_) (a' := ?_) #[true, true, true, true, true, true, true, true, true, false, false, false, false, false] rfl rfl (any_of HT_.out (by kernel_rfl)) (fun _ _ _ h => h) (Or.inl ⟨by rfl, ?_⟩) ?_ ?_
                        rotate_left
                        ·intro w'
                         go_simp
                         with_reducible rfl
                        rotate_left
                        ·simp only [Act.put, List.setIfInBounds_toArray, List.set_cons_zero, List.set_cons_succ, i64_w, i32_w]
                         rfl
                        refine pure_ (i := 10) (N := some 105) (v := ?_) (a' := ?_) #[true, true, true, true, true, true, true, true, true, false, true, false, false, false] rfl rfl (any_of HT_.out (by kernel_rfl)) (fun _ _ _ h => h) (Or.inl ⟨by rfl, ?_⟩) ?_ ?_
                        rotate_left
                        ·intro w'
                         go_simp
                         with_reducible rfl
                        rotate_left
                        ·simp only [Act.put, List.setIfInBounds_toArray, List.set_cons_zero, List.set_cons_succ, i64_w, i32_w]
                         rfl
                        refine take_ (i := 9) (N := some 104) (v := ?_) (a' := ?_) #[true, true, true, true, true, true, true, true, true, true, true, false, false, false] rfl rfl (take_ofW HT_.out HW_.out (by kernel_rfl)) (fun _ _ _ h => h) (Or.inl ⟨by rfl, ?_⟩) hHeld ?_ ?_
                        rotate_left
                        ·rintro w' ⟨s0, s1, s2, s3, s4, s5⟩
                         go_simp
                         with_reducible rfl
                        rotate_left
                        ·simp only [Act.put, List.setIfInBounds_toArray, List.set_cons_zero, List.set_cons_succ, i64_w, i32_w]
                         rfl
                        refine take_ (i := 11) (N := some 106) (v := ?_) (a' := ?_) #[true, true, true, true, true, true, true, true, true, true, true, true, false, false] rfl rfl (take_ofW HT_.out HW_.out (by kernel_rfl)) (fun _ _ _ h => h) (Or.inl ⟨by rfl, ?_⟩) hHeld ?_ ?_
                        rotate_left
                        ·rintro w' ⟨s0, s1, s2, s3, s4, s5⟩
                         go_simp
                         with_reducible rfl
                        rotate_left
                        ·simp only [Act.put, List.setIfInBounds_toArray, List.set_cons_zero, List.set_cons_succ, i64_w, i32_w]
                         rfl
                        refine pure_ (i := 12) (N := some 107) (v := ?_) (a' := ?_) #[true, true, true, true, true, true, true, true, true, true, true, true, true, false] rfl rfl (any_of HT_.out (by kernel_rfl)) (fun _ _ _ h => h) (Or.inl ⟨by rfl, ?_⟩) ?_ ?_
                        rotate_left
                        ·intro w'
                         go_simp
                         with_reducible rfl
                        rotate_left
                        ·simp only [Act.put, List.setIfInBounds_toArray, List.set_cons_zero, List.set_cons_succ, i64_w, i32_w]
                         rfl
                        refine pure_ (i := 13) (N := some 108) (v := ?_) (a' := ?_) #[true, true, true, true, true, true, true, true, true, true, true, true, true, true] rfl rfl (any_of HT_.out (by kernel_rfl)) (fun _ _ _ h => h) (Or.inl ⟨by rfl, ?_⟩) ?_ ?_
                        rotate_left
                        ·intro w'
                         go_simp
                         with_reducible rfl
                        rotate_left
                        ·simp only [Act.put, List.setIfInBounds_toArray, List.set_cons_zero, List.set_cons_succ, i64_w, i32_w]
                         rfl
                        refine done_ (done_of HT_.out (by kernel_rfl)) ?_
                        try go_wp2
                        go_roundg k3
                        case measure => have := HJ3.out; have := HK2.out; have := HK3.out; omega
                        case rel => exact ⟨(wrap64 (x13_3 + 1)), (by first | rfl | (simp; done) | (simp [*]; done)), H', ⟨by have := HJ3.out; have := HK2.out; have := HK3.out; omega⟩, ⟨by (with_reducible repeat (first | apply Kd.R_alloc | apply Kd.R_drewN | apply Kd.R_drew)); exact HO_10.out⟩, ⟨by (with_reducible repeat (first | apply Kd.R_alloc | apply Kd.R_drewN | apply Kd.R_drew)); exact HO_12.out⟩, ⟨by (with_reducible repeat (first | refine blk_drewN ?_ _ | refine blk_drew ?_ | refine blk_alloc ?_ _)); exact BK315.out⟩, ⟨by repeat (first | (with_reducible first | exact HB.out | apply below_alloc | apply pw_below_drewN | apply below_drew1 | refine below_set ?_ GE315.out) | exact HB.out)⟩⟩
                     ·rw [if_neg c47] at H
                      exact absurd H (by simp)
                    ·rw [if_neg c46] at H
                     have c46b0 : decide (x13_3 < (t329.length : Int)) = false := decide_eq_false c46
                     clear c46
                     by_cases c52 : 0 ≤ ji23
                     ·rw [if_pos c52] at H
                      have c52b0 : decide (0 ≤ ji23) = true := decide_eq_true c52
                      clear c52
                      by_cases c53 : ji23 < ((rd_LIns l0_3 (ji19)).length : Int)
                      ·rw [if_pos c53] at H
                       have c53b0 : decide (ji23 < ((rd_LIns l0_3 (ji19)).length : Int)) = true := decide_eq_true c53
                       clear c53
                       replace H := Option.bind_eq_some_iff.mp H
                       obtain ⟨t335, A540, H⟩ := H
                       replace H : (if t335 < a0_2 then (if (t323.length : Int) > 0 then (some true) else (if ji23 < (wrap64 (((rd_LIns l0_3 (ji19)).length : Int) - 1)) then (some true) else (some (((rd_TIns (rd_LIns l0_3 (ji19)) ji23).f0) == 14)))) else (some false)) = some r := H
                       have A54 := Aside0.mk A540
                       clear A540
                       by_cases c55 : t335 < a0_2
                       ·rw [if_pos c55] at H
                        have c55b0 : decide (t335 < a0_2) = true := decide_eq_true c55
                        clear c55
                        by_cases c56 : (t323.length : Int) > 0
                        ·rw [if_pos c56] at H
                         have c56b0 : decide (0 < (t323.length : Int)) = true := decide_eq_true c56
                         have c56b1 : decide (0 < t323.length) = true := decide_eq_true (by omega)
                         clear c56
                         obtain rfl := Option.some.inj H
                         obtain ⟨Ao57, co57, eo57⟩ := Kd.R_slice HO_12.out
                         subst eo57
                         try go_wp2
                         have n0_ := Aside0.mk (Kd.R_drew HO_10.out)
                         have n1_ := Aside0.mk (Kd.R_drew HO_12.out)
                         have n2_ := Aside0.mk (blk_drew BK315.out)
                         have n3_ := Aside0.mk (below_drew1 HB.out)
                         clear HO_10
                         clear HO_12
                         clear BK315
                         clear HB
                         have HO_10 := n0_
                         have HO_12 := n1_
                         have BK315 := n2_
                         have HB := n3_
                         clear n0_ n1_ n2_ n3_
                         have p334 : 0 ≤ (ji23 : Int) := of_decide_eq_true (by first | (with_reducible assumption) | assumption)
                         have q334 : ji23 < ((rd_LIns l0_3 (ji19)).length : Int) := of_decide_eq_true (by first | (with_reducible assumption) | assumption)
                         obtain ⟨ad334, A334_5, c334_5, e334, hx334_0, hx334_1, hx334_2, hx334_3, hx334_4, hx334_5, hl334_5, hi334_5⟩ := at_TIns HR319_0.out ji23 p334 q334
                         have hw334_5 := hx334_5
                         have hw334_4 := hx334_4
                         have hw334_3 := hx334_3
                         have hw334_2 := hx334_2
                         have hw334_1 := hx334_1
                         have hw334_0 := hx334_0
                         obtain rfl : ad320 = ad334 := (by injection e334)
                         replace hx334_0 := (HB.out.cell (World.block_lt_of_cell? w _ hx334_0)).trans hx334_0
                         replace hx334_1 := (HB.out.cell (World.block_lt_of_cell? w _ hx334_1)).trans hx334_1
                         replace hx334_2 := (HB.out.cell (World.block_lt_of_cell? w _ hx334_2)).trans hx334_2
                         replace hx334_3 := (HB.out.cell (World.block_lt_of_cell? w _ hx334_3)).trans hx334_3
                         replace hx334_4 := (HB.out.cell (World.block_lt_of_cell? w _ hx334_4)).trans hx334_4
                         replace hx334_5 := (HB.out.cell (World.block_lt_of_cell? w _ hx334_5)).trans hx334_5
                         have HR334_5 := Aside0.mk hi334_5
                         have HC334_5 := Aside0.mk hl334_5
                         clear hi334_5 hl334_5
                         replace p334 := eq_true p334
                         replace q334 := eq_true q334
                         refine start_ (n := 29) (S := fun w' => w'.cell? ⟨gb315, 0, none⟩ = some (.string a0_0) ∧ w'.cell? ⟨gb315, 1, none⟩ = some (.int .i64 a0_1) ∧ w'.cell? ⟨gb315, 2, none⟩ = some (.int .i64 a0_2) ∧ w'.cell? ⟨gb315, 3, none⟩ = some (.slice (some ad319) l0_3.length c0_3) ∧ w'.cell? (ad320.add ((ji23).toNat * 6)) = some (.int .i64 ((rd_TIns (rd_LIns l0_3 (ji19)) ji23).f0)) ∧ w'.cell? ⟨(ad320.add ((ji23).toNat * 6)).block, (ad320.add ((ji23).toNat * 6)).off + 1, none⟩ = some (.int .i64 ((rd_TIns (rd_LIns l0_3 (ji19)) ji23).f1)) ∧ w'.cell? ⟨(ad320.add ((ji23).toNat * 6)).block, (ad320.add ((ji23).toNat * 6)).off + 2, none⟩ = some (.int .i64 ((rd_TIns (rd_LIns l0_3 (ji19)) ji23).f2)) ∧ w'.cell? ⟨(ad320.add ((ji23).toNat * 6)).block, (ad320.add ((ji23).toNat * 6)).off + 3, none⟩ = some (.int .i64 ((rd_TIns (rd_LIns l0_3 (ji19)) ji23).f3)) ∧ w'.cell? ⟨(ad320.add ((ji23).toNat * 6)).block, (ad320.add ((ji23).toNat * 6)).off + 4, none⟩ = some (.string ((rd_TIns (rd_LIns l0_3 (ji19)) ji23).f4)) ∧ w'.cell? ⟨(ad320.add ((ji23).toNat * 6)).block, (ad320.add ((ji23).toNat * 6)).off + 5, none⟩ = some (.slice A334_5 ((rd_TIns (rd_LIns l0_3 (ji19)) ji23).f5).length c334_5)) (ds := []) #[false, false, false, false, false, false, false, false, false, false, false, false, false, false, false, false, false, false, false, false, false, false, false, false, false, false, false, false, false] (by kernel_rfl) rfl rfl ⟨(blk_cell BK315.out 0).trans rfl, (blk_cell BK315.out 1).trans rfl, (blk_cell BK315.out 2).trans rfl, (blk_cell BK315.out 3).trans rfl, ((HB.out.cell (World.block_lt_of_cell? w _ hw334_0)).trans hw334_0), ((HB.out.cell (World.block_lt_of_cell? w _ hw334_1)).trans hw334_1), ((HB.out.cell (World.block_lt_of_cell? w _ hw334_2)).trans hw334_2), ((HB.out.cell (World.block_lt_of_cell? w _ hw334_3)).trans hw334_3), ((HB.out.cell (World.block_lt_of_cell? w _ hw334_4)).trans hw334_4), ((HB.out.cell (World.block_lt_of_cell? w _ hw334_5)).trans hw334_5)⟩ (fun hHeld => ?_); refine with_tabW cubbylaw07_IrBlocks.tab24 cubbylaw07_IrBlocks.bits24 (fun HT_ HW_ => ?_)
                         generalize wr.drew = w58 at HO_10 HO_12 BK315 HB HR334_5 hx334_0 hx334_1 hx334_2 hx334_3 hx334_4 hx334_5 hHeld ⊢
                         refine pure_ (i := 0) (N := some 109) (v := ?_) (a' := ?_) #[true, false, false, false, false, false, false, false, false, false, false, false, false, false, false, false, false, false, false, false, false, false, false, false, false, false, false, false, false] rfl rfl (any_of HT_.out (by kernel_rfl)) (fun _ _ _ h => h) (Or.inl ⟨by rfl, ?_⟩) ?_ ?_
                         rotate_left
                         ·intro w'
                          go_simp
                          with_reducible rfl
                         rotate_left
                         ·simp only [Act.put, List.setIfInBounds_toArray, List.set_cons_zero, List.set_cons_succ, i64_w, i32_w]
                          rfl
                         refine pure_ (i := 1) (N := some 110) (v := ?_) (a' := ?_) #[true, true, false, false, false, false, false, false, false, false, false, false, false, false, false, false, false, false, false, false, false, false, false, false, false, false, false, false, false] rfl rfl (any_of HT_.out (by kernel_rfl)) (fun _ _ _ h => h) (Or.inl ⟨by rfl, ?_⟩) ?_ ?_
                         rotate_left
                         ·intro w'
                          go_simp
                          with_reducible rfl
                         rotate_left
                         ·simp only [Act.put, List.setIfInBounds_toArray, List.set_cons_zero, List.set_cons_succ, i64_w, i32_w]
                          rfl
                         refine pure_ (i := 2) (N := some 111) (v := ?_) (a' := ?_) #[true, true, true, false, false, false, false, false, false, false, false, false, false, false, false, false, false, false, false, false, false, false, false, false, false, false, false, false, false] rfl rfl (any_of HT_.out (by kernel_rfl)) (fun _ _ _ h => h) (Or.inl ⟨by rfl, ?_⟩) ?_ ?_
                         rotate_left
                         ·intro w'
                          go_simp
                          with_reducible rfl
                         rotate_left
                         ·simp only [Act.put, List.setIfInBounds_toArray, List.set_cons_zero, List.set_cons_succ, i64_w, i32_w]
                          rfl
                         refine pure_ (i := 5) (N := some 114) (v := ?_) (a' := ?_) #[true, true, true, false, false, true, false, false, false, false, false, false, false, false, false, false, false, false, false, false, false, false, false, false, false, false, false, false, false] rfl rfl (any_of HT_.out (by kernel_rfl)) (fun _ _ _ h => h) (Or.inl ⟨by rfl, ?_⟩) ?_ ?_
                         rotate_left
                         ·intro w'
                          go_simp
                          with_reducible rfl
                         rotate_left
                         ·simp only [Act.put, List.setIfInBounds_toArray, List.set_cons_zero, List.set_cons_succ, i64_w, i32_w]
                          rfl
                         refine take_ (i := 3) (N := some 112) (v := ?_) (a' := ?_) #[true, true, true, true, false, true, false, false, false, false, false, false, false, false, false, false, false, false, false, false, false, false, false, false, false, false, false, false, false] rfl rfl (take_ofW HT_.out HW_.out (by kernel_rfl)) (fun _ _ _ h => h) (Or.inl ⟨by rfl, ?_⟩) hHeld ?_ ?_
                         rotate_left
                         ·rintro w' ⟨s0, s1, s2, s3, s4, s5, s6, s7, s8, s9⟩
                          go_simp
                          with_reducible rfl
                         rotate_left
                         ·simp only [Act.put, List.setIfInBounds_toArray, List.set_cons_zero, List.set_cons_succ, i64_w, i32_w]
                          rfl
                         refine take_ (i := 6) (N := some 115) (v := ?_) (a' := ?_) #[true, true, true, true, false, true, true, false, false, false, false, false, false, false, false, false, false, false, false, false, false, false, false, false, false, false, false, false, false] rfl rfl (take_ofW HT_.out HW_.out (by kernel_rfl)) (fun _ _ _ h => h) (Or.inl ⟨by rfl, ?_⟩) hHeld ?_ ?_
                         rotate_left
                         ·rintro w' ⟨s0, s1, s2, s3, s4, s5, s6, s7, s8, s9⟩
                          go_simp
                          with_reducible rfl
                         rotate_left
                         ·simp only [Act.put, List.setIfInBounds_toArray, List.set_cons_zero, List.set_cons_succ, i64_w, i32_w]
                          rfl
                         refine one_ (i := 4) (N := some 113) #[true, true, true, true, true, true, true, false, false, false, false, false, false, false, false, false, false, false, false, false, false, false, false, false, false, false, false, false, false] rfl rfl (one_of HT_.out (by kernel_rfl)) (by decide) (fun K hK => ?_)
                         refine goes_ Tryd.func12 (by kernel_rfl) rfl #[.agg #[.int .i64 ((rd_TIns (rd_LIns l0_3 (ji19)) ji23).f0), .int .i64 ((rd_TIns (rd_LIns l0_3 (ji19)) ji23).f1), .int .i64 ((rd_TIns (rd_LIns l0_3 (ji19)) ji23).f2), .int .i64 ((rd_TIns (rd_LIns l0_3 (ji19)) ji23).f3), .string ((rd_TIns (rd_LIns l0_3 (ji19)) ji23).f4), .slice A334_5 ((rd_TIns (rd_LIns l0_3 (ji19)) ji23).f5).length c334_5]] (by rfl) rfl rfl (by (try simp only [List.map_toArray, List.map_cons, List.map_nil]); first | done | (simp only [hji19, hji23]; rfl) | rfl | (simp only [List.length_drop, List.length_take]; rfl)) ?_
                         with_reducible refine (ir_Def.calls ((rd_TIns (rd_LIns l0_3 (ji19)) ji23).f0) ((rd_TIns (rd_LIns l0_3 (ji19)) ji23).f1) ((rd_TIns (rd_LIns l0_3 (ji19)) ji23).f2) ((rd_TIns (rd_LIns l0_3 (ji19)) ji23).f3) ((rd_TIns (rd_LIns l0_3 (ji19)) ji23).f4) _ _ ((rd_TIns (rd_LIns l0_3 (ji19)) ji23).f5) t335 _ ?side1 ?side2 A54.out (hL := ?side99)).mono ?_
                         (case side1 => repeat (first | exact (Kd.C_below HR334_5.out HB.out) | (with_reducible refine Kd.C_alloc ?_ _) | (with_reducible refine Kd.C_drewN ?_ _) | (with_reducible refine Kd.C_drew ?_)))
                         (case side2 => exact HC334_5.out)
                         (case side99 => exact LaidW.below HLd.out (by repeat (first | (with_reducible first | exact HB.out | apply below_alloc | apply pw_below_drewN | apply below_drew1 | refine below_set ?_ GE315.out) | exact HB.out)))
                         rintro e w59 ⟨rfl, hb⟩
                         refine ⟨_, rfl, ?_⟩
                         have n0_ := Aside0.mk (Kd.R_below (by (with_reducible repeat (first | apply Kd.R_alloc | apply Kd.R_drewN | apply Kd.R_drew)); exact HO_10.out) hb)
                         have n1_ := Aside0.mk (Kd.R_below (by (with_reducible repeat (first | apply Kd.R_alloc | apply Kd.R_drewN | apply Kd.R_drew)); exact HO_12.out) hb)
                         have n2_ := Aside0.mk (blk_below (g := gb315) (o := .cells #[.string a0_0, .int .i64 a0_1, .int .i64 a0_2, .slice (some ad319) l0_3.length c0_3] 34 (0, 0)) (by (with_reducible repeat (first | refine blk_drewN ?_ _ | refine blk_drew ?_ | refine blk_alloc ?_ _)); exact BK315.out) hb)
                         have n3_ := Aside0.mk (below_step (by repeat (first | (with_reducible first | exact HB.out | apply below_alloc | apply pw_below_drewN | apply below_drew1 | refine below_set ?_ GE315.out) | exact HB.out)) hb)
                         clear HO_10
                         clear HO_12
                         clear BK315
                         clear HB
                         have HO_10 := n0_
                         have HO_12 := n1_
                         have BK315 := n2_
                         have HB := n3_
                         clear n0_ n1_ n2_ n3_
                         (try clear hb)
                         (try clear hb2)
                         (try clear hk)
                         (try clear hi)
                         refine hK.out _ _ ⟨(blk_cell BK315.out 0).trans rfl, (blk_cell BK315.out 1).trans rfl, (blk_cell BK315.out 2).trans rfl, (blk_cell BK315.out 3).trans rfl, ((HB.out.cell (World.block_lt_of_cell? w _ hw334_0)).trans hw334_0), ((HB.out.cell (World.block_lt_of_cell? w _ hw334_1)).trans hw334_1), ((HB.out.cell (World.block_lt_of_cell? w _ hw334_2)).trans hw334_2), ((HB.out.cell (World.block_lt_of_cell? w _ hw334_3)).trans hw334_3), ((HB.out.cell (World.block_lt_of_cell? w _ hw334_4)).trans hw334_4), ((HB.out.cell (World.block_lt_of_cell? w _ hw334_5)).trans hw334_5)⟩ (fun hHeld => ?_)
                         clear hK K
                         refine norm_ (a' := ?_) ?_ ?_
                         rotate_left
                         ·show Act.put _ (some 113) _ = _
                          simp only [Act.put, List.setIfInBounds_toArray, List.set_cons_zero, List.set_cons_succ, i64_w, i32_w]
                          rfl
                         refine pure_ (i := 7) (N := some 116) (v := ?_) (a' := ?_) #[true, true, true, true, true, true, true, true, false, false, false, false, false, false, false, false, false, false, false, false, false, false, false, false, false, false, false, false, false] rfl rfl (any_of HT_.out (by kernel_rfl)) (fun _ _ _ h => h) (Or.inl ⟨by rfl, ?_⟩) ?_ ?_
                         rotate_left
                         ·intro w'
                          go_simp
                          with_reducible rfl
                         rotate_left
                         ·simp only [Act.put, List.setIfInBounds_toArray, List.set_cons_zero, List.set_cons_succ, i64_w, i32_w]
                          rfl
                         refine pure_ (i := 8) (N := some 117) (v := ?_) (a' := ?_) #[true, true, true, true, true, true, true, true, true, false, false, false, false, false, false, false, false, false, false, false, false, false, false, false, false, false, false, false, false] rfl rfl (any_of HT_.out (by kernel_rfl)) (fun _ _ _ h => h) (Or.inl ⟨by rfl, ?_⟩) ?_ ?_
                         rotate_left
                         ·intro w'
                          go_simp
                          with_reducible rfl
                         rotate_left
                         ·simp only [Act.put, List.setIfInBounds_toArray, List.set_cons_zero, List.set_cons_succ, i64_w, i32_w]
                          rfl
                         refine pure_ (i := 9) (N := some 118) (v := ?_) (a' := ?_) #[true, true, true, true, true, true, true, true, true, true, false, false, false, false, false, false, false, false, false, false, false, false, false, false, false, false, false, false, false] rfl rfl (any_of HT_.out (by kernel_rfl)) (fun _ _ _ h => h) (Or.inl ⟨by rfl, ?_⟩) ?_ ?_
                         rotate_left
                         ·intro w'
                          go_simp
                          with_reducible rfl
                         rotate_left
                         ·simp only [Act.put, List.setIfInBounds_toArray, List.set_cons_zero, List.set_cons_succ, i64_w, i32_w]
                          rfl
                         refine pure_ (i := 10) (N := some 119) (v := ?_) (a' := ?_) #[true, true, true, true, true, true, true, true, true, true, true, false, false, false, false, false, false, false, false, false, false, false, false, false, false, false, false, false, false] rfl rfl (any_of HT_.out (by kernel_rfl)) (fun _ _ _ h => h) (Or.inl ⟨by rfl, ?_⟩) ?_ ?_
                         rotate_left
                         ·intro w'
                          go_simp
                          with_reducible rfl
                         rotate_left
                         ·simp only [Act.put, List.setIfInBounds_toArray, List.set_cons_zero, List.set_cons_succ, i64_w, i32_w]
                          rfl
                         refine pure_ (i := 11) (N := some 120) (v := ?_) (a' := ?_) #[true, true, true, true, true, true, true, true, true, true, true, true, false, false, false, false, false, false, false, false, false, false, false, false, false, false, false, false, false] rfl rfl (any_of HT_.out (by kernel_rfl)) (fun _ _ _ h => h) (Or.inl ⟨by rfl, ?_⟩) ?_ ?_
                         rotate_left
                         ·intro w'
                          go_simp
                          with_reducible rfl
                         rotate_left
                         ·simp only [Act.put, List.setIfInBounds_toArray, List.set_cons_zero, List.set_cons_succ, i64_w, i32_w]
                          rfl
                         refine pure_ (i := 12) (N := some 121) (v := ?_) (a' := ?_) #[true, true, true, true, true, true, true, true, true, true, true, true, true, false, false, false, false, false, false, false, false, false, false, false, false, false, false, false, false] rfl rfl (any_of HT_.out (by kernel_rfl)) (fun _ _ _ h => h) (Or.inl ⟨by rfl, ?_⟩) ?_ ?_
                         rotate_left
                         ·intro w'
                          go_simp
                          with_reducible rfl
                         rotate_left
                         ·simp only [Act.put, List.setIfInBounds_toArray, List.set_cons_zero, List.set_cons_succ, i64_w, i32_w]
                          rfl
                         refine pure_ (i := 13) (N := some 122) (v := undef) (a' := ?_) #[true, true, true, true, true, true, true, true, true, true, true, true, true, true, false, false, false, false, false, false, false, false, false, false, false, false, false, false, false] rfl rfl (any_of HT_.out (by kernel_rfl)) (fun _ _ _ h => h) (Or.inr ⟨by rfl, rfl⟩) ?_ ?_
                         rotate_left
                         ·simp only [Act.put, List.setIfInBounds_toArray, List.set_cons_zero, List.set_cons_succ, i64_w, i32_w]
                          rfl
                         refine pure_ (i := 14) (N := some 123) (v := undef) (a' := ?_) #[true, true, true, true, true, true, true, true, true, true, true, true, true, true, true, false, false, false, false, false, false, false, false, false, false, false, false, false, false] rfl rfl (any_of HT_.out (by kernel_rfl)) (fun _ _ _ h => h) (Or.inr ⟨by rfl, rfl⟩) ?_ ?_
                         rotate_left
                         ·simp only [Act.put, List.setIfInBounds_toArray, List.set_cons_zero, List.set_cons_succ, i64_w, i32_w]
                          rfl
                         refine pure_ (i := 15) (N := some 124) (v := undef) (a' := ?_) #[true, true, true, true, true, true, true, true, true, true, true, true, true, true, true, true, false, false, false, false, false, false, false, false, false, false, false, false, false] rfl rfl (any_of HT_.out (by kernel_rfl)) (fun _ _ _ h => h) (Or.inr ⟨by rfl, rfl⟩) ?_ ?_
                         rotate_left
                         ·simp only [Act.put, List.setIfInBounds_toArray, List.set_cons_zero, List.set_cons_succ, i64_w, i32_w]
                          rfl
                         refine pure_ (i := 16) (N := some 125) (v := undef) (a' := ?_) #[true, true, true, true, true, true, true, true, true, true, true, true, true, true, true, true, true, false, false, false, false, false, false, false, false, false, false, false, false] rfl rfl (any_of HT_.out (by kernel_rfl)) (fun _ _ _ h => h) (Or.inr ⟨by rfl, rfl⟩) ?_ ?_
                         rotate_left
                         ·simp only [Act.put, List.setIfInBounds_toArray, List.set_cons_zero, List.set_cons_succ, i64_w, i32_w]
                          rfl
                         refine pure_ (i := 17) (N := some 126) (v := undef) (a' := ?_) #[true, true, true, true, true, true, true, true, true, true, true, true, true, true, true, true, true, true, false, false, false, false, false, false, false, false, false, false, false] rfl rfl (any_of HT_.out (by kernel_rfl)) (fun _ _ _ h => h) (Or.inr ⟨by rfl, rfl⟩) ?_ ?_
                         rotate_left
                         ·simp only [Act.put, List.setIfInBounds_toArray, List.set_cons_zero, List.set_cons_succ, i64_w, i32_w]
                          rfl
                         refine pure_ (i := 18) (N := some 127) (v := ?_) (a' := ?_) #[true, true, true, true, true, true, true, true, true, true, true, true, true, true, true, true, true, true, true, false, false, false, false, false, false, false, false, false, false] rfl rfl (any_of HT_.out (by kernel_rfl)) (fun _ _ _ h => h) (Or.inl ⟨by rfl, ?_⟩) ?_ ?_
                         rotate_left
                         ·intro w'
                          go_simp
                          with_reducible rfl
                         rotate_left
                         ·simp only [Act.put, List.setIfInBounds_toArray, List.set_cons_zero, List.set_cons_succ, i64_w, i32_w]
                          rfl
                         refine pure_ (i := 19) (N := some 128) (v := ?_) (a' := ?_) #[true, true, true, true, true, true, true, true, true, true, true, true, true, true, true, true, true, true, true, true, false, false, false, false, false, false, false, false, false] rfl rfl (any_of HT_.out (by kernel_rfl)) (fun _ _ _ h => h) (Or.inl ⟨by rfl, ?_⟩) ?_ ?_
                         rotate_left
                         ·intro w'
                          go_simp
                          with_reducible rfl
                         rotate_left
                         ·simp only [Act.put, List.setIfInBounds_toArray, List.set_cons_zero, List.set_cons_succ, i64_w, i32_w]
                          rfl
                         refine pure_ (i := 20) (N := some 129) (v := undef) (a' := ?_) #[true, true, true, true, true, true, true, true, true, true, true, true, true, true, true, true, true, true, true, true, true, false, false, false, false, false, false, false, false] rfl rfl (any_of HT_.out (by kernel_rfl)) (fun _ _ _ h => h) (Or.inr ⟨by rfl, rfl⟩) ?_ ?_
                         rotate_left
                         ·simp only [Act.put, List.setIfInBounds_toArray, List.set_cons_zero, List.set_cons_succ, i64_w, i32_w]
                          rfl
                         refine pure_ (i := 21) (N := some 130) (v := undef) (a' := ?_) #[true, true, true, true, true, true, true, true, true, true, true, true, true, true, true, true, true, true, true, true, true, true, false, false, false, false, false, false, false] rfl rfl (any_of HT_.out (by kernel_rfl)) (fun _ _ _ h => h) (Or.inr ⟨by rfl, rfl⟩) ?_ ?_
                         rotate_left
                         ·simp only [Act.put, List.setIfInBounds_toArray, List.set_cons_zero, List.set_cons_succ, i64_w, i32_w]
                          rfl
                         refine pure_ (i := 22) (N := some 131) (v := undef) (a' := ?_) #[true, true, true, true, true, true, true, true, true, true, true, true, true, true, true, true, true, true, true, true, true, true, true, false, false, false, false, false, false] rfl rfl (any_of HT_.out (by kernel_rfl)) (fun _ _ _ h => h) (Or.inr ⟨by rfl, rfl⟩) ?_ ?_
                         rotate_left
                         ·simp only [Act.put, List.setIfInBounds_toArray, List.set_cons_zero, List.set_cons_succ, i64_w, i32_w]
                          rfl
                         refine pure_ (i := 23) (N := some 132) (v := undef) (a' := ?_) #[true, true, true, true, true, true, true, true, true, true, true, true, true, true, true, true, true, true, true, true, true, true, true, true, false, false, false, false, false] rfl rfl (any_of HT_.out (by kernel_rfl)) (fun _ _ _ h => h) (Or.inr ⟨by rfl, rfl⟩) ?_ ?_
                         rotate_left
                         ·simp only [Act.put, List.setIfInBounds_toArray, List.set_cons_zero, List.set_cons_succ, i64_w, i32_w]
                          rfl
                         refine pure_ (i := 24) (N := some 133) (v := undef) (a' := ?_) #[true, true, true, true, true, true, true, true, true, true, true, true, true, true, true, true, true, true, true, true, true, true, true, true, true, false, false, false, false] rfl rfl (any_of HT_.out (by kernel_rfl)) (fun _ _ _ h => h) (Or.inr ⟨by rfl, rfl⟩) ?_ ?_
                         rotate_left
                         ·simp only [Act.put, List.setIfInBounds_toArray, List.set_cons_zero, List.set_cons_succ, i64_w, i32_w]
                          rfl
                         refine pure_ (i := 25) (N := some 134) (v := undef) (a' := ?_) #[true, true, true, true, true, true, true, true, true, true, true, true, true, true, true, true, true, true, true, true, true, true, true, true, true, true, false, false, false] rfl rfl (any_of HT_.out (by kernel_rfl)) (fun _ _ _ h => h) (Or.inr ⟨by rfl, rfl⟩) ?_ ?_
                         rotate_left
                         ·simp only [Act.put, List.setIfInBounds_toArray, List.set_cons_zero, List.set_cons_succ, i64_w, i32_w]
                          rfl
                         refine pure_ (i := 26) (N := some 135) (v := ?_) (a' := ?_) #[true, true, true, true, true, true, true, true, true, true, true, true, true, true, true, true, true, true, true, true, true, true, true, true, true, true, true, false, false] rfl rfl (any_of HT_.out (by kernel_rfl)) (fun _ _ _ h => h) (Or.inl ⟨by rfl, ?_⟩) ?_ ?_
                         rotate_left
                         ·intro w'
                          go_simp
                          with_reducible rfl
                         rotate_left
                         ·simp only [Act.put, List.setIfInBounds_toArray, List.set_cons_zero, List.set_cons_succ, i64_w, i32_w]
                          rfl
                         refine pure_ (i := 27) (N := some 136) (v := ?_) (a' := ?_) #[true, true, true, true, true, true, true, true, true, true, true, true, true, true, true, true, true, true, true, true, true, true, true, true, true, true, true, true, false] rfl rfl (any_of HT_.out (by kernel_rfl)) (fun _ _ _ h => h) (Or.inl ⟨by rfl, ?_⟩) ?_ ?_
                         rotate_left
                         ·intro w'
                          go_simp
                          with_reducible rfl
                         rotate_left
                         ·simp only [Act.put, List.setIfInBounds_toArray, List.set_cons_zero, List.set_cons_succ, i64_w, i32_w]
                          rfl
                         refine pure_ (i := 28) (N := some 6) (v := ?_) (a' := ?_) #[true, true, true, true, true, true, true, true, true, true, true, true, true, true, true, true, true, true, true, true, true, true, true, true, true, true, true, true, true] rfl rfl (any_of HT_.out (by kernel_rfl)) (fun _ _ _ h => h) (Or.inl ⟨by rfl, ?_⟩) ?_ ?_
                         rotate_left
                         ·intro w'
                          go_simp
                          with_reducible rfl
                         rotate_left
                         ·simp only [Act.put, List.setIfInBounds_toArray, List.set_cons_zero, List.set_cons_succ, i64_w, i32_w]
                          rfl
                         refine done_ (done_of HT_.out (by kernel_rfl)) ?_
                         try go_wp2
                         go_ret
                         exact ⟨by first | rfl | (simp [errW_none, errW_some] <;> rfl) | (simp only [← hji19, ← hji23]; first | rfl | (simp [errW_none, errW_some] <;> rfl)) | (simp [*, errW_none, errW_some] <;> rfl), by repeat (first | (with_reducible first | exact HB.out | apply below_alloc | apply pw_below_drewN | apply below_drew1 | refine below_set ?_ GE315.out) | exact HB.out)⟩
                        ·rw [if_neg c56] at H
                         have c56b0 : decide (0 < (t323.length : Int)) = false := decide_eq_false c56
                         have c56b1 : decide (0 < t323.length) = false := decide_eq_false (by omega)
                         clear c56
                         by_cases c60 : ji23 < (wrap64 (((rd_LIns l0_3 (ji19)).length : Int) - 1))
                         ·rw [if_pos c60] at H
                          have c60b0 : decide (ji23 < (wrap64 (((rd_LIns l0_3 (ji19)).length : Int) - 1))) = true := decide_eq_true c60
                          clear c60
                          obtain rfl := Option.some.inj H
                          obtain ⟨Ao61, co61, eo61⟩ := Kd.R_slice HO_12.out
                          subst eo61
                          try go_wp2
                          have n0_ := Aside0.mk (Kd.R_drew HO_10.out)
                          have n1_ := Aside0.mk (Kd.R_drew HO_12.out)
                          have n2_ := Aside0.mk (blk_drew BK315.out)
                          have n3_ := Aside0.mk (below_drew1 HB.out)
                          clear HO_10
                          clear HO_12
                          clear BK315
                          clear HB
                          have HO_10 := n0_
                          have HO_12 := n1_
                          have BK315 := n2_
                          have HB := n3_
                          clear n0_ n1_ n2_ n3_
                          have p334 : 0 ≤ (ji23 : Int) := of_decide_eq_true (by first | (with_reducible assumption) | assumption)
                          have q334 : ji23 < ((rd_LIns l0_3 (ji19)).length : Int) := of_decide_eq_true (by first | (with_reducible assumption) | assumption)
                          obtain ⟨ad334, A334_5, c334_5, e334, hx334_0, hx334_1, hx334_2, hx334_3, hx334_4, hx334_5, hl334_5, hi334_5⟩ := at_TIns HR319_0.out ji23 p334 q334
                          have hw334_5 := hx334_5
                          have hw334_4 := hx334_4
                          have hw334_3 := hx334_3
                          have hw334_2 := hx334_2
                          have hw334_1 := hx334_1
                          have hw334_0 := hx334_0
                          obtain rfl : ad320 = ad334 := (by injection e334)
                          replace hx334_0 := (HB.out.cell (World.block_lt_of_cell? w _ hx334_0)).trans hx334_0
                          replace hx334_1 := (HB.out.cell (World.block_lt_of_cell? w _ hx334_1)).trans hx334_1
                          replace hx334_2 := (HB.out.cell (World.block_lt_of_cell? w _ hx334_2)).trans hx334_2
                          replace hx334_3 := (HB.out.cell (World.block_lt_of_cell? w _ hx334_3)).trans hx334_3
                          replace hx334_4 := (HB.out.cell (World.block_lt_of_cell? w _ hx334_4)).trans hx334_4
                          replace hx334_5 := (HB.out.cell (World.block_lt_of_cell? w _ hx334_5)).trans hx334_5
                          have HR334_5 := Aside0.mk hi334_5
                          have HC334_5 := Aside0.mk hl334_5
                          clear hi334_5 hl334_5
                          replace p334 := eq_true p334
                          replace q334 := eq_true q334
                          refine start_ (n := 29) (S := fun w' => w'.cell? ⟨gb315, 0, none⟩ = some (.string a0_0) ∧ w'.cell? ⟨gb315, 1, none⟩ = some (.int .i64 a0_1) ∧ w'.cell? ⟨gb315, 2, none⟩ = some (.int .i64 a0_2) ∧ w'.cell? ⟨gb315, 3, none⟩ = some (.slice (some ad319) l0_3.length c0_3) ∧ w'.cell? (ad320.add ((ji23).toNat * 6)) = some (.int .i64 ((rd_TIns (rd_LIns l0_3 (ji19)) ji23).f0)) ∧ w'.cell? ⟨(ad320.add ((ji23).toNat * 6)).block, (ad320.add ((ji23).toNat * 6)).off + 1, none⟩ = some (.int .i64 ((rd_TIns (rd_LIns l0_3 (ji19)) ji23).f1)) ∧ w'.cell? ⟨(ad320.add ((ji23).toNat * 6)).block, (ad320.add ((ji23).toNat * 6)).off + 2, none⟩ = some (.int .i64 ((rd_TIns (rd_LIns l0_3 (ji19)) ji23).f2)) ∧ w'.cell? ⟨(ad320.add ((ji23).toNat * 6)).block, (ad320.add ((ji23).toNat * 6)).off + 3, none⟩ = some (.int .i64 ((rd_TIns (rd_LIns l0_3 (ji19)) ji23).f3)) ∧ w'.cell? ⟨(ad320.add ((ji23).toNat * 6)).block, (ad320.add ((ji23).toNat * 6)).off + 4, none⟩ = some (.string ((rd_TIns (rd_LIns l0_3 (ji19)) ji23).f4)) ∧ w'.cell? ⟨(ad320.add ((ji23).toNat * 6)).block, (ad320.add ((ji23).toNat * 6)).off + 5, none⟩ = some (.slice A334_5 ((rd_TIns (rd_LIns l0_3 (ji19)) ji23).f5).length c334_5)) (ds := []) #[false, false, false, false, false, false, false, false, false, false, false, false, false, false, false, false, false, false, false, false, false, false, false, false, false, false, false, false, false] (by kernel_rfl) rfl rfl ⟨(blk_cell BK315.out 0).trans rfl, (blk_cell BK315.out 1).trans rfl, (blk_cell BK315.out 2).trans rfl, (blk_cell BK315.out 3).trans rfl, ((HB.out.cell (World.block_lt_of_cell? w _ hw334_0)).trans hw334_0), ((HB.out.cell (World.block_lt_of_cell? w _ hw334_1)).trans hw334_1), ((HB.out.cell (World.block_lt_of_cell? w _ hw334_2)).trans hw334_2), ((HB.out.cell (World.block_lt_of_cell? w _ hw334_3)).trans hw334_3), ((HB.out.cell (World.block_lt_of_cell? w _ hw334_4)).trans hw334_4), ((HB.out.cell (World.block_lt_of_cell? w _ hw334_5)).trans hw334_5)⟩ (fun hHeld => ?_); refine with_tabW cubbylaw07_IrBlocks.tab24 cubbylaw07_IrBlocks.bits24 (fun HT_ HW_ => ?_)
                          generalize wr.drew = w62 at HO_10 HO_12 BK315 HB HR334_5 hx334_0 hx334_1 hx334_2 hx334_3 hx334_4 hx334_5 hHeld ⊢
                          refine pure_ (i := 0) (N := some 109) (v := ?_) (a' := ?_) #[true, false, false, false, false, false, false, false, false, false, false, false, false, false, false, false, false, false, false, false, false, false, false, false, false, false, false, false, false] rfl rfl (any_of HT_.out (by kernel_rfl)) (fun _ _ _ h => h) (Or.inl ⟨by rfl, ?_⟩) ?_ ?_
                          rotate_left
                          ·intro w'
                           go_simp
                           with_reducible rfl
                          rotate_left
                          ·simp only [Act.put, List.setIfInBounds_toArray, List.set_cons_zero, List.set_cons_succ, i64_w, i32_w]
                           rfl
                          refine pure_ (i := 1) (N := some 110) (v := ?_) (a' := ?_) #[true, true, false, false, false, false, false, false, false, false, false, false, false, false, false, false, false, false, false, false, false, false, false, false, false, false, false, false, false] rfl rfl (any_of HT_.out (by kernel_rfl)) (fun _ _ _ h => h) (Or.inl ⟨by rfl, ?_⟩) ?_ ?_
                          rotate_left
                          ·intro w'
                           go_simp
                           with_reducible rfl
                          rotate_left
                          ·simp only [Act.put, List.setIfInBounds_toArray, List.set_cons_zero, List.set_cons_succ, i64_w, i32_w]
                           rfl
                          refine pure_ (i := 2) (N := some 111) (v := ?_) (a' := ?_) #[true, true, true, false, false, false, false, false, false, false, false, false, false, false, false, false, false, false, false, false, false, false, false, false, false, false, false, false, false] rfl rfl (any_of HT_.out (by kernel_rfl)) (fun _ _ _ h => h) (Or.inl ⟨by rfl, ?_⟩) ?_ ?_
                          rotate_left
                          ·intro w'
                           go_simp
                           with_reducible rfl
                          rotate_left
                          ·simp only [Act.put, List.setIfInBounds_toArray, List.set_cons_zero, List.set_cons_succ, i64_w, i32_w]
                           rfl
                          refine pure_ (i := 5) (N := some 114) (v := ?_) (a' := ?_) #[true, true, true, false, false, true, false, false, false, false, false, false, false, false, false, false, false, false, false, false, false, false, false, false, false, false, false, false, false] rfl rfl (any_of HT_.out (by kernel_rfl)) (fun _ _ _ h => h) (Or.inl ⟨by rfl, ?_⟩) ?_ ?_
                          rotate_left
                          ·intro w'
                           go_simp
                           with_reducible rfl
                          rotate_left
                          ·simp only [Act.put, List.setIfInBounds_toArray, List.set_cons_zero, List.set_cons_succ, i64_w, i32_w]
                           rfl
                          refine take_ (i := 3) (N := some 112) (v := ?_) (a' := ?_) #[true, true, true, true, false, true, false, false, false, false, false, false, false, false, false, false, false, false, false, false, false, false, false, false, false, false, false, false, false] rfl rfl (take_ofW HT_.out HW_.out (by kernel_rfl)) (fun _ _ _ h => h) (Or.inl ⟨by rfl, ?_⟩) hHeld ?_ ?_
                          rotate_left
                          ·rintro w' ⟨s0, s1, s2, s3, s4, s5, s6, s7, s8, s9⟩
                           go_simp
                           with_reducible rfl
                          rotate_left
                          ·simp only [Act.put, List.setIfInBounds_toArray, List.set_cons_zero, List.set_cons_succ, i64_w, i32_w]
                           rfl
                          refine take_ (i := 6) (N := some 115) (v := ?_) (a' := ?_) #[true, true, true, true, false, true, true, false, false, false, false, false, false, false, false, false, false, false, false, false, false, false, false, false, false, false, false, false, false] rfl rfl (take_ofW HT_.out HW_.out (by kernel_rfl)) (fun _ _ _ h => h) (Or.inl ⟨by rfl, ?_⟩) hHeld ?_ ?_
                          rotate_left
                          ·rintro w' ⟨s0, s1, s2, s3, s4, s5, s6, s7, s8, s9⟩
                           go_simp
                           with_reducible rfl
                          rotate_left
                          ·simp only [Act.put, List.setIfInBounds_toArray, List.set_cons_zero, List.set_cons_succ, i64_w, i32_w]
                           rfl
                          refine one_ (i := 4) (N := some 113) #[true, true, true, true, true, true, true, false, false, false, false, false, false, false, false, false, false, false, false, false, false, false, false, false, false, false, false, false, false] rfl rfl (one_of HT_.out (by kernel_rfl)) (by decide) (fun K hK => ?_)
                          refine goes_ Tryd.func12 (by kernel_rfl) rfl #[.agg #[.int .i64 ((rd_TIns (rd_LIns l0_3 (ji19)) ji23).f0), .int .i64 ((rd_TIns (rd_LIns l0_3 (ji19)) ji23).f1), .int .i64 ((rd_TIns (rd_LIns l0_3 (ji19)) ji23).f2), .int .i64 ((rd_TIns (rd_LIns l0_3 (ji19)) ji23).f3), .string ((rd_TIns (rd_LIns l0_3 (ji19)) ji23).f4), .slice A334_5 ((rd_TIns (rd_LIns l0_3 (ji19)) ji23).f5).length c334_5]] (by rfl) rfl rfl (by (try simp only [List.map_toArray, List.map_cons, List.map_nil]); first | done | (simp only [hji19, hji23]; rfl) | rfl | (simp only [List.length_drop, List.length_take]; rfl)) ?_
                          with_reducible refine (ir_Def.calls ((rd_TIns (rd_LIns l0_3 (ji19)) ji23).f0) ((rd_TIns (rd_LIns l0_3 (ji19)) ji23).f1) ((rd_TIns (rd_LIns l0_3 (ji19)) ji23).f2) ((rd_TIns (rd_LIns l0_3 (ji19)) ji23).f3) ((rd_TIns (rd_LIns l0_3 (ji19)) ji23).f4) _ _ ((rd_TIns (rd_LIns l0_3 (ji19)) ji23).f5) t335 _ ?side1 ?side2 A54.out (hL := ?side99)).mono ?_
                          (case side1 => repeat (first | exact (Kd.C_below HR334_5.out HB.out) | (with_reducible refine Kd.C_alloc ?_ _) | (with_reducible refine Kd.C_drewN ?_ _) | (with_reducible refine Kd.C_drew ?_)))
                          (case side2 => exact HC334_5.out)
                          (case side99 => exact LaidW.below HLd.out (by repeat (first | (with_reducible first | exact HB.out | apply below_alloc | apply pw_below_drewN | apply below_drew1 | refine below_set ?_ GE315.out) | exact HB.out)))
                          rintro e w63 ⟨rfl, hb⟩
                          refine ⟨_, rfl, ?_⟩
                          have n0_ := Aside0.mk (Kd.R_below (by (with_reducible repeat (first | apply Kd.R_alloc | apply Kd.R_drewN | apply Kd.R_drew)); exact HO_10.out) hb)
                          have n1_ := Aside0.mk (Kd.R_below (by (with_reducible repeat (first | apply Kd.R_alloc | apply Kd.R_drewN | apply Kd.R_drew)); exact HO_12.out) hb)
                          have n2_ := Aside0.mk (blk_below (g := gb315) (o := .cells #[.string a0_0, .int .i64 a0_1, .int .i64 a0_2, .slice (some ad319) l0_3.length c0_3] 34 (0, 0)) (by (with_reducible repeat (first | refine blk_drewN ?_ _ | refine blk_drew ?_ | refine blk_alloc ?_ _)); exact BK315.out) hb)
                          have n3_ := Aside0.mk (below_step (by repeat (first | (with_reducible first | exact HB.out | apply below_alloc | apply pw_below_drewN | apply below_drew1 | refine below_set ?_ GE315.out) | exact HB.out)) hb)
                          clear HO_10
                          clear HO_12
                          clear BK315
                          clear HB
                          have HO_10 := n0_
                          have HO_12 := n1_
                          have BK315 := n2_
                          have HB := n3_
                          clear n0_ n1_ n2_ n3_
                          (try clear hb)
                          (try clear hb2)
                          (try clear hk)
                          (try clear hi)
                          refine hK.out _ _ ⟨(blk_cell BK315.out 0).trans rfl, (blk_cell BK315.out 1).trans rfl, (blk_cell BK315.out 2).trans rfl, (blk_cell BK315.out 3).trans rfl, ((HB.out.cell (World.block_lt_of_cell? w _ hw334_0)).trans hw334_0), ((HB.out.cell (World.block_lt_of_cell? w _ hw334_1)).trans hw334_1), ((HB.out.cell (World.block_lt_of_cell? w _ hw334_2)).trans hw334_2), ((HB.out.cell (World.block_lt_of_cell? w _ hw334_3)).trans hw334_3), ((HB.out.cell (World.block_lt_of_cell? w _ hw334_4)).trans hw334_4), ((HB.out.cell (World.block_lt_of_cell? w _ hw334_5)).trans hw334_5)⟩ (fun hHeld => ?_)
                          clear hK K
                          refine norm_ (a' := ?_) ?_ ?_
                          rotate_left
                          ·show Act.put _ (some 113) _ = _
                           simp only [Act.put, List.setIfInBounds_toArray, List.set_cons_zero, List.set_cons_succ, i64_w, i32_w]
                           rfl
                          refine pure_ (i := 7) (N := some 116) (v := ?_) (a' := ?_) #[true, true, true, true, true, true, true, true, false, false, false, false, false, false, false, false, false, false, false, false, false, false, false, false, false, false, false, false, false] rfl rfl (any_of HT_.out (by kernel_rfl)) (fun _ _ _ h => h) (Or.inl ⟨by rfl, ?_⟩) ?_ ?_
                          rotate_left
                          ·intro w'
                           go_simp
                           with_reducible rfl
                          rotate_left
                          ·simp only [Act.put, List.setIfInBounds_toArray, List.set_cons_zero, List.set_cons_succ, i64_w, i32_w]
                           rfl
                          refine pure_ (i := 8) (N := some 117) (v := ?_) (a' := ?_) #[true, true, true, true, true, true, true, true, true, false, false, false, false, false, false, false, false, false, false, false, false, false, false, false, false, false, false, false, false] rfl rfl (any_of HT_.out (by kernel_rfl)) (fun _ _ _ h => h) (Or.inl ⟨by rfl, ?_⟩) ?_ ?_
                          rotate_left
                          ·intro w'
                           go_simp
                           with_reducible rfl
                          rotate_left
                          ·simp only [Act.put, List.setIfInBounds_toArray, List.set_cons_zero, List.set_cons_succ, i64_w, i32_w]
                           rfl
                          refine pure_ (i := 9) (N := some 118) (v := ?_) (a' := ?_) #[true, true, true, true, true, true, true, true, true, true, false, false, false, false, false, false, false, false, false, false, false, false, false, false, false, false, false, false, false] rfl rfl (any_of HT_.out (by kernel_rfl)) (fun _ _ _ h => h) (Or.inl ⟨by rfl, ?_⟩) ?_ ?_
                          rotate_left
                          ·intro w'
                           go_simp
                           with_reducible rfl
                          rotate_left
                          ·simp only [Act.put, List.setIfInBounds_toArray, List.set_cons_zero, List.set_cons_succ, i64_w, i32_w]
                           rfl
                          refine pure_ (i := 10) (N := some 119) (v := ?_) (a' := ?_) #[true, true, true, true, true, true, true, true, true, true, true, false, false, false, false, false, false, false, false, false, false, false, false, false, false, false, false, false, false] rfl rfl (any_of HT_.out (by kernel_rfl)) (fun _ _ _ h => h) (Or.inl ⟨by rfl, ?_⟩) ?_ ?_
                          rotate_left
                          ·intro w'
                           go_simp
                           with_reducible rfl
                          rotate_left
                          ·simp only [Act.put, List.setIfInBounds_toArray, List.set_cons_zero, List.set_cons_succ, i64_w, i32_w]
                           rfl
                          refine pure_ (i := 11) (N := some 120) (v := ?_) (a' := ?_) #[true, true, true, true, true, true, true, true, true, true, true, true, false, false, false, false, false, false, false, false, false, false, false, false, false, false, false, false, false] rfl rfl (any_of HT_.out (by kernel_rfl)) (fun _ _ _ h => h) (Or.inl ⟨by rfl, ?_⟩) ?_ ?_
                          rotate_left
                          ·intro w'
                           go_simp
                           with_reducible rfl
                          rotate_left
                          ·simp only [Act.put, List.setIfInBounds_toArray, List.set_cons_zero, List.set_cons_succ, i64_w, i32_w]
                           rfl
                          refine pure_ (i := 12) (N := some 121) (v := ?_) (a' := ?_) #[true, true, true, true, true, true, true, true, true, true, true, true, true, false, false, false, false, false, false, false, false, false, false, false, false, false, false, false, false] rfl rfl (any_of HT_.out (by kernel_rfl)) (fun _ _ _ h => h) (Or.inl ⟨by rfl, ?_⟩) ?_ ?_
                          rotate_left
                          ·intro w'
                           go_simp
                           with_reducible rfl
                          rotate_left
                          ·simp only [Act.put, List.setIfInBounds_toArray, List.set_cons_zero, List.set_cons_succ, i64_w, i32_w]
                           rfl
                          refine pure_ (i := 13) (N := some 122) (v := ?_) (a' := ?_) #[true, true, true, true, true, true, true, true, true, true, true, true, true, true, false, false, false, false, false, false, false, false, false, false, false, false, false, false, false] rfl rfl (any_of HT_.out (by kernel_rfl)) (fun _ _ _ h => h) (Or.inl ⟨by rfl, ?_⟩) ?_ ?_
                          rotate_left
                          ·intro w'
                           go_simp
                           with_reducible rfl
                          rotate_left
                          ·simp only [Act.put, List.setIfInBounds_toArray, List.set_cons_zero, List.set_cons_succ, i64_w, i32_w]
                           rfl
                          refine pure_ (i := 14) (N := some 123) (v := ?_) (a' := ?_) #[true, true, true, true, true, true, true, true, true, true, true, true, true, true, true, false, false, false, false, false, false, false, false, false, false, false, false, false, false] rfl rfl (any_of HT_.out (by kernel_rfl)) (fun _ _ _ h => h) (Or.inl ⟨by rfl, ?_⟩) ?_ ?_
                          rotate_left
                          ·intro w'
                           go_simp
                           with_reducible rfl
                          rotate_left
                          ·simp only [Act.put, List.setIfInBounds_toArray, List.set_cons_zero, List.set_cons_succ, i64_w, i32_w]
                           rfl
                          refine pure_ (i := 15) (N := some 124) (v := ?_) (a' := ?_) #[true, true, true, true, true, true, true, true, true, true, true, true, true, true, true, true, false, false, false, false, false, false, false, false, false, false, false, false, false] rfl rfl (any_of HT_.out (by kernel_rfl)) (fun _ _ _ h => h) (Or.inl ⟨by rfl, ?_⟩) ?_ ?_
                          rotate_left
                          ·intro w'
                           go_simp
                           with_reducible rfl
                          rotate_left
                          ·simp only [Act.put, List.setIfInBounds_toArray, List.set_cons_zero, List.set_cons_succ, i64_w, i32_w]
                           rfl
                          refine pure_ (i := 16) (N := some 125) (v := ?_) (a' := ?_) #[true, true, true, true, true, true, true, true, true, true, true, true, true, true, true, true, true, false, false, false, false, false, false, false, false, false, false, false, false] rfl rfl (any_of HT_.out (by kernel_rfl)) (fun _ _ _ h => h) (Or.inl ⟨by rfl, ?_⟩) ?_ ?_
                          rotate_left
                          ·intro w'
                           go_simp
                           with_reducible rfl
                          rotate_left
                          ·simp only [Act.put, List.setIfInBounds_toArray, List.set_cons_zero, List.set_cons_succ, i64_w, i32_w]
                           rfl
                          refine pure_ (i := 17) (N := some 126) (v := ?_) (a' := ?_) #[true, true, true, true, true, true, true, true, true, true, true, true, true, true, true, true, true, true, false, false, false, false, false, false, false, false, false, false, false] rfl rfl (any_of HT_.out (by kernel_rfl)) (fun _ _ _ h => h) (Or.inl ⟨by rfl, ?_⟩) ?_ ?_
                          rotate_left
                          ·intro w'
                           go_simp
                           with_reducible rfl
                          rotate_left
                          ·simp only [Act.put, List.setIfInBounds_toArray, List.set_cons_zero, List.set_cons_succ, i64_w, i32_w]
                           rfl
                          refine pure_ (i := 18) (N := some 127) (v := ?_) (a' := ?_) #[true, true, true, true, true, true, true, true, true, true, true, true, true, true, true, true, true, true, true, false, false, false, false, false, false, false, false, false, false] rfl rfl (any_of HT_.out (by kernel_rfl)) (fun _ _ _ h => h) (Or.inl ⟨by rfl, ?_⟩) ?_ ?_
                          rotate_left
                          ·intro w'
                           go_simp
                           with_reducible rfl
                          rotate_left
                          ·simp only [Act.put, List.setIfInBounds_toArray, List.set_cons_zero, List.set_cons_succ, i64_w, i32_w]
                           rfl
                          refine pure_ (i := 19) (N := some 128) (v := ?_) (a' := ?_) #[true, true, true, true, true, true, true, true, true, true, true, true, true, true, true, true, true, true, true, true, false, false, false, false, false, false, false, false, false] rfl rfl (any_of HT_.out (by kernel_rfl)) (fun _ _ _ h => h) (Or.inl ⟨by rfl, ?_⟩) ?_ ?_
                          rotate_left
                          ·intro w'
                           go_simp
                           with_reducible rfl
                          rotate_left
                          ·simp only [Act.put, List.setIfInBounds_toArray, List.set_cons_zero, List.set_cons_succ, i64_w, i32_w]
                           rfl
                          refine pure_ (i := 20) (N := some 129) (v := undef) (a' := ?_) #[true, true, true, true, true, true, true, true, true, true, true, true, true, true, true, true, true, true, true, true, true, false, false, false, false, false, false, false, false] rfl rfl (any_of HT_.out (by kernel_rfl)) (fun _ _ _ h => h) (Or.inr ⟨by rfl, rfl⟩) ?_ ?_
                          rotate_left
                          ·simp only [Act.put, List.setIfInBounds_toArray, List.set_cons_zero, List.set_cons_succ, i64_w, i32_w]
                           rfl
                          refine pure_ (i := 21) (N := some 130) (v := undef) (a' := ?_) #[true, true, true, true, true, true, true, true, true, true, true, true, true, true, true, true, true, true, true, true, true, true, false, false, false, false, false, false, false] rfl rfl (any_of HT_.out (by kernel_rfl)) (fun _ _ _ h => h) (Or.inr ⟨by rfl, rfl⟩) ?_ ?_
                          rotate_left
                          ·simp only [Act.put, List.setIfInBounds_toArray, List.set_cons_zero, List.set_cons_succ, i64_w, i32_w]
                           rfl
                          refine pure_ (i := 22) (N := some 131) (v := undef) (a' := ?_) #[true, true, true, true, true, true, true, true, true, true, true, true, true, true, true, true, true, true, true, true, true, true, true, false, false, false, false, false, false] rfl rfl (any_of HT_.out (by kernel_rfl)) (fun _ _ _ h => h) (Or.inr ⟨by rfl, rfl⟩) ?_ ?_
                          rotate_left
                          ·simp only [Act.put, List.setIfInBounds_toArray, List.set_cons_zero, List.set_cons_succ, i64_w, i32_w]
                           rfl
                          refine pure_ (i := 23) (N := some 132) (v := undef) (a' := ?_) #[true, true, true, true, true, true, true, true, true, true, true, true, true, true, true, true, true, true, true, true, true, true, true, true, false, false, false, false, false] rfl rfl (any_of HT_.out (by kernel_rfl)) (fun _ _ _ h => h) (Or.inr ⟨by rfl, rfl⟩) ?_ ?_
                          rotate_left
                          ·simp only [Act.put, List.setIfInBounds_toArray, List.set_cons_zero, List.set_cons_succ, i64_w, i32_w]
                           rfl
                          refine pure_ (i := 24) (N := some 133) (v := undef) (a' := ?_) #[true, true, true, true, true, true, true, true, true, true, true, true, true, true, true, true, true, true, true, true, true, true, true, true, true, false, false, false, false] rfl rfl (any_of HT_.out (by kernel_rfl)) (fun _ _ _ h => h) (Or.inr ⟨by rfl, rfl⟩) ?_ ?_
                          rotate_left
                          ·simp only [Act.put, List.setIfInBounds_toArray, List.set_cons_zero, List.set_cons_succ, i64_w, i32_w]
                           rfl
                          refine pure_ (i := 25) (N := some 134) (v := undef) (a' := ?_) #[true, true, true, true, true, true, true, true, true, true, true, true, true, true, true, true, true, true, true, true, true, true, true, true, true, true, false, false, false] rfl rfl (any_of HT_.out (by kernel_rfl)) (fun _ _ _ h => h) (Or.inr ⟨by rfl, rfl⟩) ?_ ?_
                          rotate_left
                          ·simp only [Act.put, List.setIfInBounds_toArray, List.set_cons_zero, List.set_cons_succ, i64_w, i32_w]
                           rfl
                          refine pure_ (i := 26) (N := some 135) (v := ?_) (a' := ?_) #[true, true, true, true, true, true, true, true, true, true, true, true, true, true, true, true, true, true, true, true, true, true, true, true, true, true, true, false, false] rfl rfl (any_of HT_.out (by kernel_rfl)) (fun _ _ _ h => h) (Or.inl ⟨by rfl, ?_⟩) ?_ ?_
                          rotate_left
                          ·intro w'
                           go_simp
                           with_reducible rfl
                          rotate_left
                          ·simp only [Act.put, List.setIfInBounds_toArray, List.set_cons_zero, List.set_cons_succ, i64_w, i32_w]
                           rfl
                          refine pure_ (i := 27) (N := some 136) (v := ?_) (a' := ?_) #[true, true, true, true, true, true, true, true, true, true, true, true, true, true, true, true, true, true, true, true, true, true, true, true, true, true, true, true, false] rfl rfl (any_of HT_.out (by kernel_rfl)) (fun _ _ _ h => h) (Or.inl ⟨by rfl, ?_⟩) ?_ ?_
                          rotate_left
                          ·intro w'
                           go_simp
                           with_reducible rfl
                          rotate_left
                          ·simp only [Act.put, List.setIfInBounds_toArray, List.set_cons_zero, List.set_cons_succ, i64_w, i32_w]
                           rfl
                          refine pure_ (i := 28) (N := some 6) (v := ?_) (a' := ?_) #[true, true, true, true, true, true, true, true, true, true, true, true, true, true, true, true, true, true, true, true, true, true, true, true, true, true, true, true, true] rfl rfl (any_of HT_.out (by kernel_rfl)) (fun _ _ _ h => h) (Or.inl ⟨by rfl, ?_⟩) ?_ ?_
                          rotate_left
                          ·intro w'
                           go_simp
                           with_reducible rfl
                          rotate_left
                          ·simp only [Act.put, List.setIfInBounds_toArray, List.set_cons_zero, List.set_cons_succ, i64_w, i32_w]
                           rfl
                          refine done_ (done_of HT_.out (by kernel_rfl)) ?_
                          try go_wp2
                          go_ret
                          exact ⟨by first | rfl | (simp [errW_none, errW_some] <;> rfl) | (simp only [← hji19, ← hji23]; first | rfl | (simp [errW_none, errW_some] <;> rfl)) | (simp [*, errW_none, errW_some] <;> rfl), by repeat (first | (with_reducible first | exact HB.out | apply below_alloc | apply pw_below_drewN | apply below_drew1 | refine below_set ?_ GE315.out) | exact HB.out)⟩
                         ·rw [if_neg c60] at H
                          have c60b0 : decide (ji23 < (wrap64 (((rd_LIns l0_3 (ji19)).length : Int) - 1))) = false := decide_eq_false c60
                          clear c60
                          obtain rfl := Option.some.inj H
                          obtain ⟨Ao64, co64, eo64⟩ := Kd.R_slice HO_12.out
                          subst eo64
                          try go_wp2
                          have n0_ := Aside0.mk (Kd.R_drew HO_10.out)
                          have n1_ := Aside0.mk (Kd.R_drew HO_12.out)
                          have n2_ := Aside0.mk (blk_drew BK315.out)
                          have n3_ := Aside0.mk (below_drew1 HB.out)
                          clear HO_10
                          clear HO_12
                          clear BK315
                          clear HB
                          have HO_10 := n0_
                          have HO_12 := n1_
                          have BK315 := n2_
                          have HB := n3_
                          clear n0_ n1_ n2_ n3_
                          have p334 : 0 ≤ (ji23 : Int) := of_decide_eq_true (by first | (with_reducible assumption) | assumption)
                          have q334 : ji23 < ((rd_LIns l0_3 (ji19)).length : Int) := of_decide_eq_true (by first | (with_reducible assumption) | assumption)
                          obtain ⟨ad334, A334_5, c334_5, e334, hx334_0, hx334_1, hx334_2, hx334_3, hx334_4, hx334_5, hl334_5, hi334_5⟩ := at_TIns HR319_0.out ji23 p334 q334
                          have hw334_5 := hx334_5
                          have hw334_4 := hx334_4
                          have hw334_3 := hx334_3
                          have hw334_2 := hx334_2
                          have hw334_1 := hx334_1
                          have hw334_0 := hx334_0
                          obtain rfl : ad320 = ad334 := (by injection e334)
                          replace hx334_0 := (HB.out.cell (World.block_lt_of_cell? w _ hx334_0)).trans hx334_0
                          replace hx334_1 := (HB.out.cell (World.block_lt_of_cell? w _ hx334_1)).trans hx334_1
                          replace hx334_2 := (HB.out.cell (World.block_lt_of_cell? w _ hx334_2)).trans hx334_2
                          replace hx334_3 := (HB.out.cell (World.block_lt_of_cell? w _ hx334_3)).trans hx334_3
                          replace hx334_4 := (HB.out.cell (World.block_lt_of_cell? w _ hx334_4)).trans hx334_4
                          replace hx334_5 := (HB.out.cell (World.block_lt_of_cell? w _ hx334_5)).trans hx334_5
                          have HR334_5 := Aside0.mk hi334_5
                          have HC334_5 := Aside0.mk hl334_5
                          clear hi334_5 hl334_5
                          replace p334 := eq_true p334
                          replace q334 := eq_true q334
                          have p336 : 0 ≤ (ji23 : Int) := of_decide_eq_true (by first | (with_reducible assumption) | assumption)
                          have q336 : ji23 < ((rd_LIns l0_3 (ji19)).length : Int) := of_decide_eq_true (by first | (with_reducible assumption) | assumption)
                          obtain ⟨ad336, A336_5, c336_5, e336, hx336_0, hx336_1, hx336_2, hx336_3, hx336_4, hx336_5, hl336_5, hi336_5⟩ := at_TIns HR319_0.out ji23 p336 q336
                          have hw336_5 := hx336_5
                          have hw336_4 := hx336_4
                          have hw336_3 := hx336_3
                          have hw336_2 := hx336_2
                          have hw336_1 := hx336_1
                          have hw336_0 := hx336_0
                          obtain rfl : ad320 = ad336 := (by injection e336)
                          replace hx336_0 := (HB.out.cell (World.block_lt_of_cell? w _ hx336_0)).trans hx336_0
                          replace hx336_1 := (HB.out.cell (World.block_lt_of_cell? w _ hx336_1)).trans hx336_1
                          replace hx336_2 := (HB.out.cell (World.block_lt_of_cell? w _ hx336_2)).trans hx336_2
                          replace hx336_3 := (HB.out.cell (World.block_lt_of_cell? w _ hx336_3)).trans hx336_3
                          replace hx336_4 := (HB.out.cell (World.block_lt_of_cell? w _ hx336_4)).trans hx336_4
                          replace hx336_5 := (HB.out.cell (World.block_lt_of_cell? w _ hx336_5)).trans hx336_5
                          have HR336_5 := Aside0.mk hi336_5
                          have HC336_5 := Aside0.mk hl336_5
                          clear hi336_5 hl336_5
                          replace p336 := eq_true p336
                          replace q336 := eq_true q336
                          refine start_ (n := 29) (S := fun w' => w'.cell? ⟨gb315, 0, none⟩ = some (.string a0_0) ∧ w'.cell? ⟨gb315, 1, none⟩ = some (.int .i64 a0_1) ∧ w'.cell? ⟨gb315, 2, none⟩ = some (.int .i64 a0_2) ∧ w'.cell? ⟨gb315, 3, none⟩ = some (.slice (some ad319) l0_3.length c0_3) ∧ w'.cell? (ad320.add ((ji23).toNat * 6)) = some (.int .i64 ((rd_TIns (rd_LIns l0_3 (ji19)) ji23).f0)) ∧ w'.cell? ⟨(ad320.add ((ji23).toNat * 6)).block, (ad320.add ((ji23).toNat * 6)).off + 1, none⟩ = some (.int .i64 ((rd_TIns (rd_LIns l0_3 (ji19)) ji23).f1)) ∧ w'.cell? ⟨(ad320.add ((ji23).toNat * 6)).block, (ad320.add ((ji23).toNat * 6)).off + 2, none⟩ = some (.int .i64 ((rd_TIns (rd_LIns l0_3 (ji19)) ji23).f2)) ∧ w'.cell? ⟨(ad320.add ((ji23).toNat * 6)).block, (ad320.add ((ji23).toNat * 6)).off + 3, none⟩ = some (.int .i64 ((rd_TIns (rd_LIns l0_3 (ji19)) ji23).f3)) ∧ w'.cell? ⟨(ad320.add ((ji23).toNat * 6)).block, (ad320.add ((ji23).toNat * 6)).off + 4, none⟩ = some (.string ((rd_TIns (rd_LIns l0_3 (ji19)) ji23).f4)) ∧ w'.cell? ⟨(ad320.add ((ji23).toNat * 6)).block, (ad320.add ((ji23).toNat * 6)).off + 5, none⟩ = some (.slice A334_5 ((rd_TIns (rd_LIns l0_3 (ji19)) ji23).f5).length c334_5) ∧ w'.cell? (ad320.add ((ji23).toNat * 6)) = some (.int .i64 ((rd_TIns (rd_LIns l0_3 (ji19)) ji23).f0)) ∧ w'.cell? ⟨(ad320.add ((ji23).toNat * 6)).block, (ad320.add ((ji23).toNat * 6)).off + 1, none⟩ = some (.int .i64 ((rd_TIns (rd_LIns l0_3 (ji19)) ji23).f1)) ∧ w'.cell? ⟨(ad320.add ((ji23).toNat * 6)).block, (ad320.add ((ji23).toNat * 6)).off + 2, none⟩ = some (.int .i64 ((rd_TIns (rd_LIns l0_3 (ji19)) ji23).f2)) ∧ w'.cell? ⟨(ad320.add ((ji23).toNat * 6)).block, (ad320.add ((ji23).toNat * 6)).off + 3, none⟩ = some (.int .i64 ((rd_TIns (rd_LIns l0_3 (ji19)) ji23).f3)) ∧ w'.cell? ⟨(ad320.add ((ji23).toNat * 6)).block, (ad320.add ((ji23).toNat * 6)).off + 4, none⟩ = some (.string ((rd_TIns (rd_LIns l0_3 (ji19)) ji23).f4)) ∧ w'.cell? ⟨(ad320.add ((ji23).toNat * 6)).block, (ad320.add ((ji23).toNat * 6)).off + 5, none⟩ = some (.slice A336_5 ((rd_TIns (rd_LIns l0_3 (ji19)) ji23).f5).length c336_5)) (ds := []) #[false, false, false, false, false, false, false, false, false, false, false, false, false, false, false, false, false, false, false, false, false, false, false, false, false, false, false, false, false] (by kernel_rfl) rfl rfl ⟨(blk_cell BK315.out 0).trans rfl, (blk_cell BK315.out 1).trans rfl, (blk_cell BK315.out 2).trans rfl, (blk_cell BK315.out 3).trans rfl, ((HB.out.cell (World.block_lt_of_cell? w _ hw334_0)).trans hw334_0), ((HB.out.cell (World.block_lt_of_cell? w _ hw334_1)).trans hw334_1), ((HB.out.cell (World.block_lt_of_cell? w _ hw334_2)).trans hw334_2), ((HB.out.cell (World.block_lt_of_cell? w _ hw334_3)).trans hw334_3), ((HB.out.cell (World.block_lt_of_cell? w _ hw334_4)).trans hw334_4), ((HB.out.cell (World.block_lt_of_cell? w _ hw334_5)).trans hw334_5), ((HB.out.cell (World.block_lt_of_cell? w _ hw336_0)).trans hw336_0), ((HB.out.cell (World.block_lt_of_cell? w _ hw336_1)).trans hw336_1), ((HB.out.cell (World.block_lt_of_cell? w _ hw336_2)).trans hw336_2), ((HB.out.cell (World.block_lt_of_cell? w _ hw336_3)).trans hw336_3), ((HB.out.cell (World.block_lt_of_cell? w _ hw336_4)).trans hw336_4), ((HB.out.cell (World.block_lt_of_cell? w _ hw336_5)).trans hw336_5)⟩ (fun hHeld => ?_); refine with_tabW cubbylaw07_IrBlocks.tab24 cubbylaw07_IrBlocks.bits24 (fun HT_ HW_ => ?_)
                          generalize wr.drew = w65 at HO_10 HO_12 BK315 HB HR334_5 HR336_5 hx334_0 hx334_1 hx334_2 hx334_3 hx334_4 hx334_5 hx336_0 hx336_1 hx336_2 hx336_3 hx336_4 hx336_5 hHeld ⊢
                          refine pure_ (i := 0) (N := some 109) (v := ?_) (a' := ?_) #[true, false, false, false, false, false, false, false, false, false, false, false, false, false, false, false, false, false, false, false, false, false, false, false, false, false, false, false, false] rfl rfl (any_of HT_.out (by kernel_rfl)) (fun _ _ _ h => h) (Or.inl ⟨by rfl, ?_⟩) ?_ ?_
                          rotate_left
                          ·intro w'
                           go_simp
                           with_reducible rfl
                          rotate_left
                          ·simp only [Act.put, List.setIfInBounds_toArray, List.set_cons_zero, List.set_cons_succ, i64_w, i32_w]
                           rfl
                          refine pure_ (i := 1) (N := some 110) (v := ?_) (a' := ?_) #[true, true, false, false, false, false, false, false, false, false, false, false, false, false, false, false, false, false, false, false, false, false, false, false, false, false, false, false, false] rfl rfl (any_of HT_.out (by kernel_rfl)) (fun _ _ _ h => h) (Or.inl ⟨by rfl, ?_⟩) ?_ ?_
                          rotate_left
                          ·intro w'
                           go_simp
                           with_reducible rfl
                          rotate_left
                          ·simp only [Act.put, List.setIfInBounds_toArray, List.set_cons_zero, List.set_cons_succ, i64_w, i32_w]
                           rfl
                          refine pure_ (i := 2) (N := some 111) (v := ?_) (a' := ?_) #[true, true, true, false, false, false, false, false, false, false, false, false, false, false, false, false, false, false, false, false, false, false, false, false, false, false, false, false, false] rfl rfl (any_of HT_.out (by kernel_rfl)) (fun _ _ _ h => h) (Or.inl ⟨by rfl, ?_⟩) ?_ ?_
                          rotate_left
                          ·intro w'
                           go_simp
                           with_reducible rfl
                          rotate_left
                          ·simp only [Act.put, List.setIfInBounds_toArray, List.set_cons_zero, List.set_cons_succ, i64_w, i32_w]
                           rfl
                          refine pure_ (i := 5) (N := some 114) (v := ?_) (a' := ?_) #[true, true, true, false, false, true, false, false, false, false, false, false, false, false, false, false, false, false, false, false, false, false, false, false, false, false, false, false, false] rfl rfl (any_of HT_.out (by kernel_rfl)) (fun _ _ _ h => h) (Or.inl ⟨by rfl, ?_⟩) ?_ ?_
                          rotate_left
                          ·intro w'
                           go_simp
                           with_reducible rfl
                          rotate_left
                          ·simp only [Act.put, List.setIfInBounds_toArray, List.set_cons_zero, List.set_cons_succ, i64_w, i32_w]
                           rfl
                          refine take_ (i := 3) (N := some 112) (v := ?_) (a' := ?_) #[true, true, true, true, false, true, false, false, false, false, false, false, false, false, false, false, false, false, false, false, false, false, false, false, false, false, false, false, false] rfl rfl (take_ofW HT_.out HW_.out (by kernel_rfl)) (fun _ _ _ h => h) (Or.inl ⟨by rfl, ?_⟩) hHeld ?_ ?_
                          rotate_left
                          ·rintro w' ⟨s0, s1, s2, s3, s4, s5, s6, s7, s8, s9, s10, s11, s12, s13, s14, s15⟩
                           go_simp
                           with_reducible rfl
                          rotate_left
                          ·simp only [Act.put, List.setIfInBounds_toArray, List.set_cons_zero, List.set_cons_succ, i64_w, i32_w]
                           rfl
                          refine take_ (i := 6) (N := some 115) (v := ?_) (a' := ?_) #[true, true, true, true, false, true, true, false, false, false, false, false, false, false, false, false, false, false, false, false, false, false, false, false, false, false, false, false, false] rfl rfl (take_ofW HT_.out HW_.out (by kernel_rfl)) (fun _ _ _ h => h) (Or.inl ⟨by rfl, ?_⟩) hHeld ?_ ?_
                          rotate_left
                          ·rintro w' ⟨s0, s1, s2, s3, s4, s5, s6, s7, s8, s9, s10, s11, s12, s13, s14, s15⟩
                           go_simp
                           with_reducible rfl
                          rotate_left
                          ·simp only [Act.put, List.setIfInBounds_toArray, List.set_cons_zero, List.set_cons_succ, i64_w, i32_w]
                           rfl
                          refine one_ (i := 4) (N := some 113) #[true, true, true, true, true, true, true, false, false, false, false, false, false, false, false, false, false, false, false, false, false, false, false, false, false, false, false, false, false] rfl rfl (one_of HT_.out (by kernel_rfl)) (by decide) (fun K hK => ?_)
                          refine goes_ Tryd.func12 (by kernel_rfl) rfl #[.agg #[.int .i64 ((rd_TIns (rd_LIns l0_3 (ji19)) ji23).f0), .int .i64 ((rd_TIns (rd_LIns l0_3 (ji19)) ji23).f1), .int .i64 ((rd_TIns (rd_LIns l0_3 (ji19)) ji23).f2), .int .i64 ((rd_TIns (rd_LIns l0_3 (ji19)) ji23).f3), .string ((rd_TIns (rd_LIns l0_3 (ji19)) ji23).f4), .slice A334_5 ((rd_TIns (rd_LIns l0_3 (ji19)) ji23).f5).length c334_5]] (by rfl) rfl rfl (by (try simp only [List.map_toArray, List.map_cons, List.map_nil]); first | done | (simp only [hji19, hji23]; rfl) | rfl | (simp only [List.length_drop, List.length_take]; rfl)) ?_
                          with_reducible refine (ir_Def.calls ((rd_TIns (rd_LIns l0_3 (ji19)) ji23).f0) ((rd_TIns (rd_LIns l0_3 (ji19)) ji23).f1) ((rd_TIns (rd_LIns l0_3 (ji19)) ji23).f2) ((rd_TIns (rd_LIns l0_3 (ji19)) ji23).f3) ((rd_TIns (rd_LIns l0_3 (ji19)) ji23).f4) _ _ ((rd_TIns (rd_LIns l0_3 (ji19)) ji23).f5) t335 _ ?side1 ?side2 A54.out (hL := ?side99)).mono ?_
                          (case side1 => repeat (first | exact (Kd.C_below HR334_5.out HB.out) | (with_reducible refine Kd.C_alloc ?_ _) | (with_reducible refine Kd.C_drewN ?_ _) | (with_reducible refine Kd.C_drew ?_)))
                          (case side2 => exact HC334_5.out)
                          (case side99 => exact LaidW.below HLd.out (by repeat (first | (with_reducible first | exact HB.out | apply below_alloc | apply pw_below_drewN | apply below_drew1 | refine below_set ?_ GE315.out) | exact HB.out)))
                          rintro e w66 ⟨rfl, hb⟩
                          refine ⟨_, rfl, ?_⟩
                          have n0_ := Aside0.mk (Kd.R_below (by (with_reducible repeat (first | apply Kd.R_alloc | apply Kd.R_drewN | apply Kd.R_drew)); exact HO_10.out) hb)
                          have n1_ := Aside0.mk (Kd.R_below (by (with_reducible repeat (first | apply Kd.R_alloc | apply Kd.R_drewN | apply Kd.R_drew)); exact HO_12.out) hb)
                          have n2_ := Aside0.mk (blk_below (g := gb315) (o := .cells #[.string a0_0, .int .i64 a0_1, .int .i64 a0_2, .slice (some ad319) l0_3.length c0_3] 34 (0, 0)) (by (with_reducible repeat (first | refine blk_drewN ?_ _ | refine blk_drew ?_ | refine blk_alloc ?_ _)); exact BK315.out) hb)
                          have n3_ := Aside0.mk (below_step (by repeat (first | (with_reducible first | exact HB.out | apply below_alloc | apply pw_below_drewN | apply below_drew1 | refine below_set ?_ GE315.out) | exact HB.out)) hb)
                          clear HO_10
                          clear HO_12
                          clear BK315
                          clear HB
                          have HO_10 := n0_
                          have HO_12 := n1_
                          have BK315 := n2_
                          have HB := n3_
                          clear n0_ n1_ n2_ n3_
                          (try clear hb)
                          (try clear hb2)
                          (try clear hk)
                          (try clear hi)
                          refine hK.out _ _ ⟨(blk_cell BK315.out 0).trans rfl, (blk_cell BK315.out 1).trans rfl, (blk_cell BK315.out 2).trans rfl, (blk_cell BK315.out 3).trans rfl, ((HB.out.cell (World.block_lt_of_cell? w _ hw334_0)).trans hw334_0), ((HB.out.cell (World.block_lt_of_cell? w _ hw334_1)).trans hw334_1), ((HB.out.cell (World.block_lt_of_cell? w _ hw334_2)).trans hw334_2), ((HB.out.cell (World.block_lt_of_cell? w _ hw334_3)).trans hw334_3), ((HB.out.cell (World.block_lt_of_cell? w _ hw334_4)).trans hw334_4), ((HB.out.cell (World.block_lt_of_cell? w _ hw334_5)).trans hw334_5), ((HB.out.cell (World.block_lt_of_cell? w _ hw336_0)).trans hw336_0), ((HB.out.cell (World.block_lt_of_cell? w _ hw336_1)).trans hw336_1), ((HB.out.cell (World.block_lt_of_cell? w _ hw336_2)).trans hw336_2), ((HB.out.cell (World.block_lt_of_cell? w _ hw336_3)).trans hw336_3), ((HB.out.cell (World.block_lt_of_cell? w _ hw336_4)).trans hw336_4), ((HB.out.cell (World.block_lt_of_cell? w _ hw336_5)).trans hw336_5)⟩ (fun hHeld => ?_)
                          clear hK K
                          refine norm_ (a' := ?_) ?_ ?_
                          rotate_left
                          ·show Act.put _ (some 113) _ = _
                           simp only [Act.put, List.setIfInBounds_toArray, List.set_cons_zero, List.set_cons_succ, i64_w, i32_w]
                           rfl
                          refine pure_ (i := 7) (N := some 116) (v := ?_) (a' := ?_) #[true, true, true, true, true, true, true, true, false, false, false, false, false, false, false, false, false, false, false, false, false, false, false, false, false, false, false, false, false] rfl rfl (any_of HT_.out (by kernel_rfl)) (fun _ _ _ h => h) (Or.inl ⟨by rfl, ?_⟩) ?_ ?_
                          rotate_left
                          ·intro w'
                           go_simp
                           with_reducible rfl
                          rotate_left
                          ·simp only [Act.put, List.setIfInBounds_toArray, List.set_cons_zero, List.set_cons_succ, i64_w, i32_w]
                           rfl
                          refine pure_ (i := 8) (N := some 117) (v := ?_) (a' := ?_) #[true, true, true, true, true, true, true, true, true, false, false, false, false, false, false, false, false, false, false, false, false, false, false, false, false, false, false, false, false] rfl rfl (any_of HT_.out (by kernel_rfl)) (fun _ _ _ h => h) (Or.inl ⟨by rfl, ?_⟩) ?_ ?_
                          rotate_left
                          ·intro w'
                           go_simp
                           with_reducible rfl
                          rotate_left
                          ·simp only [Act.put, List.setIfInBounds_toArray, List.set_cons_zero, List.set_cons_succ, i64_w, i32_w]
                           rfl
                          refine pure_ (i := 9) (N := some 118) (v := ?_) (a' := ?_) #[true, true, true, true, true, true, true, true, true, true, false, false, false, false, false, false, false, false, false, false, false, false, false, false, false, false, false, false, false] rfl rfl (any_of HT_.out (by kernel_rfl)) (fun _ _ _ h => h) (Or.inl ⟨by rfl, ?_⟩) ?_ ?_
                          rotate_left
                          ·intro w'
                           go_simp
                           with_reducible rfl
                          rotate_left
                          ·simp only [Act.put, List.setIfInBounds_toArray, List.set_cons_zero, List.set_cons_succ, i64_w, i32_w]
                           rfl
                          refine pure_ (i := 10) (N := some 119) (v := ?_) (a' := ?_) #[true, true, true, true, true, true, true, true, true, true, true, false, false, false, false, false, false, false, false, false, false, false, false, false, false, false, false, false, false] rfl rfl (any_of HT_.out (by kernel_rfl)) (fun _ _ _ h => h) (Or.inl ⟨by rfl, ?_⟩) ?_ ?_
                          rotate_left
                          ·intro w'
                           go_simp
                           with_reducible rfl
                          rotate_left
                          ·simp only [Act.put, List.setIfInBounds_toArray, List.set_cons_zero, List.set_cons_succ, i64_w, i32_w]
                           rfl
                          refine pure_ (i := 11) (N := some 120) (v := ?_) (a' := ?_) #[true, true, true, true, true, true, true, true, true, true, true, true, false, false, false, false, false, false, false, false, false, false, false, false, false, false, false, false, false] rfl rfl (any_of HT_.out (by kernel_rfl)) (fun _ _ _ h => h) (Or.inl ⟨by rfl, ?_⟩) ?_ ?_
                          rotate_left
                          ·intro w'
                           go_simp
                           with_reducible rfl
                          rotate_left
                          ·simp only [Act.put, List.setIfInBounds_toArray, List.set_cons_zero, List.set_cons_succ, i64_w, i32_w]
                           rfl
                          refine pure_ (i := 12) (N := some 121) (v := ?_) (a' := ?_) #[true, true, true, true, true, true, true, true, true, true, true, true, true, false, false, false, false, false, false, false, false, false, false, false, false, false, false, false, false] rfl rfl (any_of HT_.out (by kernel_rfl)) (fun _ _ _ h => h) (Or.inl ⟨by rfl, ?_⟩) ?_ ?_
                          rotate_left
                          ·intro w'
                           go_simp
                           with_reducible rfl
                          rotate_left
                          ·simp only [Act.put, List.setIfInBounds_toArray, List.set_cons_zero, List.set_cons_succ, i64_w, i32_w]
                           rfl
                          refine pure_ (i := 13) (N := some 122) (v := ?_) (a' := ?_) #[true, true, true, true, true, true, true, true, true, true, true, true, true, true, false, false, false, false, false, false, false, false, false, false, false, false, false, false, false] rfl rfl (any_of HT_.out (by kernel_rfl)) (fun _ _ _ h => h) (Or.inl ⟨by rfl, ?_⟩) ?_ ?_
                          rotate_left
                          ·intro w'
                           go_simp
                           with_reducible rfl
                          rotate_left
                          ·simp only [Act.put, List.setIfInBounds_toArray, List.set_cons_zero, List.set_cons_succ, i64_w, i32_w]
                           rfl
                          refine pure_ (i := 14) (N := some 123) (v := ?_) (a' := ?_) #[true, true, true, true, true, true, true, true, true, true, true, true, true, true, true, false, false, false, false, false, false, false, false, false, false, false, false, false, false] rfl rfl (any_of HT_.out (by kernel_rfl)) (fun _ _ _ h => h) (Or.inl ⟨by rfl, ?_⟩) ?_ ?_
                          rotate_left
                          ·intro w'
                           go_simp
                           with_reducible rfl
                          rotate_left
                          ·simp only [Act.put, List.setIfInBounds_toArray, List.set_cons_zero, List.set_cons_succ, i64_w, i32_w]
                           rfl
                          refine pure_ (i := 15) (N := some 124) (v := ?_) (a' := ?_) #[true, true, true, true, true, true, true, true, true, true, true, true, true, true, true, true, false, false, false, false, false, false, false, false, false, false, false, false, false] rfl rfl (any_of HT_.out (by kernel_rfl)) (fun _ _ _ h => h) (Or.inl ⟨by rfl, ?_⟩) ?_ ?_
                          rotate_left
                          ·intro w'
                           go_simp
                           with_reducible rfl
                          rotate_left
                          ·simp only [Act.put, List.setIfInBounds_toArray, List.set_cons_zero, List.set_cons_succ, i64_w, i32_w]
                           rfl
                          refine pure_ (i := 16) (N := some 125) (v := ?_) (a' := ?_) #[true, true, true, true, true, true, true, true, true, true, true, true, true, true, true, true, true, false, false, false, false, false, false, false, false, false, false, false, false] rfl rfl (any_of HT_.out (by kernel_rfl)) (fun _ _ _ h => h) (Or.inl ⟨by rfl, ?_⟩) ?_ ?_
                          rotate_left
                          ·intro w'
                           go_simp
                           with_reducible rfl
                          rotate_left
                          ·simp only [Act.put, List.setIfInBounds_toArray, List.set_cons_zero, List.set_cons_succ, i64_w, i32_w]
                           rfl
                          refine pure_ (i := 17) (N := some 126) (v := ?_) (a' := ?_) #[true, true, true, true, true, true, true, true, true, true, true, true, true, true, true, true, true, true, false, false, false, false, false, false, false, false, false, false, false] rfl rfl (any_of HT_.out (by kernel_rfl)) (fun _ _ _ h => h) (Or.inl ⟨by rfl, ?_⟩) ?_ ?_
                          rotate_left
                          ·intro w'
                           go_simp
                           with_reducible rfl
                          rotate_left
                          ·simp only [Act.put, List.setIfInBounds_toArray, List.set_cons_zero, List.set_cons_succ, i64_w, i32_w]
                           rfl
                          refine pure_ (i := 18) (N := some 127) (v := ?_) (a' := ?_) #[true, true, true, true, true, true, true, true, true, true, true, true, true, true, true, true, true, true, true, false, false, false, false, false, false, false, false, false, false] rfl rfl (any_of HT_.out (by kernel_rfl)) (fun _ _ _ h => h) (Or.inl ⟨by rfl, ?_⟩) ?_ ?_
                          rotate_left
                          ·intro w'
                           go_simp
                           with_reducible rfl
                          rotate_left
                          ·simp only [Act.put, List.setIfInBounds_toArray, List.set_cons_zero, List.set_cons_succ, i64_w, i32_w]
                           rfl
                          refine pure_ (i := 19) (N := some 128) (v := ?_) (a' := ?_) #[true, true, true, true, true, true, true, true, true, true, true, true, true, true, true, true, true, true, true, true, false, false, false, false, false, false, false, false, false] rfl rfl (any_of HT_.out (by kernel_rfl)) (fun _ _ _ h => h) (Or.inl ⟨by rfl, ?_⟩) ?_ ?_
                          rotate_left
                          ·intro w'
                           go_simp
                           with_reducible rfl
                          rotate_left
                          ·simp only [Act.put, List.setIfInBounds_toArray, List.set_cons_zero, List.set_cons_succ, i64_w, i32_w]
                           rfl
                          refine pure_ (i := 20) (N := some 129) (v := ?_) (a' := ?_) #[true, true, true, true, true, true, true, true, true, true, true, true, true, true, true, true, true, true, true, true, true, false, false, false, false, false, false, false, false] rfl rfl (any_of HT_.out (by kernel_rfl)) (fun _ _ _ h => h) (Or.inl ⟨by rfl, ?_⟩) ?_ ?_
                          rotate_left
                          ·intro w'
                           go_simp
                           with_reducible rfl
                          rotate_left
                          ·simp only [Act.put, List.setIfInBounds_toArray, List.set_cons_zero, List.set_cons_succ, i64_w, i32_w]
                           rfl
                          refine pure_ (i := 21) (N := some 130) (v := ?_) (a' := ?_) #[true, true, true, true, true, true, true, true, true, true, true, true, true, true, true, true, true, true, true, true, true, true, false, false, false, false, false, false, false] rfl rfl (any_of HT_.out (by kernel_rfl)) (fun _ _ _ h => h) (Or.inl ⟨by rfl, ?_⟩) ?_ ?_
                          rotate_left
                          ·intro w'
                           go_simp
                           with_reducible rfl
                          rotate_left
                          ·simp only [Act.put, List.setIfInBounds_toArray, List.set_cons_zero, List.set_cons_succ, i64_w, i32_w]
                           rfl
                          refine pure_ (i := 22) (N := some 131) (v := ?_) (a' := ?_) #[true, true, true, true, true, true, true, true, true, true, true, true, true, true, true, true, true, true, true, true, true, true, true, false, false, false, false, false, false] rfl rfl (any_of HT_.out (by kernel_rfl)) (fun _ _ _ h => h) (Or.inl ⟨by rfl, ?_⟩) ?_ ?_
                          rotate_left
                          ·intro w'
                           go_simp
                           with_reducible rfl
                          rotate_left
                          ·simp only [Act.put, List.setIfInBounds_toArray, List.set_cons_zero, List.set_cons_succ, i64_w, i32_w]
                           rfl
                          refine pure_ (i := 23) (N := some 132) (v := ?_) (a' := ?_) #[true, true, true, true, true, true, true, true, true, true, true, true, true, true, true, true, true, true, true, true, true, true, true, true, false, false, false, false, false] rfl rfl (any_of HT_.out (by kernel_rfl)) (fun _ _ _ h => h) (Or.inl ⟨by rfl, ?_⟩) ?_ ?_
                          rotate_left
                          ·intro w'
                           go_simp
                           with_reducible rfl
                          rotate_left
                          ·simp only [Act.put, List.setIfInBounds_toArray, List.set_cons_zero, List.set_cons_succ, i64_w, i32_w]
                           rfl
                          refine take_ (i := 24) (N := some 133) (v := ?_) (a' := ?_) #[true, true, true, true, true, true, true, true, true, true, true, true, true, true, true, true, true, true, true, true, true, true, true, true, true, false, false, false, false] rfl rfl (take_ofW HT_.out HW_.out (by kernel_rfl)) (fun _ _ _ h => h) (Or.inl ⟨by rfl, ?_⟩) hHeld ?_ ?_
                          rotate_left
                          ·rintro w' ⟨s0, s1, s2, s3, s4, s5, s6, s7, s8, s9, s10, s11, s12, s13, s14, s15⟩
                           go_simp
                           with_reducible rfl
                          rotate_left
                          ·simp only [Act.put, List.setIfInBounds_toArray, List.set_cons_zero, List.set_cons_succ, i64_w, i32_w]
                           rfl
                          refine pure_ (i := 25) (N := some 134) (v := ?_) (a' := ?_) #[true, true, true, true, true, true, true, true, true, true, true, true, true, true, true, true, true, true, true, true, true, true, true, true, true, true, false, false, false] rfl rfl (any_of HT_.out (by kernel_rfl)) (fun _ _ _ h => h) (Or.inl ⟨by rfl, ?_⟩) ?_ ?_
                          rotate_left
                          ·intro w'
                           go_simp
                           with_reducible rfl
                          rotate_left
                          ·simp only [Act.put, List.setIfInBounds_toArray, List.set_cons_zero, List.set_cons_succ, i64_w, i32_w]
                           rfl
                          refine pure_ (i := 26) (N := some 135) (v := ?_) (a' := ?_) #[true, true, true, true, true, true, true, true, true, true, true, true, true, true, true, true, true, true, true, true, true, true, true, true, true, true, true, false, false] rfl rfl (any_of HT_.out (by kernel_rfl)) (fun _ _ _ h => h) (Or.inl ⟨by rfl, ?_⟩) ?_ ?_
                          rotate_left
                          ·intro w'
                           go_simp
                           with_reducible rfl
                          rotate_left
                          ·simp only [Act.put, List.setIfInBounds_toArray, List.set_cons_zero, List.set_cons_succ, i64_w, i32_w]
                           rfl
                          refine pure_ (i := 27) (N := some 136) (v := ?_) (a' := ?_) #[true, true, true, true, true, true, true, true, true, true, true, true, true, true, true, true, true, true, true, true, true, true, true, true, true, true, true, true, false] rfl rfl (any_of HT_.out (by kernel_rfl)) (fun _ _ _ h => h) (Or.inl ⟨by rfl, ?_⟩) ?_ ?_
                          rotate_left
                          ·intro w'
                           go_simp
                           with_reducible rfl
                          rotate_left
                          ·simp only [Act.put, List.setIfInBounds_toArray, List.set_cons_zero, List.set_cons_succ, i64_w, i32_w]
                           rfl
                          refine pure_ (i := 28) (N := some 6) (v := ?_) (a' := ?_) #[true, true, true, true, true, true, true, true, true, true, true, true, true, true, true, true, true, true, true, true, true, true, true, true, true, true, true, true, true] rfl rfl (any_of HT_.out (by kernel_rfl)) (fun _ _ _ h => h) (Or.inl ⟨by rfl, ?_⟩) ?_ ?_
                          rotate_left
                          ·intro w'
                           go_simp
                           with_reducible rfl
                          rotate_left
                          ·simp only [Act.put, List.setIfInBounds_toArray, List.set_cons_zero, List.set_cons_succ, i64_w, i32_w]
                           rfl
                          refine done_ (done_of HT_.out (by kernel_rfl)) ?_
                          try go_wp2
                          go_ret
                          exact ⟨by first | rfl | (simp [errW_none, errW_some] <;> rfl) | (simp only [← hji19, ← hji23]; first | rfl | (simp [errW_none, errW_some] <;> rfl)) | (simp [*, errW_none, errW_some] <;> rfl), by repeat (first | (with_reducible first | exact HB.out | apply below_alloc | apply pw_below_drewN | apply below_drew1 | refine below_set ?_ GE315.out) | exact HB.out)⟩
                       ·rw [if_neg c55] at H
                        have c55b0 : decide (t335 < a0_2) = false := decide_eq_false c55
                        clear c55
                        exact absurd ((Option.some.inj H).trans HRt.out) (by decide)
                      ·rw [if_neg c53] at H
                       exact absurd H (by simp)
                     ·rw [if_neg c52] at H
                      exact absurd H (by simp)
                 ·rw [if_neg c42] at H
                  exact absurd H (by simp)
                ·rw [if_neg c41] at H
                 exact absurd H (by simp)
           ·rw [if_neg c25] at H
            exact absurd H (by simp)
          ·rw [if_neg c24] at H
           exact absurd H (by simp)
        ·rw [if_neg c21] at H
         exact absurd H (by simp)
       ·rw [if_neg c20] at H
        exact absurd H (by simp)
     ·rw [if_neg c17] at H
      have c17b0 : (t317 == 0) = false := beq_eq_false_iff_ne.mpr c17
      have c17b1 : (t317 != 0) = true := bne_iff_ne.mpr c17
      obtain rfl := Option.some.inj H
      have hcz67_0 : wc.cell? ⟨gb315, 0, none⟩ = some (.string a0_0) := (blk_cell BK315.out 0).trans rfl
      have hcz67_1 : wc.cell? ⟨gb315, 1, none⟩ = some (.int .i64 a0_1) := (blk_cell BK315.out 1).trans rfl
      have hcz67_2 : wc.cell? ⟨gb315, 2, none⟩ = some (.int .i64 a0_2) := (blk_cell BK315.out 2).trans rfl
      have hcz67_3 : wc.cell? ⟨gb315, 3, none⟩ = some (.slice A0_3 l0_3.length c0_3) := (blk_cell BK315.out 3).trans rfl
      have hfz67_0 := blk_frozen BK315.out 0
      have hfz67_1 := blk_frozen BK315.out 1
      have hfz67_2 := blk_frozen BK315.out 2
      have hfz67_3 := blk_frozen BK315.out 3
      go_wp2_with (first | ((with_reducible refine gate_callee (f := 28) rfl ?_); refine goesL_ (some 24) rfl rfl Tryd.func28 (by kernel_rfl) rfl #[.agg #[.string a0_0, .int .i64 a0_1, .int .i64 a0_2, .slice A0_3 l0_3.length c0_3]] rfl (by (try simp only [List.map_toArray, List.map_cons, List.map_nil]); first | done | rfl | (simp only [List.length_drop, List.length_take]; rfl)) ?_; (with_reducible refine (ir_Check.calls kj3 a0_0 a0_1 a0_2 _ _ l0_3 t317 _ ?side1 ?side2 A14.out (hL := ?side99)).mono ?_); (case side1 => repeat (first | exact (Kd.C_below HR0_3.out HB.out) | (with_reducible refine Kd.C_alloc ?_ _) | (with_reducible refine Kd.C_drewN ?_ _) | (with_reducible refine Kd.C_drew ?_))); (case side2 => exact HC0_3.out); (case side99 => exact LaidW.below HLd.out (by repeat (first | (with_reducible first | exact HB.out | apply below_alloc | apply pw_below_drewN | apply below_drew1 | refine below_set ?_ GE315.out) | exact HB.out))); rintro e w68 ⟨rfl, hb⟩; refine ⟨_, rfl, ?_⟩; have n0_ := Aside0.mk (blk_below (g := gb315) (o := .cells #[.string a0_0, .int .i64 a0_1, .int .i64 a0_2, .slice A0_3 l0_3.length c0_3] 34 (0, 0)) (by (with_reducible repeat (first | refine blk_drewN ?_ _ | refine blk_drew ?_ | refine blk_alloc ?_ _)); exact BK315.out) hb); have n1_ := Aside0.mk (below_step (by repeat (first | (with_reducible first | exact HB.out | apply below_alloc | apply pw_below_drewN | apply below_drew1 | refine below_set ?_ GE315.out) | exact HB.out)) hb); clear BK315; clear HB; have BK315 := n0_; have HB := n1_; clear n0_ n1_; (try clear hb); (try clear hb2); (try clear hk); (try clear hi); have hcz69_0 : w68.cell? ⟨gb315, 0, none⟩ = some (.string a0_0) := (blk_cell BK315.out 0).trans rfl; have hcz69_1 : w68.cell? ⟨gb315, 1, none⟩ = some (.int .i64 a0_1) := (blk_cell BK315.out 1).trans rfl; have hcz69_2 : w68.cell? ⟨gb315, 2, none⟩ = some (.int .i64 a0_2) := (blk_cell BK315.out 2).trans rfl; have hcz69_3 : w68.cell? ⟨gb315, 3, none⟩ = some (.slice A0_3 l0_3.length c0_3) := (blk_cell BK315.out 3).trans rfl; have hfz69_0 := blk_frozen BK315.out 0; have hfz69_1 := blk_frozen BK315.out 1; have hfz69_2 := blk_frozen BK315.out 2; have hfz69_3 := blk_frozen BK315.out 3) | ((with_reducible refine gate_callee (f := 29) rfl ?_); refine goesL_ (some 27) rfl rfl Tryd.func29 (by kernel_rfl) rfl #[.agg #[.string a0_0, .int .i64 a0_1, .int .i64 a0_2, .slice A0_3 l0_3.length c0_3]] rfl (by (try simp only [List.map_toArray, List.map_cons, List.map_nil]); first | done | rfl | (simp only [List.length_drop, List.length_take]; rfl)) ?_; (with_reducible refine (cubbyref07_Check.calls kj3 a0_0 a0_1 a0_2 _ _ l0_3 t318 _ ?side1 ?side2 A15.out).mono ?_); (case side1 => repeat (first | exact (Kd.C_below HR0_3.out HB.out) | (with_reducible refine Kd.C_alloc ?_ _) | (with_reducible refine Kd.C_drewN ?_ _) | (with_reducible refine Kd.C_drew ?_))); (case side2 => exact HC0_3.out); rintro e w70 ⟨rfl, hb⟩; refine ⟨_, rfl, ?_⟩; have n0_ := Aside0.mk (blk_below (g := gb315) (o := .cells #[.string a0_0, .int .i64 a0_1, .int .i64 a0_2, .slice A0_3 l0_3.length c0_3] 34 (0, 0)) (by (with_reducible repeat (first | refine blk_drewN ?_ _ | refine blk_drew ?_ | refine blk_alloc ?_ _)); exact BK315.out) hb); have n1_ := Aside0.mk (below_step (by repeat (first | (with_reducible first | exact HB.out | apply below_alloc | apply pw_below_drewN | apply below_drew1 | refine below_set ?_ GE315.out) | exact HB.out)) hb); clear BK315; clear HB; have BK315 := n0_; have HB := n1_; clear n0_ n1_; (try clear hb); (try clear hb2); (try clear hk); (try clear hi)))
      go_ret
      exact ⟨by first | rfl | (simp [errW_none, errW_some] <;> rfl) | (simp [*, errW_none, errW_some] <;> rfl), by repeat (first | (with_reducible first | exact HB.out | apply below_alloc | apply pw_below_drewN | apply below_drew1 | refine below_set ?_ GE315.out) | exact HB.out)⟩
    ·rw [if_neg c16] at H
     have c16b0 : (t317 == t318) = false := beq_eq_false_iff_ne.mpr c16
     have c16b1 : (t317 != t318) = true := bne_iff_ne.mpr c16
     exact absurd ((Option.some.inj H).trans HRt.out) (by decide)

end Go.Proofs.YtgmklfaknomakaaDoor.Q
namespace Go.Proofs.YtgmklfaknomakaaDoor.RIrBlocks
open Go Go.RowKit Go.Proofs.YtgmklfaknomakaaDoorW.PrintWords Go.Proofs.YtgmklfaknomakaaDoor.Q
set_option linter.unusedVariables false
def GIns (x : SIns) : Prop := (Lit.int .i64 (x.f0)).wf = true ∧ (Lit.int .i64 (x.f1)).wf = true ∧ (Lit.int .i64 (x.f2)).wf = true ∧ (Lit.int .i64 (x.f3)).wf = true ∧ (x.f4).size ≤ 140737488351232 ∧ ((x.f5).length * 8 ≤ 140737488351232 ∧ (x.f5).length ≤ maxLen ∧ ∀ y1 ∈ (x.f5), (Lit.int .i64 (y1)).wf = true)
def IrBlocks.Pure : Prop := ∀ (a0_0 : ByteArray) (a0_1 : Int) (a0_2 : Int) (l0_3 : List (List (SIns))) (a1 : Int) (a2 : Int), (a0_0).size ≤ 140737488351232 → (Lit.int .i64 (a0_1)).wf = true → (Lit.int .i64 (a0_2)).wf = true → ((l0_3).length * 24 ≤ 140737488351232 ∧ (l0_3).length ≤ maxLen ∧ ∀ y1 ∈ (l0_3), ((y1).length * 72 ≤ 140737488351232 ∧ (y1).length ≤ maxLen ∧ ∀ y2 ∈ (y1), GIns (y2))) → (Lit.int .u8 (a1)).wf = true → (Lit.int .u8 (a2)).wf = true → ∃ k, cubbylaw07_IrBlocks.f k a0_0 a0_1 a0_2 l0_3 a1 a2 = some true
end Go.Proofs.YtgmklfaknomakaaDoor.RIrBlocks
namespace Go.Proofs.YtgmklfaknomakaaDoor.Plain
open Go Go.RowKit Go.Proofs.YtgmklfaknomakaaDoorW.PrintWords Go.Proofs.YtgmklfaknomakaaDoorW.PrintMore

theorem wrap_nat {j : Nat} (h : j ≤ 4611686018427387904) : wrap64 ((j : Int) + 1) = ((j + 1 : Nat) : Int) := by
  unfold wrap64
  omega
theorem wrap_pred {j : Nat} (h0 : 0 < j) (h : j ≤ 4611686018427387904) : wrap64 ((j : Int) - 1) = ((j - 1 : Nat) : Int) := by
  unfold wrap64
  omega
theorem wrap_id {i : Int} (h0 : -4611686018427387904 ≤ i) (h : i ≤ 4611686018427387904) : wrap64 i = i := by
  unfold wrap64
  omega
theorem rd_nat (l : List Int) (j : Nat) : rd l (j : Int) = l.getD j 0 := rfl
theorem rd_get {l : List Int} {j : Nat} (h : j < l.length) : rd l (j : Int) = l[j] := by
  rw [rd_nat, List.getD_eq_getElem?_getD, List.getElem?_eq_getElem h]
  rfl
theorem rd_int {l : List Int} {i : Int} (h0 : 0 ≤ i) (h : i < l.length) : ∃ hj : i.toNat < l.length, rd l i = l[i.toNat] := by
  have hj : i.toNat < l.length := by omega
  refine ⟨hj, ?_⟩
  show l.getD i.toNat 0 = _
  rw [List.getD_eq_getElem?_getD, List.getElem?_eq_getElem hj]
  rfl
theorem drop_cons {α : Type} {l : List α} {j : Nat} (h : j < l.length) : l.drop j = l[j] :: l.drop (j + 1) := by
  rw [List.drop_eq_getElem_cons h]
theorem i64_range {n : Int} (h : (Lit.int .i64 n).wf = true) : -9223372036854775808 ≤ n ∧ n ≤ 9223372036854775807 := by
  have := bounds_i64 h
  omega
theorem loop_eq (bs : ByteArray) : ∀ (n i : Nat) (r : List UInt8), bs.size - i = n → ByteArray.toList.loop bs i r = r.reverse ++ bs.data.toList.drop i := by
  intro n
  induction n with
  | zero =>
    intro i r h
    unfold ByteArray.toList.loop
    rw [if_neg (by omega), List.drop_eq_nil_of_le (by simp; have : bs.data.size = bs.size := rfl; omega), List.append_nil]
  | succ n ih =>
    intro i r h
    unfold ByteArray.toList.loop
    have hs : bs.data.size = bs.size := rfl
    rw [if_pos (by omega), ih (i + 1) _ (by omega), List.drop_eq_getElem_cons (i := i) (by simp; omega)]
    have : bs.get! i = bs.data.toList[i]'(by simp; omega) := by
      show bs.data[i]! = _
      rw [getElem!_pos bs.data i (by omega)]
      simp
    rw [this]
    simp
/-- A string's bytes as a list, by either road. -/
theorem toList_data (bs : ByteArray) : bs.toList = bs.data.toList := by
  unfold ByteArray.toList
  rw [loop_eq bs _ 0 [] rfl]
  simp
theorem toList_inj {a b : ByteArray} : a.toList = b.toList ↔ a = b := by
  rw [toList_data, toList_data]
  constructor
  · intro h
    cases a
    cases b
    simp at h
    rw [h]
  · rintro rfl
    rfl
end Go.Proofs.YtgmklfaknomakaaDoor.Plain
namespace Go.Proofs.YtgmklfaknomakaaDoor.Plain
open Go Go.RowKit Go.Proofs.YtgmklfaknomakaaDoorW.PrintWords Go.Proofs.YtgmklfaknomakaaDoorW.PrintMore

/-- A loop from the place i on, when it is known at its end, and each round leads it one place back. -/
theorem scan {α : Type} (g : Nat → Nat → Option α) (n : Nat) (R : Nat → α) (hend : Ev (fun k => g k n) (R n)) (hstep : ∀ i, i < n → Ev (fun k => g k (i + 1)) (R (i + 1)) → Ev (fun k => g k i) (R i)) : ∀ i, i ≤ n → Ev (fun k => g k i) (R i) := by
  have h : ∀ d i, i + d = n → Ev (fun k => g k i) (R i) := by
    intro d
    induction d with
    | zero =>
      intro i hi
      obtain rfl : i = n := by omega
      exact hend
    | succ d ih =>
      intro i hi
      exact hstep i (by omega) (ih (i + 1) (by omega))
  intro i hi
  exact h (n - i) i (by omega)
/-- A loop that ends early, with the one answer e, at the first place that is bad; else it goes on behind its end. -/
theorem seek {α : Type} (g : Nat → Nat → Option α) (n : Nat) (bad : Nat → Prop) (e r : α) (hbad : ∀ i, i < n → bad i → Ev (fun k => g k i) e) (hgo : ∀ i, i < n → ¬ bad i → ∀ r', Ev (fun k => g k (i + 1)) r' → Ev (fun k => g k i) r')
    (hr : (∃ i, i < n ∧ bad i) → r = e) (hend : (∀ i, i < n → ¬ bad i) → Ev (fun k => g k n) r) : Ev (fun k => g k 0) r := by
  by_cases h : ∃ i, i < n ∧ bad i
  · obtain rfl := hr h
    obtain ⟨m, hm, hb⟩ := h
    refine scan g m (fun _ => r) (hbad m hm hb) ?_ 0 (Nat.zero_le _)
    intro i hi hE
    by_cases c : bad i
    · exact hbad i (by omega) c
    · exact hgo i (by omega) c _ hE
  · have hn : ∀ i, i < n → ¬ bad i := fun i hi hb => h ⟨i, hi, hb⟩
    refine scan g n (fun _ => r) (hend hn) ?_ 0 (Nat.zero_le _)
    intro i hi hE
    exact hgo i hi (hn i hi) _ hE
end Go.Proofs.YtgmklfaknomakaaDoor.Plain
namespace Go.Proofs.YtgmklfaknomakaaDoor.PlainIr
open Go Go.RowKit Go.Proofs.YtgmklfaknomakaaDoorW.PrintWords Go.Proofs.YtgmklfaknomakaaDoorW.PrintMore Go.Proofs.YtgmklfaknomakaaDoor.Q Go.Proofs.YtgmklfaknomakaaDoor.Plain
set_option linter.unusedVariables false
set_option linter.unusedSimpArgs false

theorem op_cases {op : Int} (h : 1 ≤ op ∧ op ≤ 14) : op = 1 ∨ op = 2 ∨ op = 3 ∨ op = 4 ∨ op = 5 ∨ op = 6 ∨ op = 7 ∨ op = 8 ∨ op = 9 ∨ op = 10 ∨ op = 11 ∨ op = 12 ∨ op = 13 ∨ op = 14 := by omega
theorem shape_none {op : Int} (h : ¬ (1 ≤ op ∧ op ≤ 14)) : ir_shape.f op = some ⟨#[]⟩ := by
  unfold ir_shape.f
  split
  · have : op = 0 := by omega
    subst this
    rfl
  · rfl
theorem nil_toList : (⟨#[]⟩ : ByteArray).toList = [] := by decide +kernel
/-- What an instruction reads. -/
def uses (op a b : Int) (args : List Int) : List Int :=
  if op = 2 ∨ op = 8 ∨ op = 10 ∨ op = 13 ∨ op = 14 then [a] else if (3 ≤ op ∧ op ≤ 7) ∨ op = 9 then [a, b] else if op = 11 then args else []
/-- What it writes. -/
def defOf (op d : Int) : Int := if (1 ≤ op ∧ op ≤ 8) ∨ op = 11 then d else -1
/-- Is it a block's last one? -/
def lastOp (op : Int) : Bool := decide (12 ≤ op ∧ op ≤ 14)
def targets7 (op d a b : Int) : List Int := if op = 12 then [a] else if op = 13 then [b, d] else []

/-- An op's shape: is each of its three fields a register? -/
structure Sh (op : Int) (s : ByteArray) : Prop where
  ne : ¬ s.toList = []
  size : s.size = 3
  b0 : bt s 0 = 114 ↔ ((1 ≤ op ∧ op ≤ 8) ∨ op = 11)
  b1 : bt s 1 = 114 ↔ ((2 ≤ op ∧ op ≤ 10) ∨ op = 13 ∨ op = 14)
  b2 : bt s 2 = 114 ↔ ((3 ≤ op ∧ op ≤ 7) ∨ op = 9)
  f0 : bt s 0 = 32 ↔ (op = 9 ∨ op = 10 ∨ op = 12 ∨ op = 14)
  f1 : bt s 1 = 32 ↔ op = 11
  f2 : bt s 2 = 32 ↔ (op = 1 ∨ op = 2 ∨ op = 8 ∨ op = 10 ∨ op = 11 ∨ op = 12 ∨ op = 14)
  n0 : ¬ bt s 0 = 110
  n1 : bt s 1 = 110 ↔ op = 1
  n2 : ¬ bt s 2 = 110
theorem shape_some {op : Int} (h : 1 ≤ op ∧ op ≤ 14) : ∃ s, ir_shape.f op = some s ∧ Sh op s := by
  rcases op_cases h with rfl | rfl | rfl | rfl | rfl | rfl | rfl | rfl | rfl | rfl | rfl | rfl | rfl | rfl
  all_goals exact ⟨_, rfl, by decide +kernel, rfl, by decide +kernel, by decide +kernel, by decide +kernel, by decide +kernel, by decide +kernel, by decide +kernel, by decide +kernel, by decide +kernel, by decide +kernel⟩

theorem def_eq (op d a b : Int) (nm : ByteArray) (args : List Int) : ir_Def.f op d a b nm args = some (defOf op d) := by
  unfold ir_Def.f defOf
  by_cases h : 1 ≤ op ∧ op ≤ 14
  · obtain ⟨s, hs, S⟩ := shape_some h
    rw [hs, Option.bind_some, if_neg S.ne, if_pos (by rw [S.size]; decide)]
    by_cases h0 : (1 ≤ op ∧ op ≤ 8) ∨ op = 11
    · rw [if_pos (S.b0.2 h0), if_pos h0]
    · rw [if_neg (fun h => h0 (S.b0.1 h)), if_neg h0]
  · rw [shape_none h, Option.bind_some, if_pos nil_toList, if_neg (by omega)]
theorem refdef_eq (op d a b : Int) (nm : ByteArray) (args : List Int) : cubbyref07_Def.f op d a b nm args = some (defOf op d) := by
  unfold cubbyref07_Def.f defOf
  by_cases h : (1 ≤ op ∧ op ≤ 8) ∨ op = 11
  · rw [if_pos h]
    repeat' split
    all_goals first | rfl | omega
  · rw [if_neg h]
    repeat' split
    all_goals first | rfl | omega
theorem last_eq (op : Int) : ir_Last.f op = some (lastOp op) := by
  unfold ir_Last.f lastOp
  split
  · rw [Option.some.injEq, decide_eq_decide]
    omega
  · rw [decide_eq_false (by omega)]
theorem reflast_eq (op : Int) : cubbyref07_Last.f op = some (lastOp op) := by
  unfold cubbyref07_Last.f lastOp
  split
  · rw [decide_eq_true (by omega)]
  · split
    · rw [decide_eq_true (by omega)]
    · by_cases h : op = 14
      · rw [decide_eq_true (by omega), beq_iff_eq.2 h]
      · rw [decide_eq_false (by omega), beq_eq_false_iff_ne.2 h]
theorem targets_eq (op d a b : Int) (nm : ByteArray) (args : List Int) : ir_Targets.f op d a b nm args = some (targets7 op d a b) := by
  unfold ir_Targets.f targets7
  split
  · rfl
  · split <;> rfl
theorem reftargets_eq (op d a b : Int) (nm : ByteArray) (args : List Int) : cubbyref07_Targets.f op d a b nm args = some (targets7 op d a b) := by
  unfold cubbyref07_Targets.f targets7
  simp only [Option.bind_some]
  split
  · rw [if_pos (by simp)]; rfl
  · split
    · rw [if_pos (by simp)]; rfl
    · rfl

theorem uses_j (k : Nat) (out : List Int) (s : ByteArray) (op d a b : Int) (nm : ByteArray) (args : List Int) (ho : out.length ≤ 1) (ha : args.length ≤ 1000000000) (hs : s.size = 3) :
    ir_Uses.j0 (k + 1) out s op d a b nm args = some (out ++ (if bt s 2 = 114 then [b] else []) ++ (if op = 11 then args else [])) := by
  simp only [ir_Uses.j0]
  rw [if_pos (by rw [hs]; decide)]
  split
  · rw [if_pos (by omega), Option.bind_some]
    split
    · rw [if_pos (by simp; omega)]
    · rw [List.append_nil]
  · split
    · rw [if_pos (by omega)]
      simp
    · simp
theorem uses_ev (op d a b : Int) (nm : ByteArray) (args : List Int) (ha : args.length ≤ 1000000000) : Ev (fun k => ir_Uses.f k op d a b nm args) (uses op a b args) := by
  refine ⟨1, fun k hk => ?_⟩
  obtain ⟨k, rfl⟩ : ∃ m, k = m + 1 := ⟨k - 1, by omega⟩
  show ir_Uses.f (k + 1) op d a b nm args = some (uses op a b args)
  unfold ir_Uses.f
  by_cases h : 1 ≤ op ∧ op ≤ 14
  · obtain ⟨s, hs, S⟩ := shape_some h
    rw [hs, Option.bind_some, if_neg S.ne, if_pos (by rw [S.size]; decide)]
    have hb2 : (if bt s 2 = 114 then [b] else []) = if (3 ≤ op ∧ op ≤ 7) ∨ op = 9 then [b] else [] := by
      by_cases h2 : (3 ≤ op ∧ op ≤ 7) ∨ op = 9
      · rw [if_pos (S.b2.2 h2), if_pos h2]
      · rw [if_neg (fun h => h2 (S.b2.1 h)), if_neg h2]
    by_cases h1 : (2 ≤ op ∧ op ≤ 10) ∨ op = 13 ∨ op = 14
    · rw [if_pos (S.b1.2 h1), if_pos (by simp), uses_j k _ s op d a b nm args (by simp) ha S.size, hb2]
      unfold uses
      by_cases h2 : (3 ≤ op ∧ op ≤ 7) ∨ op = 9
      · rw [if_pos h2, if_neg (by omega), if_neg (by omega), if_pos h2]
        rfl
      · rw [if_neg h2, if_neg (by omega), if_pos (by omega)]
        rfl
    · rw [if_neg (fun h => h1 (S.b1.1 h)), uses_j k _ s op d a b nm args (by simp) ha S.size, hb2]
      unfold uses
      rw [if_neg (show ¬ ((3 ≤ op ∧ op ≤ 7) ∨ op = 9) by omega), if_neg (show ¬ (op = 2 ∨ op = 8 ∨ op = 10 ∨ op = 13 ∨ op = 14) by omega), if_neg (show ¬ ((3 ≤ op ∧ op ≤ 7) ∨ op = 9) by omega)]
      simp
  · rw [shape_none h, Option.bind_some, if_pos nil_toList]
    unfold uses
    rw [if_neg (by omega), if_neg (by omega), if_neg (by omega)]
theorem refuses_j1 (k : Nat) (op : Int) (c : Bool) (d a b : Int) (nm : ByteArray) (args : List Int) (ha : args.length ≤ 1000000000) (hc : c = decide ((3 ≤ op ∧ op ≤ 7) ∨ op = 9)) (h : ¬ (op = 2 ∨ op = 8 ∨ op = 10 ∨ op = 13 ∨ op = 14)) :
    cubbyref07_Uses.j1 (k + 1) [] op c op d a b nm args = some (uses op a b args) := by
  simp only [cubbyref07_Uses.j1, Option.bind_some]
  unfold uses
  rw [if_neg h]
  by_cases h2 : (3 ≤ op ∧ op ≤ 7) ∨ op = 9
  · rw [if_pos (by rw [hc]; exact decide_eq_true h2), if_pos (by simp), if_pos h2]
    rfl
  · rw [if_neg (by rw [hc]; simpa using h2), if_neg h2]
    split
    · rw [if_pos (by simp; omega)]
      rfl
    · rfl
theorem refuses_ev (op d a b : Int) (nm : ByteArray) (args : List Int) (ha : args.length ≤ 1000000000) : Ev (fun k => cubbyref07_Uses.f k op d a b nm args) (uses op a b args) := by
  refine ⟨2, fun k hk => ?_⟩
  obtain ⟨k, rfl⟩ : ∃ m, k = m + 2 := ⟨k - 2, by omega⟩
  show cubbyref07_Uses.f (k + 2) op d a b nm args = some (uses op a b args)
  unfold cubbyref07_Uses.f
  simp only [Option.bind_some]
  have yes : (op = 2 ∨ op = 8 ∨ op = 10 ∨ op = 13 ∨ op = 14) → cubbyref07_Uses.j0 (k + 2) [] op true op d a b nm args = some (uses op a b args) := fun h => by
    simp only [cubbyref07_Uses.j0, if_true]
    rw [if_pos (by simp)]
    unfold uses
    rw [if_pos h]
    rfl
  by_cases h1 : op = 2
  · rw [if_pos h1, beq_iff_eq.2 h1]
    exact yes (.inl h1)
  rw [if_neg h1]
  by_cases h2 : op = 8
  · rw [if_pos h2, beq_iff_eq.2 h2]
    exact yes (by omega)
  rw [if_neg h2]
  by_cases h3 : op = 10
  · rw [if_pos h3, beq_iff_eq.2 h3]
    exact yes (by omega)
  rw [if_neg h3]
  by_cases h4 : op = 14
  · rw [if_pos h4, beq_iff_eq.2 h4]
    exact yes (by omega)
  rw [if_neg h4]
  by_cases h5 : op = 13
  · rw [beq_iff_eq.2 h5]
    exact yes (by omega)
  rw [beq_eq_false_iff_ne.2 h5]
  simp only [cubbyref07_Uses.j0]
  rw [if_neg (by simp)]
  have g : ∀ c, c = decide ((3 ≤ op ∧ op ≤ 7) ∨ op = 9) → cubbyref07_Uses.j1 (k + 1) [] op c op d a b nm args = some (uses op a b args) := fun c hc => refuses_j1 k op c d a b nm args ha hc (by omega)
  repeat' split
  all_goals
    refine g _ ?_
    first
    | (rename_i h; rw [beq_iff_eq.2 h, decide_eq_true (by omega)])
    | (by_cases h9 : op = 9
       · rw [beq_iff_eq.2 h9, decide_eq_true (by omega)]
       · rw [beq_eq_false_iff_ne.2 h9, decide_eq_false (by omega)])
end Go.Proofs.YtgmklfaknomakaaDoor.PlainIr
namespace Go.Proofs.YtgmklfaknomakaaDoor.PlainName
open Go Go.RowKit Go.Proofs.YtgmklfaknomakaaDoorW.PrintWords Go.Proofs.YtgmklfaknomakaaDoorW.PrintMore Go.Proofs.YtgmklfaknomakaaDoor.Q Go.Proofs.YtgmklfaknomakaaDoor.Plain
set_option linter.unusedVariables false
set_option linter.unusedSimpArgs false

/-- A small letter or a digit. -/
def lowD (x : UInt8) : Bool := decide ((97 ≤ x.toNat ∧ x.toNat ≤ 122) ∨ (48 ≤ x.toNat ∧ x.toNat ≤ 57))
/-- A name. -/
def nameOk (s : ByteArray) : Bool := decide (1 ≤ s.size ∧ s.size ≤ 12 ∧ 97 ≤ bt s 0) && s.data.toList.all lowD

theorem cut_has (x : UInt8) : nameCut.data.toList.contains x = lowD x := by
  have h : ∀ n, n < 256 → nameCut.data.toList.contains (UInt8.ofNat n) = lowD (UInt8.ofNat n) := by decide +kernel
  have := h x.toNat x.toNat_lt
  rwa [UInt8.ofNat_toNat] at this
theorem dw_nil {p : UInt8 → Bool} : ∀ {l : List UInt8}, l.dropWhile p = [] ↔ ∀ x, x ∈ l → p x = true
  | [] => by simp
  | a :: t => by
    rw [List.dropWhile_cons]
    by_cases h : p a = true
    · rw [if_pos h, dw_nil (l := t)]
      constructor
      · intro g x hx
        rcases List.mem_cons.1 hx with rfl | hx
        · exact h
        · exact g x hx
      · exact fun g x hx => g x (List.mem_cons_of_mem _ hx)
    · rw [if_neg h]
      constructor
      · intro g
        exact absurd g (by simp)
      · intro g
        exact absurd (g a List.mem_cons_self) h
theorem trim_nil (l cs : List UInt8) : Lib.trimS l cs = [] ↔ l.all (cs.contains ·) = true := by
  unfold Lib.trimS Lib.trimLeftS Lib.trimRightS
  constructor
  · intro h
    rw [dw_nil] at h
    rw [List.all_eq_true]
    intro x hx
    have h2 : x ∈ l.reverse := List.mem_reverse.2 hx
    rw [← List.takeWhile_append_dropWhile (p := fun x => cs.contains x) (l := l.reverse)] at h2
    rcases List.mem_append.1 h2 with h3 | h3
    · exact (List.all_eq_true.1 (List.all_takeWhile (p := fun x => cs.contains x) (l := l.reverse))) x h3
    · exact h x (List.mem_reverse.2 h3)
  · intro h
    have h1 : l.reverse.dropWhile (cs.contains ·) = [] := by
      rw [dw_nil]
      intro x hx
      exact List.all_eq_true.1 h x (List.mem_reverse.1 hx)
    rw [h1]
    rfl
theorem size_list (s : ByteArray) : s.data.toList.length = s.size := by simp
theorem bt_get {s : ByteArray} {j : Nat} (h : j < s.data.toList.length) : bt s (j : Int) = ((s.data.toList[j]).toNat : Int) := by
  have hs := size_list s
  unfold bt
  rw [dif_pos (by omega)]
  rfl
theorem name_eq (s : ByteArray) : ir_Name.f s = some (nameOk s) := by
  have hs := size_list s
  unfold ir_Name.f
  rw [toList_data]
  by_cases h0 : s.data.toList = []
  · have : s.size = 0 := by
      rw [h0] at hs
      exact hs.symm
    rw [if_pos h0]
    unfold nameOk
    rw [decide_eq_false (by omega)]
    rfl
  · have h1 : 0 < s.size := by
      rw [← hs]
      exact List.length_pos_iff.2 h0
    rw [if_neg h0]
    by_cases h2 : (s.size : Int) > 12
    · rw [if_pos h2]
      unfold nameOk
      rw [decide_eq_false (by omega)]
      rfl
    · rw [if_neg h2, if_pos (by omega)]
      by_cases h3 : bt s 0 < 97
      · rw [if_pos h3]
        unfold nameOk
        rw [decide_eq_false (by omega)]
        rfl
      · rw [if_neg h3]
        unfold strings_Trim.f
        rw [if_pos ⟨by omega, rfl⟩]
        simp only [Option.bind_some]
        rw [toList_data]
        unfold nameOk
        rw [decide_eq_true (by omega), Bool.true_and, List.toList_toArray]
        congr 1
        have hc : s.data.toList.all (nameCut.data.toList.contains ·) = s.data.toList.all lowD := by
          congr 1
          funext x
          exact cut_has x
        have ht := trim_nil s.data.toList nameCut.data.toList
        rw [hc] at ht
        by_cases ha : s.data.toList.all lowD = true
        · rw [ha]
          exact beq_iff_eq.2 (ht.2 ha)
        · rw [Bool.not_eq_true _ |>.mp ha]
          exact beq_eq_false_iff_ne.2 fun e => ha (ht.1 e)

/-- What is left to look at, from the place j on. -/
def restOk (s : ByteArray) (j : Nat) : Bool := (s.data.toList.drop j).all lowD && decide (j = 0 → 97 ≤ bt s 0)
theorem refname_loop (s : ByteArray) (hl : s.size ≤ 12) : ∀ (d j : Nat), s.size - j = d → j ≤ s.size → (j = 0 → 0 < s.size) → Ev (fun k => cubbyref07_Name.l0 k s (j : Int)) (restOk s j) := by
  have hs := size_list s
  intro d
  induction d with
  | zero =>
    intro j hd hj h0
    have : restOk s j = true := by
      unfold restOk
      rw [List.drop_eq_nil_of_le (by omega)]
      simp
      omega
    rw [this]
    exact Ev.step (f := fun _ => some true) (fun k => by simp only [cubbyref07_Name.l0]; rw [if_neg (by omega)]) (Ev.now _)
  | succ d ih =>
    intro j hd hj h0
    have hlt : j < s.data.toList.length := by omega
    have hb := bt_get hlt
    have hR : restOk s j = (lowD (s.data.toList[j]) && decide (j = 0 → 97 ≤ bt s 0) && restOk s (j + 1)) := by
      unfold restOk
      rw [drop_cons hlt]
      simp
      cases lowD s.data.toList[j] <;> cases (List.drop (j + 1) s.data.toList).all lowD <;> simp
    have hlow : lowD (s.data.toList[j]) = decide ((97 ≤ bt s (j : Int) ∧ bt s (j : Int) ≤ 122) ∨ (48 ≤ bt s (j : Int) ∧ bt s (j : Int) ≤ 57)) := by
      unfold lowD
      rw [hb]
      apply decide_eq_decide.2
      omega
    have hj0 : j = 0 → bt s (j : Int) = bt s 0 := by
      rintro rfl
      rfl
    rw [hR, hlow]
    have hstep : ∀ k, cubbyref07_Name.l0 (k + 1) s (j : Int) = (if (97 ≤ bt s (j : Int) ∧ bt s (j : Int) ≤ 122) ∨ ((48 ≤ bt s (j : Int) ∧ bt s (j : Int) ≤ 57) ∧ j ≠ 0) then cubbyref07_Name.l0 k s ((j + 1 : Nat) : Int) else some false) := by
      intro k
      simp only [cubbyref07_Name.l0]
      rw [if_pos (by omega : (j : Int) < (s.size : Int)), if_pos (by omega : (0 : Int) ≤ (j : Int)), wrap_nat (by omega)]
      repeat' split
      all_goals first
        | rfl
        | omega
    by_cases c : (97 ≤ bt s (j : Int) ∧ bt s (j : Int) ≤ 122) ∨ ((48 ≤ bt s (j : Int) ∧ bt s (j : Int) ≤ 57) ∧ j ≠ 0)
    · refine Ev.step (fun k => (hstep k).trans (if_pos c)) ?_
      rw [decide_eq_true (by omega), decide_eq_true (by intro h; have := hj0 h; omega), Bool.true_and, Bool.true_and]
      exact ih (j + 1) (by omega) (by omega) (by omega)
    · refine Ev.step (f := fun _ => some false) (fun k => (hstep k).trans (if_neg c)) ?_
      have : (decide ((97 ≤ bt s (j : Int) ∧ bt s (j : Int) ≤ 122) ∨ (48 ≤ bt s (j : Int) ∧ bt s (j : Int) ≤ 57)) && decide (j = 0 → 97 ≤ bt s 0)) = false := by
        by_cases c1 : (97 ≤ bt s (j : Int) ∧ bt s (j : Int) ≤ 122) ∨ (48 ≤ bt s (j : Int) ∧ bt s (j : Int) ≤ 57)
        · rw [decide_eq_false (p := (j = 0 → 97 ≤ bt s 0)) (fun h => by
            have h9 : j = 0 := by omega
            have := hj0 h9
            have := h h9
            omega), Bool.and_false]
        · rw [decide_eq_false c1, Bool.false_and]
      rw [this, Bool.false_and]
      exact Ev.now _
theorem refname_ev (s : ByteArray) : Ev (fun k => cubbyref07_Name.f k s) (nameOk s) := by
  have hyes : (s.size < 1 ∨ 12 < s.size) → Ev (fun k => cubbyref07_Name.j0 k s true) (nameOk s) := fun h => by
    have : nameOk s = false := by
      unfold nameOk
      rw [decide_eq_false (by omega)]
      rfl
    rw [this]
    exact Ev.step (f := fun _ => some false) (fun k => by simp only [cubbyref07_Name.j0, if_true]) (Ev.now _)
  by_cases h1 : (s.size : Int) < 1
  · exact Ev.congr (fun k => by unfold cubbyref07_Name.f; rw [if_pos h1]) (hyes (by omega))
  refine Ev.congr (f := fun k => cubbyref07_Name.j0 k s (decide ((s.size : Int) > 12))) (fun k => by unfold cubbyref07_Name.f; rw [if_neg h1]) ?_
  by_cases h2 : (s.size : Int) > 12
  · rw [decide_eq_true h2]
    exact hyes (by omega)
  · rw [decide_eq_false h2]
    refine Ev.step (f := fun k => cubbyref07_Name.l0 k s ((0 : Nat) : Int)) (fun k => by simp only [cubbyref07_Name.j0]; rw [if_neg (by simp)]; rfl) ?_
    have := refname_loop s (by omega) s.size 0 (by omega) (by omega) (by omega)
    have hR : restOk s 0 = nameOk s := by
      unfold restOk nameOk
      rw [List.drop_zero, Bool.and_comm]
      congr 1
      apply decide_eq_decide.2
      constructor
      · intro h
        exact ⟨by omega, by omega, h rfl⟩
      · intro h _
        exact h.2.2
    rw [← hR]
    exact this
end Go.Proofs.YtgmklfaknomakaaDoor.PlainName
namespace Go.Proofs.YtgmklfaknomakaaDoor.PlainOne
open Go Go.RowKit Go.Proofs.YtgmklfaknomakaaDoorW.PrintWords Go.Proofs.YtgmklfaknomakaaDoorW.PrintMore Go.Proofs.YtgmklfaknomakaaDoor.Q Go.Proofs.YtgmklfaknomakaaDoor.Plain Go.Proofs.YtgmklfaknomakaaDoor.PlainIr Go.Proofs.YtgmklfaknomakaaDoor.PlainName
set_option linter.unusedVariables false
set_option linter.unusedSimpArgs false

/-- Does it write a register? -/
def hasD (op : Int) : Prop := (1 ≤ op ∧ op ≤ 8) ∨ op = 11
instance (op : Int) : Decidable (hasD op) := by unfold hasD; infer_instance
/-- Is what the op does not have 0, or empty? -/
def bareP (op d a b : Int) (nm : ByteArray) (args : List Int) : Prop :=
  (op = 11 ∨ (nm.toList = ([] : List UInt8) ∧ args.length = 0)) ∧ ((op = 9 ∨ op = 10 ∨ op = 12 ∨ op = 14) → d = 0) ∧ (op = 11 → a = 0) ∧ ((op = 1 ∨ op = 2 ∨ op = 8 ∨ op = 10 ∨ op = 11 ∨ op = 12 ∨ op = 14) → b = 0)
instance (op d a b : Int) (nm : ByteArray) (args : List Int) : Decidable (bareP op d a b nm args) := by unfold bareP; infer_instance
def e5 (op : Int) (args : List Int) : Int := if op = 11 ∧ 4 < args.length then 192 else 0
def e4 (op : Int) (nm : ByteArray) (args : List Int) : Int := if op = 11 ∧ nameOk nm = false then 70 else e5 op args
def e3 (blocks op d a b : Int) (nm : ByteArray) (args : List Int) : Int := if (targets7 op d a b).any (oddReg blocks) = true then 74 else e4 op nm args
def e2 (blocks op d a b : Int) (nm : ByteArray) (args : List Int) : Int := if op = 1 ∧ (a < 0 ∨ 65536 ≤ a) then 81 else e3 blocks op d a b nm args
def e1 (regs blocks op d a b : Int) (nm : ByteArray) (args : List Int) : Int := if (hasD op ∧ oddReg regs d = true) ∨ (uses op a b args).any (oddReg regs) = true then 73 else e2 blocks op d a b nm args
/-- One instruction's error, in a function of so many registers and blocks. -/
def oneE (regs blocks op d a b : Int) (nm : ByteArray) (args : List Int) (last : Bool) : Int := if (1 ≤ op ∧ op ≤ 14) ∧ lastOp op = last ∧ bareP op d a b nm args then e1 regs blocks op d a b nm args else 72

theorem odd_iff (m n : Int) : oddReg m n = true ↔ n < 0 ∨ m ≤ n := by
  unfold oddReg
  exact decide_eq_true_iff
theorem any_odd {m : Int} {l : List Int} : l.any (oddReg m) = true ↔ ∃ i : Nat, i < l.length ∧ oddReg m (rd l (i : Int)) = true := by
  rw [List.any_eq_true]
  constructor
  · rintro ⟨x, hx, h⟩
    obtain ⟨i, hi, rfl⟩ := List.mem_iff_getElem.1 hx
    exact ⟨i, hi, by rw [rd_get hi]; exact h⟩
  · rintro ⟨i, hi, h⟩
    rw [rd_get hi] at h
    exact ⟨_, List.getElem_mem hi, h⟩

/-! ### the reference -/
theorem refwithin_ev (l : List Int) (most : Int) (hl : l.length ≤ 4611686018427387904) : Ev (fun k => cubbyref07_within.f k l most) (!(l.any (oddReg most))) := by
  show Ev (fun k => cubbyref07_within.l0 k l most ((0 : Nat) : Int)) _
  refine seek (fun k i => cubbyref07_within.l0 k l most (i : Int)) l.length (fun i => oddReg most (rd l (i : Int)) = true) false _ ?_ ?_ ?_ ?_
  · intro i hi hb
    rw [odd_iff] at hb
    refine Ev.step (f := fun _ => some false) (fun k => ?_) (Ev.now _)
    simp only [cubbyref07_within.l0]
    rw [if_pos (by omega), if_pos (by omega)]
    split
    · rfl
    · rw [if_pos (by omega)]
  · intro i hi hb r' hE
    rw [odd_iff] at hb
    refine Ev.step (fun k => ?_) hE
    simp only [cubbyref07_within.l0]
    rw [if_pos (by omega), if_pos (by omega), if_neg (by omega), if_neg (by omega), wrap_nat (by omega)]
  · intro h
    rw [any_odd.2 h]
    rfl
  · intro h
    have : l.any (oddReg most) = false := by
      rw [← Bool.not_eq_true, any_odd]
      rintro ⟨i, hi, hb⟩
      exact h i hi hb
    rw [this]
    exact Ev.step (f := fun _ => some true) (fun k => by simp only [cubbyref07_within.l0]; rw [if_neg (by omega)]) (Ev.now _)

theorem refbare_ev (op d a b : Int) (nm : ByteArray) (args : List Int) (h : 1 ≤ op ∧ op ≤ 14) : Ev (fun k => cubbyref07_bare.f k op d a b nm args) (decide (bareP op d a b nm args)) := by
  have h3 : ∀ B, (B = true ↔ op = 10 ∨ op = 12 ∨ op = 14) → (op = 10 ∨ op = 11 ∨ op = 12 ∨ op = 14) → Ev (fun k => cubbyref07_bare.j3 k op B op d a b nm args) (if op = 11 then decide (a = 0 ∧ b = 0) else decide (d = 0 ∧ b = 0)) := by
    intro B hB ho
    refine Ev.step (f := fun _ => some _) (fun k => ?_) (Ev.now _)
    simp only [cubbyref07_bare.j3]
    by_cases c : op = 11
    · rw [if_neg (by rw [hB]; omega), if_pos c, if_pos c]
      by_cases c1 : a = 0
      · rw [if_pos c1]
        simp [c1]
        rfl
      · rw [if_neg c1]
        simp [c1]
    · rw [if_pos (by rw [hB]; omega), if_neg c]
      by_cases c1 : d = 0
      · rw [if_pos c1]
        simp [c1]
        rfl
      · rw [if_neg c1]
        simp [c1]
  have h2 : ∀ B, (B = true ↔ (3 ≤ op ∧ op ≤ 7) ∨ op = 13) → ¬ (op = 1 ∨ op = 2 ∨ op = 8) → Ev (fun k => cubbyref07_bare.j2 k op B op d a b nm args) (if (3 ≤ op ∧ op ≤ 7) ∨ op = 13 then true else if op = 9 then decide (d = 0) else if op = 11 then decide (a = 0 ∧ b = 0) else decide (d = 0 ∧ b = 0)) := by
    intro B hB ho
    by_cases c : (3 ≤ op ∧ op ≤ 7) ∨ op = 13
    · rw [if_pos c]
      exact Ev.step (f := fun _ => some true) (fun k => by simp only [cubbyref07_bare.j2]; rw [if_pos (hB.2 c)]) (Ev.now _)
    · rw [if_neg c]
      by_cases c1 : op = 9
      · rw [if_pos c1]
        exact Ev.step (f := fun _ => some (d == 0)) (fun k => by simp only [cubbyref07_bare.j2]; rw [if_neg (by rw [hB]; exact c), if_pos c1]) (Ev.now _)
      · rw [if_neg c1]
        by_cases c2 : op = 10
        · exact Ev.step (fun k => by simp only [cubbyref07_bare.j2]; rw [if_neg (by rw [hB]; exact c), if_neg c1, if_pos c2]) (h3 (op == 10) (by rw [beq_iff_eq]; omega) (by omega))
        · by_cases c3 : op = 14
          · exact Ev.step (fun k => by simp only [cubbyref07_bare.j2]; rw [if_neg (by rw [hB]; exact c), if_neg c1, if_neg c2, if_pos c3]) (h3 (op == 14) (by rw [beq_iff_eq]; omega) (by omega))
          · exact Ev.step (fun k => by simp only [cubbyref07_bare.j2]; rw [if_neg (by rw [hB]; exact c), if_neg c1, if_neg c2, if_neg c3]) (h3 (op == 12) (by rw [beq_iff_eq]; omega) (by omega))
  have h1 : ∀ B, (B = true ↔ op = 1 ∨ op = 2 ∨ op = 8) → Ev (fun k => cubbyref07_bare.j1 k op B op d a b nm args) (if op = 1 ∨ op = 2 ∨ op = 8 then decide (b = 0) else if (3 ≤ op ∧ op ≤ 7) ∨ op = 13 then true else if op = 9 then decide (d = 0) else if op = 11 then decide (a = 0 ∧ b = 0) else decide (d = 0 ∧ b = 0)) := by
    intro B hB
    by_cases c : op = 1 ∨ op = 2 ∨ op = 8
    · rw [if_pos c]
      exact Ev.step (f := fun _ => some (b == 0)) (fun k => by simp only [cubbyref07_bare.j1]; rw [if_pos (hB.2 c)]) (Ev.now _)
    · rw [if_neg c]
      have hn : ¬ B = true := by rw [hB]; exact c
      by_cases c3 : op = 3
      · exact Ev.step (fun k => by simp only [cubbyref07_bare.j1]; rw [if_neg hn, if_pos c3]) (h2 (op == 3) (by rw [beq_iff_eq]; omega) c)
      by_cases c4 : op = 4
      · exact Ev.step (fun k => by simp only [cubbyref07_bare.j1]; rw [if_neg hn, if_neg c3, if_pos c4]) (h2 (op == 4) (by rw [beq_iff_eq]; omega) c)
      by_cases c5 : op = 5
      · exact Ev.step (fun k => by simp only [cubbyref07_bare.j1]; rw [if_neg hn, if_neg c3, if_neg c4, if_pos c5]) (h2 (op == 5) (by rw [beq_iff_eq]; omega) c)
      by_cases c6 : op = 6
      · exact Ev.step (fun k => by simp only [cubbyref07_bare.j1]; rw [if_neg hn, if_neg c3, if_neg c4, if_neg c5, if_pos c6]) (h2 (op == 6) (by rw [beq_iff_eq]; omega) c)
      by_cases c7 : op = 7
      · exact Ev.step (fun k => by simp only [cubbyref07_bare.j1]; rw [if_neg hn, if_neg c3, if_neg c4, if_neg c5, if_neg c6, if_pos c7]) (h2 (op == 7) (by rw [beq_iff_eq]; omega) c)
      · exact Ev.step (fun k => by simp only [cubbyref07_bare.j1]; rw [if_neg hn, if_neg c3, if_neg c4, if_neg c5, if_neg c6, if_neg c7]) (h2 (op == 13) (by rw [beq_iff_eq]; omega) c)
  have h0 : Ev (fun k => cubbyref07_bare.j0 k false op d a b nm args) (if op = 1 ∨ op = 2 ∨ op = 8 then decide (b = 0) else if (3 ≤ op ∧ op ≤ 7) ∨ op = 13 then true else if op = 9 then decide (d = 0) else if op = 11 then decide (a = 0 ∧ b = 0) else decide (d = 0 ∧ b = 0)) := by
    by_cases c1 : op = 1
    · exact Ev.step (fun k => by simp only [cubbyref07_bare.j0]; rw [if_neg Bool.false_ne_true, if_pos c1]) (h1 (op == 1) (by rw [beq_iff_eq]; omega))
    by_cases c2 : op = 2
    · exact Ev.step (fun k => by simp only [cubbyref07_bare.j0]; rw [if_neg Bool.false_ne_true, if_neg c1, if_pos c2]) (h1 (op == 2) (by rw [beq_iff_eq]; omega))
    · exact Ev.step (fun k => by simp only [cubbyref07_bare.j0]; rw [if_neg Bool.false_ne_true, if_neg c1, if_neg c2]) (h1 (op == 8) (by rw [beq_iff_eq]; omega))
  have hsame : (op = 11 ∨ (nm.toList = ([] : List UInt8) ∧ args.length = 0)) → (if op = 1 ∨ op = 2 ∨ op = 8 then decide (b = 0) else if (3 ≤ op ∧ op ≤ 7) ∨ op = 13 then true else if op = 9 then decide (d = 0) else if op = 11 then decide (a = 0 ∧ b = 0) else decide (d = 0 ∧ b = 0)) = decide (bareP op d a b nm args) := by
    intro hb
    unfold bareP
    repeat' split
    all_goals first
      | (apply decide_eq_decide.2; constructor <;> intro hx <;> first | omega | (refine ⟨hb, ?_, ?_, ?_⟩ <;> omega))
      | (symm; apply decide_eq_true; refine ⟨hb, ?_, ?_, ?_⟩ <;> omega)
  by_cases c : op = 11
  · rw [← hsame (.inl c)]
    exact Ev.congr (fun k => by unfold cubbyref07_bare.f; rw [if_pos c]) h0
  · by_cases c1 : nm.toList = ([] : List UInt8)
    · refine Ev.congr (fun k => by unfold cubbyref07_bare.f; rw [if_neg c, if_pos c1]) ?_
      by_cases c2 : (args.length : Int) > 0
      · rw [decide_eq_true c2, decide_eq_false (by unfold bareP; omega)]
        exact Ev.step (f := fun _ => some false) (fun k => by simp only [cubbyref07_bare.j0]; rw [if_pos trivial]) (Ev.now _)
      · rw [decide_eq_false c2, ← hsame (.inr ⟨c1, by omega⟩)]
        exact h0
    · refine Ev.congr (fun k => by unfold cubbyref07_bare.f; rw [if_neg c, if_neg c1]) ?_
      rw [decide_eq_false (p := bareP op d a b nm args) (by
        unfold bareP
        rintro ⟨h4 | h4, _⟩
        · exact c h4
        · exact c1 h4.1)]
      exact Ev.step (f := fun _ => some false) (fun k => by simp only [cubbyref07_bare.j0]; rw [if_pos trivial]) (Ev.now _)
theorem uses_short {op a b : Int} {args : List Int} (ha : args.length ≤ 1000000000) : (uses op a b args).length ≤ 4611686018427387904 := by
  unfold uses
  repeat' split
  all_goals first | omega | simp
theorem targets_short (op d a b : Int) : (targets7 op d a b).length ≤ 4611686018427387904 := by
  unfold targets7
  repeat' split
  all_goals simp
theorem defOf_iff {op d : Int} : (defOf op d = -1 ↔ ¬ hasD op ∨ d = -1) ∧ (hasD op → defOf op d = d) := by
  unfold defOf hasD
  constructor
  · split <;> omega
  · intro h
    rw [if_pos h]
section
variable (op d a b : Int) (nm : ByteArray) (args : List Int)
theorem r4 (B : Bool) : Ev (fun k => cubbyref07_One.j4 k B op d a b nm args) (if B = true then 70 else e5 op args) := by
  refine Ev.step (f := fun _ => some _) (fun k => ?_) (Ev.now _)
  simp only [cubbyref07_One.j4]
  unfold e5
  repeat' split
  all_goals first | rfl | omega
theorem r3 (blocks : Int) (B : Bool) : Ev (fun k => cubbyref07_One.j3 k blocks B op d a b nm args) (if B = true then 81 else e3 blocks op d a b nm args) := by
  cases B
  · rw [if_neg Bool.false_ne_true]
    refine Ev.step (fun k => by simp only [cubbyref07_One.j3]; rw [if_neg Bool.false_ne_true, reftargets_eq, Option.bind_some]) (Ev.bind (refwithin_ev (targets7 op d a b) blocks (targets_short op d a b)) ?_)
    unfold e3
    by_cases c : (targets7 op d a b).any (oddReg blocks) = true
    · rw [if_pos c, c]
      exact Ev.congr (f := fun _ => some 74) (fun k => by rw [if_neg (by decide)]) (Ev.now _)
    · rw [if_neg c, (Bool.not_eq_true _).mp c]
      unfold e4
      by_cases c1 : op = 11
      · refine Ev.congr (fun k => by rw [if_pos (by decide), if_pos c1]) (Ev.bind (refname_ev nm) ?_)
        have := r4 op d a b nm args (!nameOk nm)
        cases hn : nameOk nm
        · rw [hn] at this
          rw [if_pos ⟨c1, rfl⟩]
          exact this
        · rw [hn] at this
          rw [if_neg (by simp)]
          exact this
      · rw [if_neg (fun h => c1 h.1)]
        exact Ev.congr (fun k => by rw [if_pos (by decide), if_neg c1]) (r4 op d a b nm args false)
  · exact Ev.step (f := fun _ => some 81) (fun k => by simp only [cubbyref07_One.j3]; rw [if_pos trivial]) (Ev.now _)
theorem r2 (blocks : Int) (B : Bool) : Ev (fun k => cubbyref07_One.j2 k blocks B op d a b nm args) (if B = true then 73 else e2 blocks op d a b nm args) := by
  cases B
  · rw [if_neg Bool.false_ne_true]
    unfold e2
    by_cases c : op = 1
    · by_cases c1 : a < 0
      · rw [if_pos ⟨c, .inl c1⟩]
        exact Ev.step (fun k => by simp only [cubbyref07_One.j2]; rw [if_neg Bool.false_ne_true, if_pos c, if_pos c1]) (r3 op d a b nm args blocks true)
      · refine Ev.step (fun k => by simp only [cubbyref07_One.j2]; rw [if_neg Bool.false_ne_true, if_pos c, if_neg c1]) ?_
        have := r3 op d a b nm args blocks (decide (a ≥ 65536))
        by_cases c2 : a ≥ 65536
        · rw [if_pos ⟨c, .inr c2⟩]
          rw [decide_eq_true c2] at this ⊢
          exact this
        · rw [if_neg (by omega)]
          rw [decide_eq_false c2] at this ⊢
          exact this
    · rw [if_neg (by omega)]
      exact Ev.step (fun k => by simp only [cubbyref07_One.j2]; rw [if_neg Bool.false_ne_true, if_neg c]) (r3 op d a b nm args blocks false)
  · exact Ev.step (f := fun _ => some 73) (fun k => by simp only [cubbyref07_One.j2]; rw [if_pos trivial]) (Ev.now _)
theorem r1 (h : 1 ≤ op ∧ op ≤ 14) (blocks : Int) (B : Bool) : Ev (fun k => cubbyref07_One.j1 k blocks B op d a b nm args) (if B = true ∨ (hasD op ∧ d = -1) then 73 else e2 blocks op d a b nm args) := by
  cases B
  · have hd := (defOf_iff (op := op) (d := d)).1
    by_cases c : defOf op d = -1
    · by_cases c9 : op = 9
      · rw [if_neg (by unfold hasD; rintro (x | x) <;> first | exact absurd x (by decide) | omega)]
        exact Ev.step (fun k => by simp only [cubbyref07_One.j1]; rw [if_neg Bool.false_ne_true, refdef_eq, Option.bind_some, if_pos c, if_pos c9]) (r2 op d a b nm args blocks false)
      · by_cases c10 : op = 10
        · rw [if_neg (by unfold hasD; rintro (x | x) <;> first | exact absurd x (by decide) | omega)]
          exact Ev.step (fun k => by simp only [cubbyref07_One.j1]; rw [if_neg Bool.false_ne_true, refdef_eq, Option.bind_some, if_pos c, if_neg c9, if_pos c10]) (r2 op d a b nm args blocks false)
        · refine Ev.step (fun k => by simp only [cubbyref07_One.j1]; rw [if_neg Bool.false_ne_true, refdef_eq, Option.bind_some, if_pos c, if_neg c9, if_neg c10, reflast_eq, Option.bind_some]) ?_
          have := r2 op d a b nm args blocks (!lastOp op)
          by_cases cl : 12 ≤ op ∧ op ≤ 14
          · rw [if_neg (by unfold hasD; rintro (x | x) <;> first | exact absurd x (by decide) | omega)]
            rw [show lastOp op = true from decide_eq_true cl] at this ⊢
            exact this
          · rw [if_pos (.inr ⟨by unfold hasD; omega, by unfold hasD at hd; omega⟩)]
            rw [show lastOp op = false from decide_eq_false cl] at this ⊢
            exact this
    · rw [if_neg (by
        rintro (x | x)
        · exact absurd x (by decide)
        · exact c (hd.2 (.inr x.2)))]
      exact Ev.step (fun k => by simp only [cubbyref07_One.j1]; rw [if_neg Bool.false_ne_true, refdef_eq, Option.bind_some, if_neg c]) (r2 op d a b nm args blocks false)
  · rw [if_pos (.inl rfl)]
    exact Ev.step (f := fun _ => some 73) (fun k => by simp only [cubbyref07_One.j1]; rw [if_pos trivial]) (Ev.now _)
theorem r0 (h : 1 ≤ op ∧ op ≤ 14) (ha : args.length ≤ 1000000000) (regs blocks : Int) (B : Bool) : Ev (fun k => cubbyref07_One.j0 k regs blocks B op d a b nm args) (if B = true then 72 else e1 regs blocks op d a b nm args) := by
  cases B
  · rw [if_neg Bool.false_ne_true]
    have hd := (defOf_iff (op := op) (d := d))
    have hj : Ev (fun k => (cubbyref07_Uses.f k op d a b nm args).bind fun t273 => (cubbyref07_within.f k t273 regs).bind fun t276 => cubbyref07_One.j1 k blocks (!t276) op d a b nm args) (if (uses op a b args).any (oddReg regs) = true ∨ (hasD op ∧ d = -1) then 73 else e2 blocks op d a b nm args) := by
      refine Ev.bind (refuses_ev op d a b nm args ha) (Ev.bind (refwithin_ev _ regs (uses_short ha)) ?_)
      have := r1 op d a b nm args h blocks ((uses op a b args).any (oddReg regs))
      rw [Bool.not_not]
      exact this
    by_cases c : defOf op d = -1
    · refine Ev.step (fun k => by simp only [cubbyref07_One.j0]; rw [if_neg Bool.false_ne_true, refdef_eq, Option.bind_some, if_pos c]) ?_
      have e : e1 regs blocks op d a b nm args = (if (uses op a b args).any (oddReg regs) = true ∨ (hasD op ∧ d = -1) then 73 else e2 blocks op d a b nm args) := by
        unfold e1
        have h1 : ((hasD op ∧ oddReg regs d = true) ∨ (uses op a b args).any (oddReg regs) = true) ↔ ((uses op a b args).any (oddReg regs) = true ∨ (hasD op ∧ d = -1)) := by
          rw [odd_iff]
          have h2 := hd.1.1 c
          constructor
          · rintro (⟨x, _⟩ | x)
            · exact .inr ⟨x, by rcases h2 with h2 | h2; exact absurd x h2; exact h2⟩
            · exact .inl x
          · rintro (x | ⟨x, y⟩)
            · exact .inr x
            · exact .inl ⟨x, .inl (by omega)⟩
        simp only [h1]
      rw [e]
      exact hj
    · have hh : hasD op := Decidable.byContradiction fun x => c (hd.1.2 (.inl x))
      have hdd := hd.2 hh
      have hne : d ≠ -1 := fun x => c (hd.1.2 (.inr x))
      by_cases c1 : d < 0
      · have e : e1 regs blocks op d a b nm args = 73 := by
          unfold e1
          rw [if_pos (.inl ⟨hh, (odd_iff _ _).2 (.inl c1)⟩)]
        rw [e]
        have := r1 op d a b nm args h blocks true
        rw [if_pos (.inl rfl)] at this
        exact Ev.step (fun k => by simp only [cubbyref07_One.j0]; rw [if_neg Bool.false_ne_true, refdef_eq, Option.bind_some, if_neg c, Option.bind_some, if_pos (by omega)]) this
      · by_cases c2 : d ≥ regs
        · have e : e1 regs blocks op d a b nm args = 73 := by
            unfold e1
            rw [if_pos (.inl ⟨hh, (odd_iff _ _).2 (.inr c2)⟩)]
          rw [e]
          have := r1 op d a b nm args h blocks true
          rw [if_pos (.inl rfl)] at this
          exact Ev.step (fun k => by simp only [cubbyref07_One.j0]; rw [if_neg Bool.false_ne_true, refdef_eq, Option.bind_some, if_neg c, Option.bind_some, if_neg (by omega), Option.bind_some, if_pos (by omega)]) this
        · have e : e1 regs blocks op d a b nm args = (if (uses op a b args).any (oddReg regs) = true ∨ (hasD op ∧ d = -1) then 73 else e2 blocks op d a b nm args) := by
            unfold e1
            have h1 : ((hasD op ∧ oddReg regs d = true) ∨ (uses op a b args).any (oddReg regs) = true) ↔ ((uses op a b args).any (oddReg regs) = true ∨ (hasD op ∧ d = -1)) := by
              rw [odd_iff]
              constructor
              · rintro (⟨_, x⟩ | x)
                · omega
                · exact .inl x
              · rintro (x | ⟨_, y⟩)
                · exact .inr x
                · exact absurd y hne
            simp only [h1]
          rw [e]
          exact Ev.step (fun k => by simp only [cubbyref07_One.j0]; rw [if_neg Bool.false_ne_true, refdef_eq, Option.bind_some, if_neg c, Option.bind_some, if_neg (by omega), Option.bind_some, if_neg (by omega)]) hj
  · exact Ev.step (f := fun _ => some 72) (fun k => by simp only [cubbyref07_One.j0]; rw [if_pos trivial]) (Ev.now _)
theorem refone_ev (ha : args.length ≤ 1000000000) (regs blocks : Int) (last : Bool) : Ev (fun k => cubbyref07_One.f k op d a b nm args regs blocks last) (oneE regs blocks op d a b nm args last) := by
  unfold oneE
  have hyes : Ev (fun k => cubbyref07_One.j0 k regs blocks true op d a b nm args) 72 := Ev.step (f := fun _ => some 72) (fun k => by simp only [cubbyref07_One.j0]; rw [if_pos trivial]) (Ev.now _)
  by_cases c0 : op < 1
  · rw [if_neg (by omega)]
    exact Ev.congr (fun k => by unfold cubbyref07_One.f; rw [if_pos c0]) hyes
  by_cases c1 : op > 14
  · rw [if_neg (by omega)]
    exact Ev.congr (fun k => by unfold cubbyref07_One.f; rw [if_neg c0, if_pos c1]) hyes
  have h : 1 ≤ op ∧ op ≤ 14 := by omega
  by_cases c2 : lastOp op = last
  · refine Ev.congr (fun k => by unfold cubbyref07_One.f; rw [if_neg c0, if_neg c1, reflast_eq, Option.bind_some, if_neg (by simp [c2])]) (Ev.bind (refbare_ev op d a b nm args h) ?_)
    have := r0 op d a b nm args h ha regs blocks (!decide (bareP op d a b nm args))
    by_cases c3 : bareP op d a b nm args
    · rw [if_pos ⟨h, c2, c3⟩]
      rw [decide_eq_true c3] at this ⊢
      exact this
    · rw [if_neg (fun x => c3 x.2.2)]
      rw [decide_eq_false c3] at this ⊢
      exact this
  · rw [if_neg (fun x => c2 x.2.1)]
    exact Ev.congr (fun k => by unfold cubbyref07_One.f; rw [if_neg c0, if_neg c1, reflast_eq, Option.bind_some, if_pos (by simpa using c2)]) hyes
end
end Go.Proofs.YtgmklfaknomakaaDoor.PlainOne
namespace Go.Proofs.YtgmklfaknomakaaDoor.PlainOne
open Go Go.RowKit Go.Proofs.YtgmklfaknomakaaDoorW.PrintWords Go.Proofs.YtgmklfaknomakaaDoorW.PrintMore Go.Proofs.YtgmklfaknomakaaDoor.Q Go.Proofs.YtgmklfaknomakaaDoor.Plain Go.Proofs.YtgmklfaknomakaaDoor.PlainIr Go.Proofs.YtgmklfaknomakaaDoor.PlainName
set_option linter.unusedVariables false
set_option linter.unusedSimpArgs false

theorem lt3 {i : Nat} (h : i < 3) : i = 0 ∨ i = 1 ∨ i = 2 := by omega
section
variable (pn : ByteArray) (pp regs : Int) (bs : List (List SIns)) (op d a b : Int) (nm : ByteArray) (args : List Int)
theorem o5 (B : Bool) (hb : op = 11 ∨ (nm.toList = ([] : List UInt8) ∧ args.length = 0)) : Ev (fun k => ir_one.j5 k B op d a b nm args) (if B = true then 70 else e5 op args) := by
  refine Ev.step (f := fun _ => some _) (fun k => ?_) (Ev.now _)
  simp only [ir_one.j5]
  unfold e5
  repeat' split
  all_goals first | rfl | omega
theorem o3 (hb : op = 11 ∨ (nm.toList = ([] : List UInt8) ∧ args.length = 0)) : Ev (fun k => ir_one.l3 k (targets7 op d a b) ((targets7 op d a b).length : Int) 0 pn pp regs bs op d a b nm args) (e3 (bs.length : Int) op d a b nm args) := by
  have hl := targets_short op d a b
  unfold e3
  refine seek (fun k i => ir_one.l3 k (targets7 op d a b) ((targets7 op d a b).length : Int) (i : Int) pn pp regs bs op d a b nm args) (targets7 op d a b).length (fun i => oddReg (bs.length : Int) (rd (targets7 op d a b) (i : Int)) = true) 74 _ ?_ ?_ ?_ ?_
  · intro i hi hx
    rw [odd_iff] at hx
    refine Ev.step (f := fun _ => some 74) (fun k => ?_) (Ev.now _)
    simp only [ir_one.l3]
    rw [if_pos (by omega), if_pos (by omega), if_pos (by omega)]
    split
    · rfl
    · rw [if_pos (by omega)]
  · intro i hi hx r' hE
    rw [odd_iff] at hx
    refine Ev.step (fun k => ?_) hE
    simp only [ir_one.l3]
    rw [if_pos (by omega), if_pos (by omega), if_pos (by omega), if_neg (by omega), if_neg (by omega), wrap_nat (by omega)]
  · intro h
    rw [if_pos (any_odd.2 h)]
  · intro h
    rw [if_neg (fun x => by
      obtain ⟨i, hi, hx⟩ := any_odd.1 x
      exact h i hi hx)]
    unfold e4
    by_cases c : op = 11
    · refine Ev.step (fun k => by simp only [ir_one.l3]; rw [if_neg (by omega), if_pos c, name_eq, Option.bind_some]) ?_
      have := o5 op d a b nm args (!nameOk nm) hb
      cases hn : nameOk nm
      · rw [hn] at this
        rw [if_pos ⟨c, rfl⟩]
        exact this
      · rw [hn] at this
        rw [if_neg (by simp)]
        exact this
    · rw [if_neg (fun x => c x.1)]
      exact Ev.step (fun k => by simp only [ir_one.l3]; rw [if_neg (by omega), if_neg c]) (o5 op d a b nm args false hb)
theorem o2 (s : ByteArray) (S : Sh op s) (hb : op = 11 ∨ (nm.toList = ([] : List UInt8) ∧ args.length = 0)) : Ev (fun k => ir_one.l2 k s [d, a, b] (([d, a, b] : List Int).length : Int) 0 pn pp regs bs op d a b nm args) (e2 (bs.length : Int) op d a b nm args) := by
  have hs := S.size
  have hl : ([d, a, b] : List Int).length = 3 := rfl
  have h0 := S.n0
  have h1 := S.n1
  have h2 := S.n2
  unfold e2
  refine seek (fun k i => ir_one.l2 k s [d, a, b] (([d, a, b] : List Int).length : Int) (i : Int) pn pp regs bs op d a b nm args) 3 (fun i => bt s (i : Int) = 110 ∧ (rd [d, a, b] (i : Int) < 0 ∨ rd [d, a, b] (i : Int) ≥ 65536)) 81 _ ?_ ?_ ?_ ?_
  · rintro i hi ⟨hx, hy⟩
    refine Ev.step (f := fun _ => some 81) (fun k => ?_) (Ev.now _)
    simp only [ir_one.l2]
    rw [if_pos (by omega), if_pos (by omega), if_pos (by omega), if_pos (by omega), if_pos hx]
    split
    · rfl
    · rw [if_pos (by omega)]
  · intro i hi hx r' hE
    refine Ev.step (fun k => ?_) hE
    simp only [ir_one.l2]
    rw [if_pos (by omega), if_pos (by omega), if_pos (by omega), if_pos (by omega), wrap_nat (by omega)]
    repeat' split
    all_goals first
      | rfl
      | (exfalso; apply hx; constructor <;> first | assumption | omega)
  · rintro ⟨i, hi, hx, hy⟩
    rcases lt3 hi with rfl | rfl | rfl
    · exact absurd hx h0
    · exact if_pos ⟨h1.1 hx, hy⟩
    · exact absurd hx h2
  · intro h
    rw [if_neg (fun x => h 1 (by omega) ⟨h1.2 x.1, x.2⟩)]
    refine Ev.step (fun k => by simp only [ir_one.l2]; rw [if_neg (by omega), targets_eq, Option.bind_some]) (o3 pn pp regs bs op d a b nm args hb)
theorem o1 (s : ByteArray) (S : Sh op s) (hop : 1 ≤ op ∧ op ≤ 14) (hb : op = 11 ∨ (nm.toList = ([] : List UInt8) ∧ args.length = 0)) : Ev (fun k => ir_one.l1 k s [d, a, b] [d, a, b] (([d, a, b] : List Int).length : Int) 0 pn pp regs bs op d a b nm args) (e1 regs (bs.length : Int) op d a b nm args) := by
  have hs := S.size
  have hl : ([d, a, b] : List Int).length = 3 := rfl
  have h0 := S.b0
  have h1 := S.b1
  have h2 := S.b2
  have hargs : ¬ op = 11 → args = [] := fun h => by
    rcases hb with hb | hb
    · exact absurd hb h
    · exact List.length_eq_zero_iff.1 hb.2
  unfold e1
  have hC : ((hasD op ∧ oddReg regs d = true) ∨ (uses op a b args).any (oddReg regs) = true) ↔ ((∃ i : Nat, i < 3 ∧ bt s (i : Int) = 114 ∧ oddReg regs (rd [d, a, b] (i : Int)) = true) ∨ args.any (oddReg regs) = true) := by
    constructor
    · rintro (⟨x, y⟩ | x)
      · exact .inl ⟨0, by omega, h0.2 x, y⟩
      · by_cases c : op = 11
        · right
          unfold uses at x
          rwa [if_neg (by omega), if_neg (by omega), if_pos c] at x
        · left
          unfold uses at x
          split at x
          · simp at x
            exact ⟨1, by omega, h1.2 (by omega), x⟩
          · split at x
            · simp at x
              rcases x with x | x
              · exact ⟨1, by omega, h1.2 (by omega), x⟩
              · exact ⟨2, by omega, h2.2 (by omega), x⟩
            · exact absurd x (by simp)
    · rintro (⟨i, hi, hx, hy⟩ | x)
      · rcases lt3 hi with rfl | rfl | rfl
        · exact .inl ⟨h0.1 hx, hy⟩
        · right
          have := h1.1 hx
          have hy' : oddReg regs a = true := hy
          unfold uses
          split
          · simp [hy']
          · split
            · simp [hy']
            · omega
        · right
          have := h2.1 hx
          have hy' : oddReg regs b = true := hy
          unfold uses
          rw [if_neg (by omega), if_pos (by omega)]
          simp [hy']
      · by_cases c : op = 11
        · right
          unfold uses
          rw [if_neg (by omega), if_neg (by omega), if_pos c]
          exact x
        · rw [hargs c] at x
          exact absurd x (by simp)
  refine seek (fun k i => ir_one.l1 k s [d, a, b] [d, a, b] (([d, a, b] : List Int).length : Int) (i : Int) pn pp regs bs op d a b nm args) 3 (fun i => bt s (i : Int) = 114 ∧ oddReg regs (rd [d, a, b] (i : Int)) = true) 73 _ ?_ ?_ ?_ ?_
  · rintro i hi ⟨hx, hy⟩
    refine Ev.step (f := fun _ => some 73) (fun k => ?_) (Ev.now _)
    simp only [ir_one.l1]
    rw [if_pos (by omega), if_pos (by omega), if_pos (by omega), if_pos (by omega), if_pos hx]
    simp only [ir_one_1.f, Option.bind_some, hy, if_true]
  · intro i hi hx r' hE
    refine Ev.step (fun k => ?_) hE
    simp only [ir_one.l1]
    rw [if_pos (by omega), if_pos (by omega), if_pos (by omega), if_pos (by omega), wrap_nat (by omega)]
    by_cases c : bt s (i : Int) = 114
    · rw [if_pos c]
      simp only [ir_one_1.f, Option.bind_some]
      rw [if_neg (fun y => hx ⟨c, y⟩)]
    · rw [if_neg c]
  · rintro ⟨i, hi, hx⟩
    exact if_pos (hC.2 (.inl ⟨i, hi, hx⟩))
  · intro h
    by_cases c : args.any (oddReg regs) = true
    · rw [if_pos (hC.2 (.inr c))]
      exact Ev.step (f := fun _ => some 73) (fun k => by simp only [ir_one.l1]; rw [if_neg (by omega)]; simp only [slices_ContainsFunc_int_int.f, Option.bind_some]; rw [if_pos c]) (Ev.now _)
    · rw [if_neg (fun x => by
        rcases hC.1 x with ⟨i, hi, hy⟩ | y
        · exact h i hi hy
        · exact c y)]
      exact Ev.step (fun k => by simp only [ir_one.l1]; rw [if_neg (by omega)]; simp only [slices_ContainsFunc_int_int.f, Option.bind_some]; rw [if_neg c]) (o2 pn pp regs bs op d a b nm args s S hb)
theorem o0 (s : ByteArray) (S : Sh op s) (hop : 1 ≤ op ∧ op ≤ 14) (hb : op = 11 ∨ (nm.toList = ([] : List UInt8) ∧ args.length = 0)) : Ev (fun k => ir_one.l0 k s [d, a, b] [d, a, b] (([d, a, b] : List Int).length : Int) 0 pn pp regs bs op d a b nm args) (if bareP op d a b nm args then e1 regs (bs.length : Int) op d a b nm args else 72) := by
  have hs := S.size
  have hl : ([d, a, b] : List Int).length = 3 := rfl
  have h0 := S.f0
  have h1 := S.f1
  have h2 := S.f2
  refine seek (fun k i => ir_one.l0 k s [d, a, b] [d, a, b] (([d, a, b] : List Int).length : Int) (i : Int) pn pp regs bs op d a b nm args) 3 (fun i => bt s (i : Int) = 32 ∧ ¬ rd [d, a, b] (i : Int) = 0) 72 _ ?_ ?_ ?_ ?_
  · rintro i hi ⟨hx, hy⟩
    refine Ev.step (f := fun _ => some 72) (fun k => ?_) (Ev.now _)
    simp only [ir_one.l0]
    rw [if_pos (by omega), if_pos (by omega), if_pos (by omega), if_pos (by omega), if_pos hx, if_neg hy]
  · intro i hi hx r' hE
    refine Ev.step (fun k => ?_) hE
    simp only [ir_one.l0]
    rw [if_pos (by omega), if_pos (by omega), if_pos (by omega), if_pos (by omega), wrap_nat (by omega)]
    by_cases c : bt s (i : Int) = 32
    · rw [if_pos c, if_pos (Decidable.byContradiction fun y => hx ⟨c, y⟩)]
    · rw [if_neg c]
  · rintro ⟨i, hi, hx, hy⟩
    refine if_neg (fun hB => ?_)
    obtain ⟨_, f0, f1, f2⟩ := hB
    rcases lt3 hi with rfl | rfl | rfl
    · exact hy (f0 (h0.1 hx))
    · exact hy (f1 (h1.1 hx))
    · exact hy (f2 (h2.1 hx))
  · intro h
    rw [if_pos ⟨hb, fun x => Decidable.byContradiction fun y => h 0 (by omega) ⟨h0.2 x, y⟩, fun x => Decidable.byContradiction fun y => h 1 (by omega) ⟨h1.2 x, y⟩, fun x => Decidable.byContradiction fun y => h 2 (by omega) ⟨h2.2 x, y⟩⟩]
    exact Ev.step (fun k => by simp only [ir_one.l0]; rw [if_neg (by omega)]) (o1 pn pp regs bs op d a b nm args s S hop hb)
theorem one_ev (last : Bool) : Ev (fun k => ir_one.f k pn pp regs bs op d a b nm args last) (oneE regs (bs.length : Int) op d a b nm args last) := by
  unfold oneE
  by_cases hop : 1 ≤ op ∧ op ≤ 14
  · obtain ⟨s, hs, S⟩ := shape_some hop
    have hyes : Ev (fun k => ir_one.j0 k s true pn pp regs bs op d a b nm args) 72 := Ev.step (f := fun _ => some 72) (fun k => by simp only [ir_one.j0]; rw [if_pos trivial]) (Ev.now _)
    by_cases c2 : lastOp op = last
    · have hgo : (op = 11 ∨ (nm.toList = ([] : List UInt8) ∧ args.length = 0)) → Ev (fun k => ir_one.j0 k s false pn pp regs bs op d a b nm args) (if (1 ≤ op ∧ op ≤ 14) ∧ lastOp op = last ∧ bareP op d a b nm args then e1 regs (bs.length : Int) op d a b nm args else 72) := fun hb => by
        refine Ev.step (fun k => by simp only [ir_one.j0]; rw [if_neg Bool.false_ne_true, Option.bind_some]) ?_
        have := o0 pn pp regs bs op d a b nm args s S hop hb
        by_cases c3 : bareP op d a b nm args
        · rw [if_pos ⟨hop, c2, c3⟩]
          rw [if_pos c3] at this
          exact this
        · rw [if_neg (fun x => c3 x.2.2)]
          rw [if_neg c3] at this
          exact this
      by_cases c : op = 11
      · exact Ev.congr (fun k => by unfold ir_one.f; rw [hs, Option.bind_some, if_neg S.ne, last_eq, Option.bind_some, if_neg (by simp [c2]), if_pos c]) (hgo (.inl c))
      · by_cases c1 : nm.toList = ([] : List UInt8)
        · refine Ev.congr (fun k => by unfold ir_one.f; rw [hs, Option.bind_some, if_neg S.ne, last_eq, Option.bind_some, if_neg (by simp [c2]), if_neg c, if_pos c1]) ?_
          by_cases c4 : (args.length : Int) > 0
          · rw [decide_eq_true c4, if_neg (fun x => by have := x.2.2.1; omega)]
            exact hyes
          · rw [decide_eq_false c4]
            exact hgo (.inr ⟨c1, by omega⟩)
        · rw [if_neg (fun x => by
            rcases x.2.2.1 with y | y
            · exact c y
            · exact c1 y.1)]
          exact Ev.congr (fun k => by unfold ir_one.f; rw [hs, Option.bind_some, if_neg S.ne, last_eq, Option.bind_some, if_neg (by simp [c2]), if_neg c, if_neg c1]) hyes
    · rw [if_neg (fun x => c2 x.2.1)]
      exact Ev.congr (fun k => by unfold ir_one.f; rw [hs, Option.bind_some, if_neg S.ne, last_eq, Option.bind_some, if_pos (by simpa using c2)]) hyes
  · rw [if_neg (fun x => hop x.1)]
    refine Ev.congr (fun k => by unfold ir_one.f; rw [shape_none hop, Option.bind_some, if_pos nil_toList]) ?_
    exact Ev.step (f := fun _ => some 72) (fun k => by simp only [ir_one.j0]; rw [if_pos trivial]) (Ev.now _)
end
end Go.Proofs.YtgmklfaknomakaaDoor.PlainOne
namespace Go.Proofs.YtgmklfaknomakaaDoor.PlainHeavy
open Go Go.RowKit Go.Proofs.YtgmklfaknomakaaDoorW.PrintWords Go.Proofs.YtgmklfaknomakaaDoorW.PrintMore Go.Proofs.YtgmklfaknomakaaDoor.Q Go.Proofs.YtgmklfaknomakaaDoor.Plain
set_option linter.unusedVariables false
set_option linter.unusedSimpArgs false

theorem rdL_get {l : List (List SIns)} {j : Nat} (h : j < l.length) : rd_LIns l (j : Int) = l[j] := by
  show l.getD j [] = _
  rw [List.getD_eq_getElem?_getD, List.getElem?_eq_getElem h]
  rfl
theorem rdT_get {l : List SIns} {j : Nat} (h : j < l.length) : rd_TIns l (j : Int) = l[j] := by
  show l.getD j zIns = _
  rw [List.getD_eq_getElem?_getD, List.getElem?_eq_getElem h]
  rfl
/-- An instruction whose lists are long. -/
def badI (x : SIns) : Bool := decide (100 < x.f5.length ∨ 1024 < x.f4.size)
theorem badI_iff (x : SIns) : badI x = true ↔ (100 < x.f5.length ∨ 1024 < x.f4.size) := by
  unfold badI
  exact decide_eq_true_iff
def hv : Int → List (List SIns) → Bool
  | n, [] => decide (n > 500)
  | n, b :: bs => if n ≤ 500 then (if (b.take 501).any badI = true then true else hv (n + mn (b.length : Int) 1048576) bs) else true
/-- Blocks that are short enough. -/
structure FairB (x : List (List SIns)) : Prop where
  len : x.length ≤ 100
  row : ∀ b ∈ x, b.length ≤ 500
  ins : ∀ b ∈ x, ∀ y ∈ b, y.f5.length ≤ 100 ∧ y.f4.size ≤ 1024
theorem mn_nat (j : Nat) : 0 ≤ mn (j : Int) 1048576 ∧ ((mn (j : Int) 1048576 = j ∧ j ≤ 1048576) ∨ (mn (j : Int) 1048576 = 1048576 ∧ 1048576 ≤ j)) := by
  unfold mn
  split <;> omega
theorem hv_le : ∀ (l : List (List SIns)) (n : Int), hv n l = false → n ≤ 500
  | [], n, h => by
    unfold hv at h
    have := of_decide_eq_false h
    omega
  | b :: bs, n, h => by
    unfold hv at h
    split at h
    · assumption
    · exact absurd h (by simp)
theorem hv_fair : ∀ (l : List (List SIns)) (n : Int), 0 ≤ n → hv n l = false → ∀ b ∈ l, b.length ≤ 500 ∧ ∀ y ∈ b, badI y = false
  | [], n, _, h => by simp
  | b :: bs, n, h0, h => by
    unfold hv at h
    split at h
    · split at h
      · exact absurd h (by simp)
      · next hn hb =>
        have hm := mn_nat b.length
        have hle := hv_le bs _ h
        have hlen : b.length ≤ 500 := by omega
        intro c hc
        rcases List.mem_cons.1 hc with rfl | hc
        · refine ⟨hlen, fun y hy => ?_⟩
          rw [List.take_of_length_le (by omega)] at hb
          cases hy1 : badI y with
          | false => rfl
          | true => exact absurd (List.any_eq_true.2 ⟨y, hy, hy1⟩) hb
        · exact hv_fair bs _ (by omega) h c hc
    · exact absurd h (by simp)
theorem hrow (x : List (List SIns)) (n : Int) (i : Nat) (hi : i < x.length) (R : Bool) (h : (x[i].take 501).any badI = false → Ev (fun k => cubbylaw07_heavy.l0 k x n ((i + 1 : Nat) : Int)) R) (hil : i ≤ 1000) : Ev (fun k => cubbylaw07_heavy.l1 k x n (i : Int) 0) (if (x[i].take 501).any badI = true then true else R) := by
  have hg := rdL_get hi
  have hout : ∀ j : Nat, (j = x[i].length ∨ 500 < j) → (x[i].take 501).any badI = false → Ev (fun k => cubbylaw07_heavy.l1 k x n (i : Int) (j : Int)) R := by
    intro j hj hb
    have h3 : Ev (fun k => cubbylaw07_heavy.j3 k x n (i : Int) (j : Int) false) R := Ev.step (fun k => by simp only [cubbylaw07_heavy.j3]; rw [if_neg Bool.false_ne_true, wrap_nat (by omega)]) (h hb)
    by_cases c : j < x[i].length
    · refine Ev.step (fun k => by simp only [cubbylaw07_heavy.l1]; rw [if_pos (by omega), if_pos (by omega), hg, if_pos (by omega), decide_eq_false (by omega)]) h3
    · exact Ev.step (fun k => by simp only [cubbylaw07_heavy.l1]; rw [if_pos (by omega), if_pos (by omega), hg, if_neg (by omega)]) h3
  have hany : (x[i].take 501).any badI = true ↔ ∃ j : Nat, j < min x[i].length 501 ∧ badI (rd_TIns x[i] (j : Int)) = true := by
    rw [List.any_eq_true]
    constructor
    · rintro ⟨y, hy, hb⟩
      obtain ⟨j, hj, rfl⟩ := List.mem_iff_getElem.1 hy
      rw [List.length_take] at hj
      refine ⟨j, by omega, ?_⟩
      rw [rdT_get (by omega)]
      rwa [List.getElem_take] at hb
    · rintro ⟨j, hj, hb⟩
      rw [rdT_get (by omega)] at hb
      exact ⟨_, List.mem_iff_getElem.2 ⟨j, by rw [List.length_take]; omega, List.getElem_take⟩, hb⟩
  refine seek (fun k j => cubbylaw07_heavy.l1 k x n (i : Int) (j : Int)) (min x[i].length 501) (fun j => badI (rd_TIns x[i] (j : Int)) = true) true _ ?_ ?_ ?_ ?_
  · intro j hj hb
    rw [badI_iff] at hb
    refine Ev.step (fun k => by simp only [cubbylaw07_heavy.l1]; rw [if_pos (by omega), if_pos (by omega), hg, if_pos (by omega), decide_eq_true (by omega)]) ?_
    refine Ev.step (f := fun _ => some true) (fun k => ?_) (Ev.now _)
    simp only [cubbylaw07_heavy.j3]
    rw [if_pos trivial, if_pos (by omega), if_pos (by omega), hg, if_pos (by omega), if_pos (by omega)]
    split
    · rfl
    · rw [if_pos (by omega)]
  · intro j hj hb r' hE
    rw [badI_iff] at hb
    refine Ev.step (fun k => by simp only [cubbylaw07_heavy.l1]; rw [if_pos (by omega), if_pos (by omega), hg, if_pos (by omega), decide_eq_true (by omega)]) ?_
    refine Ev.step (fun k => ?_) hE
    simp only [cubbylaw07_heavy.j3]
    rw [if_pos trivial, if_pos (by omega), if_pos (by omega), hg, if_pos (by omega), if_pos (by omega), if_neg (by omega), if_neg (by omega), wrap_nat (by omega)]
  · intro hb
    rw [if_pos (hany.2 hb)]
  · intro hb
    have hn : (x[i].take 501).any badI = false := by
      rw [← Bool.not_eq_true, hany]
      rintro ⟨j, hj, h1⟩
      exact hb j hj h1
    rw [hn]
    exact hout _ (by omega) hn
theorem heavy_loop (x : List (List SIns)) (hx : x.length ≤ 100) : ∀ (d i : Nat), x.length - i = d → i ≤ x.length → ∀ n : Int, 0 ≤ n → Ev (fun k => cubbylaw07_heavy.l0 k x n (i : Int)) (hv n (x.drop i)) := by
  intro d
  induction d with
  | zero =>
    intro i hd hi n hn
    rw [List.drop_eq_nil_of_le (by omega)]
    refine Ev.step (fun k => by simp only [cubbylaw07_heavy.l0]; rw [if_neg (by omega)]) ?_
    exact Ev.step (f := fun _ => some (decide (n > 500))) (fun k => by simp only [cubbylaw07_heavy.j1]; rw [if_neg Bool.false_ne_true]) (Ev.now _)
  | succ d ih =>
    intro i hd hi n hn
    have hlt : i < x.length := by omega
    rw [drop_cons hlt]
    unfold hv
    have hm := mn_nat x[i].length
    by_cases c : n ≤ 500
    · rw [if_pos c]
      refine Ev.step (fun k => by simp only [cubbylaw07_heavy.l0]; rw [if_pos (by omega), decide_eq_true c]) ?_
      refine Ev.step (fun k => by simp only [cubbylaw07_heavy.j1]; rw [if_pos trivial, if_pos (by omega), if_pos (by omega), rdL_get hlt, wrap_id (by omega) (by omega)]) ?_
      exact hrow x _ i hlt _ (fun _ => ih (i + 1) (by omega) (by omega) _ (by omega)) (by omega)
    · rw [if_neg c]
      refine Ev.step (fun k => by simp only [cubbylaw07_heavy.l0]; rw [if_pos (by omega), decide_eq_false c]) ?_
      exact Ev.step (f := fun _ => some true) (fun k => by simp only [cubbylaw07_heavy.j1]; rw [if_neg Bool.false_ne_true, decide_eq_true (by omega)]) (Ev.now _)
/-- It answers; and if it says no, the blocks are short. -/
theorem heavy_ev (x : List (List SIns)) : ∃ h, Ev (fun k => cubbylaw07_heavy.f k x) h ∧ (h = false → FairB x) := by
  by_cases c : (x.length : Int) > 100
  · exact ⟨true, Ev.congr (f := fun _ => some true) (fun k => by unfold cubbylaw07_heavy.f; rw [if_pos c]) (Ev.now _), by simp⟩
  · refine ⟨hv 0 x, Ev.congr (fun k => by unfold cubbylaw07_heavy.f; rw [if_neg c]; rfl) (heavy_loop x (by omega) x.length 0 (by omega) (by omega) 0 (by omega)), fun h => ?_⟩
    have hf := hv_fair x 0 (by omega) h
    refine ⟨by omega, fun b hb => (hf b hb).1, fun b hb y hy => ?_⟩
    have := (hf b hb).2 y hy
    have h1 := badI_iff y
    rw [this] at h1
    have : ¬ (100 < y.f5.length ∨ 1024 < y.f4.size) := fun h => absurd (h1.2 h) (by simp)
    omega
end Go.Proofs.YtgmklfaknomakaaDoor.PlainHeavy
namespace Go.Proofs.YtgmklfaknomakaaDoor.PlainCheck
open Go Go.RowKit Go.Proofs.YtgmklfaknomakaaDoorW.PrintWords Go.Proofs.YtgmklfaknomakaaDoorW.PrintMore Go.Proofs.YtgmklfaknomakaaDoor.Q Go.Proofs.YtgmklfaknomakaaDoor.Plain Go.Proofs.YtgmklfaknomakaaDoor.PlainName Go.Proofs.YtgmklfaknomakaaDoor.PlainOne Go.Proofs.YtgmklfaknomakaaDoor.PlainHeavy
set_option linter.unusedVariables false
set_option linter.unusedSimpArgs false

def insE (regs nb : Int) (x : SIns) (last : Bool) : Int := oneE regs nb x.f0 x.f1 x.f2 x.f3 x.f4 x.f5 last
/-- A block's first error. -/
def rowE (regs nb : Int) : List SIns → Int
  | [] => 0
  | x :: xs => if insE regs nb x xs.isEmpty = 0 then rowE regs nb xs else insE regs nb x xs.isEmpty
/-- All blocks' first error. -/
def allE (regs nb : Int) : List (List SIns) → Int
  | [] => 0
  | b :: bs => if rowE regs nb b = 0 then allE regs nb bs else rowE regs nb b
def total : List (List SIns) → Nat
  | [] => 0
  | b :: bs => b.length + total bs
def fits (left : Int) (l : List (List SIns)) : Bool := decide ((∀ b ∈ l, b.length ≠ 0) ∧ (total l : Int) ≤ left)
def shapeP (params regs : Int) (bs : List (List SIns)) : Prop := 0 ≤ params ∧ params ≤ 4 ∧ params ≤ regs ∧ regs ≤ 64 ∧ 1 ≤ bs.length ∧ bs.length ≤ 32 ∧ fits 200 bs = true
instance (params regs : Int) (bs : List (List SIns)) : Decidable (shapeP params regs bs) := by unfold shapeP; infer_instance
def checkE (nm : ByteArray) (params regs : Int) (bs : List (List SIns)) : Int := if nameOk nm = true then (if shapeP params regs bs then allE regs (bs.length : Int) bs else 71) else 70

theorem fits_nil {left : Int} (h : 0 ≤ left) : fits left [] = true := by
  unfold fits
  apply decide_eq_true
  exact ⟨by simp, by unfold total; omega⟩
theorem fits_cons (left : Int) (b : List SIns) (bs : List (List SIns)) : fits left (b :: bs) = (decide (b.length ≠ 0) && fits (left - b.length) bs) := by
  unfold fits
  rw [← Bool.decide_and]
  apply decide_eq_decide.2
  simp only [List.mem_cons, forall_eq_or_imp, total]
  constructor
  · rintro ⟨⟨h1, h2⟩, h3⟩
    exact ⟨h1, h2, by omega⟩
  · rintro ⟨h1, h2, h3⟩
    exact ⟨⟨h1, h2⟩, by omega⟩
theorem fits_neg {left : Int} {bs : List (List SIns)} (h : left < 0) : fits left bs = false := by
  unfold fits
  apply decide_eq_false
  rintro ⟨_, h2⟩
  omega
theorem last_eq' {b : List SIns} {j : Nat} (hj : j < b.length) (hl : b.length ≤ 4611686018427387904) : ((j : Int) == wrap64 ((b.length : Int) - 1)) = (b.drop (j + 1)).isEmpty := by
  rw [wrap_pred (by omega) hl]
  by_cases c : j + 1 = b.length
  · rw [List.drop_eq_nil_of_le (by omega)]
    simp
    omega
  · have : b.drop (j + 1) ≠ [] := fun h => by
      have := congrArg List.length h
      rw [List.length_drop] at this
      simp at this
      omega
    rw [List.isEmpty_eq_false_iff.2 this]
    simp
    omega

/-! ### the reference -/
section
variable (pn : ByteArray) (pp rg : Int) (bs : List (List SIns)) (hF : FairB bs)
include hF
theorem refshape_loop : ∀ (d i : Nat), bs.length - i = d → i ≤ bs.length → ∀ s : Int, 0 ≤ s → s ≤ 1000 * i → Ev (fun k => cubbyref07_Shape.l0 k bs s (i : Int)) (fits (200 - s) (bs.drop i)) := by
  have hlen := hF.len
  intro d
  induction d with
  | zero =>
    intro i hd hi s h0 hs
    rw [List.drop_eq_nil_of_le (by omega)]
    refine Ev.step (f := fun _ => some _) (fun k => by simp only [cubbyref07_Shape.l0]; rw [if_neg (by omega)]) ?_
    have : fits (200 - s) [] = decide (s ≤ 200) := by
      unfold fits total
      apply decide_eq_decide.2
      constructor
      · rintro ⟨_, h⟩
        omega
      · intro h
        exact ⟨by simp, by omega⟩
    rw [this]
    exact Ev.now _
  | succ d ih =>
    intro i hd hi s h0 hs
    have hlt : i < bs.length := by omega
    have hr := hF.row _ (List.getElem_mem hlt)
    rw [drop_cons hlt, fits_cons]
    by_cases c : ((bs[i]).length : Int) = 0
    · rw [decide_eq_false (by omega), Bool.false_and]
      exact Ev.step (f := fun _ => some false) (fun k => by simp only [cubbyref07_Shape.l0]; rw [if_pos (by omega), if_pos (by omega), rdL_get hlt, if_pos c]) (Ev.now _)
    · by_cases c1 : ((bs[i]).length : Int) > 200
      · rw [fits_neg (by omega), Bool.and_false]
        exact Ev.step (f := fun _ => some false) (fun k => by simp only [cubbyref07_Shape.l0]; rw [if_pos (by omega), if_pos (by omega), rdL_get hlt, if_neg c, if_pos c1]) (Ev.now _)
      · rw [decide_eq_true (by omega), Bool.true_and]
        have := ih (i + 1) (by omega) (by omega) (s + (bs[i]).length) (by omega) (by omega)
        rw [show 200 - s - ((bs[i]).length : Int) = 200 - (s + (bs[i]).length) by omega]
        refine Ev.step (fun k => ?_) this
        simp only [cubbyref07_Shape.l0]
        rw [if_pos (by omega), if_pos (by omega), rdL_get hlt, if_neg c, if_neg c1, wrap_nat (by omega), wrap_id (by omega) (by omega)]
theorem refshape_ev : Ev (fun k => cubbyref07_Shape.f k pp rg bs) (decide (shapeP pp rg bs)) := by
  have hyes : ¬ shapeP pp rg bs → Ev (fun k => cubbyref07_Shape.j0 k bs true) (decide (shapeP pp rg bs)) := fun h => by
    rw [decide_eq_false h]
    exact Ev.step (f := fun _ => some false) (fun k => by simp only [cubbyref07_Shape.j0]; rw [if_pos trivial]) (Ev.now _)
  by_cases c0 : pp < 0
  · exact Ev.congr (fun k => by unfold cubbyref07_Shape.f; rw [if_pos c0]) (hyes (fun h => by have := h.1; omega))
  by_cases c1 : pp > 4
  · exact Ev.congr (fun k => by unfold cubbyref07_Shape.f; rw [if_neg c0, if_pos c1]) (hyes (fun h => by have := h.2.1; omega))
  by_cases c2 : rg < pp
  · exact Ev.congr (fun k => by unfold cubbyref07_Shape.f; rw [if_neg c0, if_neg c1, if_pos c2]) (hyes (fun h => by have := h.2.2.1; omega))
  by_cases c3 : rg > 64
  · exact Ev.congr (fun k => by unfold cubbyref07_Shape.f; rw [if_neg c0, if_neg c1, if_neg c2, if_pos c3]) (hyes (fun h => by have := h.2.2.2.1; omega))
  by_cases c4 : (bs.length : Int) < 1
  · exact Ev.congr (fun k => by unfold cubbyref07_Shape.f; rw [if_neg c0, if_neg c1, if_neg c2, if_neg c3, if_pos c4]) (hyes (fun h => by have := h.2.2.2.2.1; omega))
  refine Ev.congr (fun k => by unfold cubbyref07_Shape.f; rw [if_neg c0, if_neg c1, if_neg c2, if_neg c3, if_neg c4]) ?_
  by_cases c5 : (bs.length : Int) > 32
  · rw [decide_eq_true c5]
    exact hyes (fun h => by have := h.2.2.2.2.2.1; omega)
  · rw [decide_eq_false c5]
    have := refshape_loop bs hF bs.length 0 (by omega) (by omega) 0 (by omega) (by omega)
    have e : fits (200 - 0) (bs.drop 0) = decide (shapeP pp rg bs) := by
      rw [List.drop_zero]
      unfold shapeP
      cases hf : fits (200 - 0) bs
      · symm
        apply decide_eq_false
        rintro ⟨_, _, _, _, _, _, h⟩
        rw [show (200 : Int) - 0 = 200 by omega, h] at hf
        exact absurd hf (by simp)
      · symm
        apply decide_eq_true
        exact ⟨by omega, by omega, by omega, by omega, by omega, by omega, hf⟩
    rw [← e]
    refine Ev.step (fun k => by simp only [cubbyref07_Shape.j0]; rw [if_neg Bool.false_ne_true]; rfl) this
theorem refcheck_row (i : Nat) (hi : i < bs.length) (R : Int) (h : Ev (fun k => cubbyref07_Check.l0 k ((i + 1 : Nat) : Int) pn pp rg bs) R) : ∀ (d j : Nat), bs[i].length - j = d → j ≤ bs[i].length → Ev (fun k => cubbyref07_Check.l1 k (i : Int) (j : Int) pn pp rg bs) (if rowE rg (bs.length : Int) (bs[i].drop j) = 0 then R else rowE rg (bs.length : Int) (bs[i].drop j)) := by
  have hlen := hF.len
  have hr := hF.row _ (List.getElem_mem hi)
  have hg := rdL_get hi
  intro d
  induction d with
  | zero =>
    intro j hd hj
    rw [List.drop_eq_nil_of_le (by omega)]
    unfold rowE
    rw [if_pos rfl]
    exact Ev.step (fun k => by simp only [cubbyref07_Check.l1]; rw [if_pos (by omega), if_pos (by omega), hg, if_neg (by omega), wrap_nat (by omega)]) h
  | succ d ih =>
    intro j hd hj
    have hlt : j < bs[i].length := by omega
    have hx := hF.ins _ (List.getElem_mem hi) _ (List.getElem_mem hlt)
    rw [drop_cons hlt]
    unfold rowE
    have h1 := refone_ev bs[i][j].f0 bs[i][j].f1 bs[i][j].f2 bs[i][j].f3 bs[i][j].f4 bs[i][j].f5 (by omega) rg (bs.length : Int) (bs[i].drop (j + 1)).isEmpty
    refine Ev.step (fun k => by simp only [cubbyref07_Check.l1]; rw [if_pos (by omega), if_pos (by omega), hg, if_pos (by omega), if_pos (by omega), rdT_get hlt, last_eq' hlt (by omega)]) (Ev.bind h1 ?_)
    show Ev (fun n => if insE rg (bs.length : Int) bs[i][j] (bs[i].drop (j + 1)).isEmpty = 0 then _ else some (insE rg (bs.length : Int) bs[i][j] (bs[i].drop (j + 1)).isEmpty)) _
    by_cases c : insE rg (bs.length : Int) bs[i][j] (bs[i].drop (j + 1)).isEmpty = 0
    · rw [if_pos c]
      exact Ev.congr (fun k => by rw [if_pos c, wrap_nat (by omega)]) (ih (j + 1) (by omega) (by omega))
    · rw [if_neg c, if_neg c]
      exact Ev.congr (f := fun _ => some _) (fun k => by rw [if_neg c]) (Ev.now _)
theorem refcheck_all : ∀ (d i : Nat), bs.length - i = d → i ≤ bs.length → Ev (fun k => cubbyref07_Check.l0 k (i : Int) pn pp rg bs) (allE rg (bs.length : Int) (bs.drop i)) := by
  intro d
  induction d with
  | zero =>
    intro i hd hi
    rw [List.drop_eq_nil_of_le (by omega)]
    exact Ev.step (f := fun _ => some 0) (fun k => by simp only [cubbyref07_Check.l0]; rw [if_neg (by omega)]) (Ev.now _)
  | succ d ih =>
    intro i hd hi
    have hlt : i < bs.length := by omega
    rw [drop_cons hlt]
    unfold allE
    refine Ev.step (fun k => by simp only [cubbyref07_Check.l0]; rw [if_pos (by omega)]) ?_
    have := refcheck_row pn pp rg bs hF i hlt _ (ih (i + 1) (by omega) (by omega)) bs[i].length 0 (by omega) (by omega)
    rw [List.drop_zero] at this
    exact this
theorem refcheck_ev : Ev (fun k => cubbyref07_Check.f k pn pp rg bs) (checkE pn pp rg bs) := by
  unfold checkE
  refine Ev.bind (refname_ev pn) ?_
  cases nameOk pn
  · exact Ev.congr (f := fun _ => some 70) (fun k => by rw [if_neg Bool.false_ne_true]) (Ev.now _)
  · refine Ev.congr (fun k => by rw [if_pos rfl]) (Ev.bind (refshape_ev pp rg bs hF) ?_)
    rw [if_pos rfl]
    by_cases c : shapeP pp rg bs
    · rw [if_pos c, decide_eq_true c]
      have := refcheck_all pn pp rg bs hF bs.length 0 (by omega) (by omega)
      exact Ev.congr (fun k => by rw [if_pos rfl]; rfl) this
    · rw [if_neg c, decide_eq_false c]
      exact Ev.congr (f := fun _ => some 71) (fun k => by rw [if_neg Bool.false_ne_true]) (Ev.now _)

/-! ### ir.Check -/
theorem check_row (i : Nat) (hi : i < bs.length) (R : Int) (h : Ev (fun k => ir_Check.l1 k bs (bs.length : Int) ((i + 1 : Nat) : Int) pn pp rg bs) R) : ∀ (d j : Nat), bs[i].length - j = d → j ≤ bs[i].length → Ev (fun k => ir_Check.l2 k bs[i] bs (bs.length : Int) (i : Int) bs[i] (bs[i].length : Int) (j : Int) pn pp rg bs) (if rowE rg (bs.length : Int) (bs[i].drop j) = 0 then R else rowE rg (bs.length : Int) (bs[i].drop j)) := by
  have hlen := hF.len
  have hr := hF.row _ (List.getElem_mem hi)
  intro d
  induction d with
  | zero =>
    intro j hd hj
    rw [List.drop_eq_nil_of_le (by omega)]
    unfold rowE
    rw [if_pos rfl]
    exact Ev.step (fun k => by simp only [ir_Check.l2]; rw [if_neg (by omega), wrap_nat (by omega)]) h
  | succ d ih =>
    intro j hd hj
    have hlt : j < bs[i].length := by omega
    have hx := hF.ins _ (List.getElem_mem hi) _ (List.getElem_mem hlt)
    rw [drop_cons hlt]
    unfold rowE
    have h1 := one_ev pn pp rg bs bs[i][j].f0 bs[i][j].f1 bs[i][j].f2 bs[i][j].f3 bs[i][j].f4 bs[i][j].f5 (bs[i].drop (j + 1)).isEmpty
    refine Ev.step (fun k => by simp only [ir_Check.l2]; rw [if_pos (by omega), if_pos (by omega), if_pos (by omega), rdT_get hlt, last_eq' hlt (by omega)]) (Ev.bind h1 ?_)
    show Ev (fun n => if insE rg (bs.length : Int) bs[i][j] (bs[i].drop (j + 1)).isEmpty = 0 then _ else some (insE rg (bs.length : Int) bs[i][j] (bs[i].drop (j + 1)).isEmpty)) _
    by_cases c : insE rg (bs.length : Int) bs[i][j] (bs[i].drop (j + 1)).isEmpty = 0
    · rw [if_pos c]
      exact Ev.congr (fun k => by rw [if_pos c, wrap_nat (by omega)]) (ih (j + 1) (by omega) (by omega))
    · rw [if_neg c, if_neg c]
      exact Ev.congr (f := fun _ => some _) (fun k => by rw [if_neg c]) (Ev.now _)
theorem check_all : ∀ (d i : Nat), bs.length - i = d → i ≤ bs.length → Ev (fun k => ir_Check.l1 k bs (bs.length : Int) (i : Int) pn pp rg bs) (allE rg (bs.length : Int) (bs.drop i)) := by
  intro d
  induction d with
  | zero =>
    intro i hd hi
    rw [List.drop_eq_nil_of_le (by omega)]
    exact Ev.step (f := fun _ => some 0) (fun k => by simp only [ir_Check.l1]; rw [if_neg (by omega)]) (Ev.now _)
  | succ d ih =>
    intro i hd hi
    have hlt : i < bs.length := by omega
    rw [drop_cons hlt]
    unfold allE
    refine Ev.step (fun k => by simp only [ir_Check.l1]; rw [if_pos (by omega), if_pos (by omega), if_pos (by omega), rdL_get hlt]) ?_
    have := check_row pn pp rg bs hF i hlt _ (ih (i + 1) (by omega) (by omega)) bs[i].length 0 (by omega) (by omega)
    rw [List.drop_zero] at this
    exact this
theorem check_fits : ∀ (d i : Nat), bs.length - i = d → i ≤ bs.length → ∀ left : Int, 0 ≤ left → left ≤ 200 → Ev (fun k => ir_Check.l0 k left bs (bs.length : Int) (i : Int) pn pp rg bs) (if fits left (bs.drop i) = true then allE rg (bs.length : Int) bs else 71) := by
  have hlen := hF.len
  intro d
  induction d with
  | zero =>
    intro i hd hi left h0 h1
    rw [List.drop_eq_nil_of_le (by omega), fits_nil h0, if_pos rfl]
    have := check_all pn pp rg bs hF bs.length 0 (by omega) (by omega)
    exact Ev.step (fun k => by simp only [ir_Check.l0]; rw [if_neg (by omega)]; rfl) this
  | succ d ih =>
    intro i hd hi left h0 h1
    have hlt : i < bs.length := by omega
    rw [drop_cons hlt, fits_cons]
    by_cases c : ((bs[i]).length : Int) = 0
    · rw [decide_eq_false (by omega), Bool.false_and, if_neg Bool.false_ne_true]
      exact Ev.step (f := fun _ => some 71) (fun k => by simp only [ir_Check.l0]; rw [if_pos (by omega), if_pos (by omega), if_pos (by omega), rdL_get hlt, if_pos c]) (Ev.now _)
    · by_cases c1 : ((bs[i]).length : Int) > left
      · rw [fits_neg (by omega), Bool.and_false, if_neg Bool.false_ne_true]
        exact Ev.step (f := fun _ => some 71) (fun k => by simp only [ir_Check.l0]; rw [if_pos (by omega), if_pos (by omega), if_pos (by omega), rdL_get hlt, if_neg c, if_pos c1]) (Ev.now _)
      · rw [decide_eq_true (by omega), Bool.true_and]
        refine Ev.step (fun k => ?_) (ih (i + 1) (by omega) (by omega) (left - (bs[i]).length) (by omega) (by omega))
        simp only [ir_Check.l0]
        rw [if_pos (by omega), if_pos (by omega), if_pos (by omega), rdL_get hlt, if_neg c, if_neg c1, wrap_nat (by omega), wrap_id (by omega) (by omega)]
theorem check_ev : Ev (fun k => ir_Check.f k pn pp rg bs) (checkE pn pp rg bs) := by
  unfold checkE
  cases hn : nameOk pn
  · exact Ev.congr (f := fun _ => some 70) (fun k => by unfold ir_Check.f; rw [name_eq, Option.bind_some, hn, if_neg Bool.false_ne_true]) (Ev.now _)
  · rw [if_pos rfl]
    refine Ev.congr (fun k => by unfold ir_Check.f; rw [name_eq, Option.bind_some, hn, if_pos rfl]) ?_
    have hyes : ¬ shapeP pp rg bs → Ev (fun k => ir_Check.j0 k true pn pp rg bs) (if shapeP pp rg bs then allE rg (bs.length : Int) bs else 71) := fun h => by
      rw [if_neg h]
      exact Ev.step (f := fun _ => some 71) (fun k => by simp only [ir_Check.j0]; rw [if_pos trivial]) (Ev.now _)
    by_cases c0 : pp < 0
    · exact Ev.congr (fun k => by rw [if_pos c0]) (hyes (fun h => by have := h.1; omega))
    by_cases c1 : pp > 4
    · exact Ev.congr (fun k => by rw [if_neg c0, if_pos c1]) (hyes (fun h => by have := h.2.1; omega))
    by_cases c2 : rg < pp
    · exact Ev.congr (fun k => by rw [if_neg c0, if_neg c1, if_pos c2]) (hyes (fun h => by have := h.2.2.1; omega))
    by_cases c3 : rg > 64
    · exact Ev.congr (fun k => by rw [if_neg c0, if_neg c1, if_neg c2, if_pos c3]) (hyes (fun h => by have := h.2.2.2.1; omega))
    by_cases c4 : (bs.length : Int) < 1
    · exact Ev.congr (fun k => by rw [if_neg c0, if_neg c1, if_neg c2, if_neg c3, if_pos c4]) (hyes (fun h => by have := h.2.2.2.2.1; omega))
    refine Ev.congr (fun k => by rw [if_neg c0, if_neg c1, if_neg c2, if_neg c3, if_neg c4]) ?_
    by_cases c5 : (bs.length : Int) > 32
    · rw [decide_eq_true c5]
      exact hyes (fun h => by have := h.2.2.2.2.2.1; omega)
    · rw [decide_eq_false c5]
      have := check_fits pn pp rg bs hF bs.length 0 (by omega) (by omega) 200 (by omega) (by omega)
      rw [List.drop_zero] at this
      refine Ev.step (f := fun k => ir_Check.l0 k 200 bs (bs.length : Int) ((0 : Nat) : Int) pn pp rg bs) (fun k => by simp only [ir_Check.j0]; rw [if_neg Bool.false_ne_true]; rfl) ?_
      by_cases hf : fits 200 bs = true
      · rw [if_pos hf] at this
        rw [if_pos ⟨by omega, by omega, by omega, by omega, by omega, by omega, hf⟩]
        exact this
      · rw [if_neg hf] at this
        rw [if_neg (fun h => hf h.2.2.2.2.2.2)]
        exact this
end
end Go.Proofs.YtgmklfaknomakaaDoor.PlainCheck
