/- IrBlocks: its parts, put together. -/
import Derived.Test.YtgmklfaknomakaaDoorMIrBlocks1
import Derived.Test.YtgmklfaknomakaaDoorMIrBlocks2
import Derived.Test.YtgmklfaknomakaaDoorMIrBlocks3
namespace Go.Proofs.YtgmklfaknomakaaDoor.Q
open Go.RowKit Go.Proofs.YtgmklfaknomakaaDoorW.PrintWords Go.Proofs.YtgmklfaknomakaaDoorW.PrintLast Go.Proofs.YtgmklfaknomakaaDoorW.PrintMore
attribute [local go_sem] max2_int min2_int max_two min_two max_three min_three max_four min_four   -- for this text's walks alone
set_option linter.unusedVariables false
set_option linter.unusedSimpArgs false

/-! ### ir_one: function 33 -/
mutual
def ir_one.j0 : Nat → ByteArray → Bool → ByteArray → Int → Int → List (List (SIns)) → Int → Int → Int → Int → ByteArray → List Int → Option (Int)
 | 0, _, _, _, _, _, _, _, _, _, _, _, _ => none
 | k + 1, x7, x45, x240000, x240001, x240002, x240003, x241000, x241001, x241002, x241003, x241004, x241005 => if x45 = true then (some 72) else ((some (([x241001, x241002, x241003] : List Int) : List Int)).bind fun y243 => (ir_one.l0 k x7 y243 y243 (y243.length : Int) 0 x240000 x240001 x240002 x240003 x241000 x241001 x241002 x241003 x241004 x241005))
def ir_one.l0 : Nat → ByteArray → List Int → List Int → Int → Int → ByteArray → Int → Int → List (List (SIns)) → Int → Int → Int → Int → ByteArray → List Int → Option (Int)
 | 0, _, _, _, _, _, _, _, _, _, _, _, _, _, _, _ => none
 | k + 1, x7, x8, x53, x54, x55, x240000, x240001, x240002, x240003, x241000, x241001, x241002, x241003, x241004, x241005 => if x55 < x54 then (if 0 ≤ x55 then (if x55 < (x53.length : Int) then (if x55 < (x7.size : Int) then (if (bt x7 x55) = 32 then (if (rd x53 x55) = 0 then (ir_one.l0 k x7 x8 x53 x54 (wrap64 (x55 + 1)) x240000 x240001 x240002 x240003 x241000 x241001 x241002 x241003 x241004 x241005) else (some 72)) else (ir_one.l0 k x7 x8 x53 x54 (wrap64 (x55 + 1)) x240000 x240001 x240002 x240003 x241000 x241001 x241002 x241003 x241004 x241005)) else (none)) else (none)) else (none)) else (ir_one.l1 k x7 x8 x8 (x8.length : Int) 0 x240000 x240001 x240002 x240003 x241000 x241001 x241002 x241003 x241004 x241005)
def ir_one.l1 : Nat → ByteArray → List Int → List Int → Int → Int → ByteArray → Int → Int → List (List (SIns)) → Int → Int → Int → Int → ByteArray → List Int → Option (Int)
 | 0, _, _, _, _, _, _, _, _, _, _, _, _, _, _, _ => none
 | k + 1, x7, x8, x70, x71, x72, x240000, x240001, x240002, x240003, x241000, x241001, x241002, x241003, x241004, x241005 => if x72 < x71 then (if 0 ≤ x72 then (if x72 < (x70.length : Int) then (if x72 < (x7.size : Int) then (if (bt x7 x72) = 114 then ((ir_one_1.f (rd x70 x72) x240000 x240001 x240002 x240003).bind fun t248 => (if t248 = true then (some 73) else (ir_one.l1 k x7 x8 x70 x71 (wrap64 (x72 + 1)) x240000 x240001 x240002 x240003 x241000 x241001 x241002 x241003 x241004 x241005))) else (ir_one.l1 k x7 x8 x70 x71 (wrap64 (x72 + 1)) x240000 x240001 x240002 x240003 x241000 x241001 x241002 x241003 x241004 x241005)) else (none)) else (none)) else (none)) else ((slices_ContainsFunc_int_int.f x241005 x240000 x240001 x240002 x240003).bind fun t249 => (if t249 = true then (some 73) else (ir_one.l2 k x7 x8 (x8.length : Int) 0 x240000 x240001 x240002 x240003 x241000 x241001 x241002 x241003 x241004 x241005)))
def ir_one.l2 : Nat → ByteArray → List Int → Int → Int → ByteArray → Int → Int → List (List (SIns)) → Int → Int → Int → Int → ByteArray → List Int → Option (Int)
 | 0, _, _, _, _, _, _, _, _, _, _, _, _, _, _ => none
 | k + 1, x7, x91, x92, x93, x240000, x240001, x240002, x240003, x241000, x241001, x241002, x241003, x241004, x241005 => if x93 < x92 then (if 0 ≤ x93 then (if x93 < (x91.length : Int) then (if x93 < (x7.size : Int) then (if (bt x7 x93) = 110 then (if (rd x91 x93) < 0 then (some 81) else (if (rd x91 x93) ≥ 65536 then (some 81) else (ir_one.l2 k x7 x91 x92 (wrap64 (x93 + 1)) x240000 x240001 x240002 x240003 x241000 x241001 x241002 x241003 x241004 x241005))) else (ir_one.l2 k x7 x91 x92 (wrap64 (x93 + 1)) x240000 x240001 x240002 x240003 x241000 x241001 x241002 x241003 x241004 x241005)) else (none)) else (none)) else (none)) else ((ir_Targets.f x241000 x241001 x241002 x241003 x241004 x241005).bind fun t251 => (ir_one.l3 k t251 (t251.length : Int) 0 x240000 x240001 x240002 x240003 x241000 x241001 x241002 x241003 x241004 x241005))
def ir_one.l3 : Nat → List Int → Int → Int → ByteArray → Int → Int → List (List (SIns)) → Int → Int → Int → Int → ByteArray → List Int → Option (Int)
 | 0, _, _, _, _, _, _, _, _, _, _, _, _, _ => none
 | k + 1, x112, x113, x114, x240000, x240001, x240002, x240003, x241000, x241001, x241002, x241003, x241004, x241005 => if x114 < x113 then (if 0 ≤ x114 then (if x114 < (x112.length : Int) then (if (rd x112 x114) < 0 then (some 74) else (if (rd x112 x114) ≥ (x240003.length : Int) then (some 74) else (ir_one.l3 k x112 x113 (wrap64 (x114 + 1)) x240000 x240001 x240002 x240003 x241000 x241001 x241002 x241003 x241004 x241005))) else (none)) else (none)) else (if x241000 = 11 then ((ir_Name.f x241004).bind fun t255 => (ir_one.j5 k (!t255) x241000 x241001 x241002 x241003 x241004 x241005)) else (ir_one.j5 k false x241000 x241001 x241002 x241003 x241004 x241005))
def ir_one.j5 : Nat → Bool → Int → Int → Int → Int → ByteArray → List Int → Option (Int)
 | 0, _, _, _, _, _, _, _ => none
 | k + 1, x128, x241000, x241001, x241002, x241003, x241004, x241005 => if x128 = true then (some 70) else (if (x241005.length : Int) > 4 then (some 192) else (some 0))
end
def ir_one.f (k : Nat) (a0_0 : ByteArray) (a0_1 : Int) (a0_2 : Int) (l0_3 : List (List (SIns))) (a1_0 : Int) (a1_1 : Int) (a1_2 : Int) (a1_3 : Int) (a1_4 : ByteArray) (l1_5 : List Int) (a2 : Bool) : Option (Int) := (ir_shape.f a1_0).bind fun t241 => (if t241.toList = ([] : List UInt8) then (ir_one.j0 k t241 true a0_0 a0_1 a0_2 l0_3 a1_0 a1_1 a1_2 a1_3 a1_4 l1_5) else ((ir_Last.f a1_0).bind fun t242 => (if (t242 != a2) = true then (ir_one.j0 k t241 true a0_0 a0_1 a0_2 l0_3 a1_0 a1_1 a1_2 a1_3 a1_4 l1_5) else (if a1_0 = 11 then (ir_one.j0 k t241 false a0_0 a0_1 a0_2 l0_3 a1_0 a1_1 a1_2 a1_3 a1_4 l1_5) else (if a1_4.toList = ([] : List UInt8) then (ir_one.j0 k t241 (decide ((l1_5.length : Int) > 0)) a0_0 a0_1 a0_2 l0_3 a1_0 a1_1 a1_2 a1_3 a1_4 l1_5) else (ir_one.j0 k t241 true a0_0 a0_1 a0_2 l0_3 a1_0 a1_1 a1_2 a1_3 a1_4 l1_5))))))
theorem ir_one.mono_l : ∀ k, (∀ y0 y1 y2 y3 y4 y5 y6 y7 y8 y9 y10 y11, LeO (ir_one.j0 k y0 y1 y2 y3 y4 y5 y6 y7 y8 y9 y10 y11) (ir_one.j0 (k + 1) y0 y1 y2 y3 y4 y5 y6 y7 y8 y9 y10 y11)) ∧ (∀ y0 y1 y2 y3 y4 y5 y6 y7 y8 y9 y10 y11 y12 y13 y14, LeO (ir_one.l0 k y0 y1 y2 y3 y4 y5 y6 y7 y8 y9 y10 y11 y12 y13 y14) (ir_one.l0 (k + 1) y0 y1 y2 y3 y4 y5 y6 y7 y8 y9 y10 y11 y12 y13 y14)) ∧ (∀ y0 y1 y2 y3 y4 y5 y6 y7 y8 y9 y10 y11 y12 y13 y14, LeO (ir_one.l1 k y0 y1 y2 y3 y4 y5 y6 y7 y8 y9 y10 y11 y12 y13 y14) (ir_one.l1 (k + 1) y0 y1 y2 y3 y4 y5 y6 y7 y8 y9 y10 y11 y12 y13 y14)) ∧ (∀ y0 y1 y2 y3 y4 y5 y6 y7 y8 y9 y10 y11 y12 y13, LeO (ir_one.l2 k y0 y1 y2 y3 y4 y5 y6 y7 y8 y9 y10 y11 y12 y13) (ir_one.l2 (k + 1) y0 y1 y2 y3 y4 y5 y6 y7 y8 y9 y10 y11 y12 y13)) ∧ (∀ y0 y1 y2 y3 y4 y5 y6 y7 y8 y9 y10 y11 y12, LeO (ir_one.l3 k y0 y1 y2 y3 y4 y5 y6 y7 y8 y9 y10 y11 y12) (ir_one.l3 (k + 1) y0 y1 y2 y3 y4 y5 y6 y7 y8 y9 y10 y11 y12)) ∧ (∀ y0 y1 y2 y3 y4 y5 y6, LeO (ir_one.j5 k y0 y1 y2 y3 y4 y5 y6) (ir_one.j5 (k + 1) y0 y1 y2 y3 y4 y5 y6))
 | 0 => ⟨fun _ _ _ _ _ _ _ _ _ _ _ _ r h => by simp [ir_one.j0] at h, fun _ _ _ _ _ _ _ _ _ _ _ _ _ _ _ r h => by simp [ir_one.l0] at h, fun _ _ _ _ _ _ _ _ _ _ _ _ _ _ _ r h => by simp [ir_one.l1] at h, fun _ _ _ _ _ _ _ _ _ _ _ _ _ _ r h => by simp [ir_one.l2] at h, fun _ _ _ _ _ _ _ _ _ _ _ _ _ r h => by simp [ir_one.l3] at h, fun _ _ _ _ _ _ _ r h => by simp [ir_one.j5] at h⟩
 | k + 1 => by
  obtain ⟨ih0, ih1, ih2, ih3, ih4, ih5⟩ := ir_one.mono_l k
  refine ⟨?_, ?_, ?_, ?_, ?_, ?_⟩
  ·intro y0 y1 y2 y3 y4 y5 y6 y7 y8 y9 y10 y11
   unfold ir_one.j0
   repeat' first
   | (with_reducible exact ih0 _ _ _ _ _ _ _ _ _ _ _ _)
   | (with_reducible exact ih1 _ _ _ _ _ _ _ _ _ _ _ _ _ _ _)
   | (with_reducible exact ih2 _ _ _ _ _ _ _ _ _ _ _ _ _ _ _)
   | (with_reducible exact ih3 _ _ _ _ _ _ _ _ _ _ _ _ _ _)
   | (with_reducible exact ih4 _ _ _ _ _ _ _ _ _ _ _ _ _)
   | (with_reducible exact ih5 _ _ _ _ _ _ _)
   | (with_reducible exact LeO.refl _)
   | (with_reducible exact LeO.none _)
   | (with_reducible refine LeO.ite ?_ ?_)
   | (with_reducible refine LeO.bind ?_ (fun _ => ?_))
   | exact ih0 _ _ _ _ _ _ _ _ _ _ _ _
   | exact ih1 _ _ _ _ _ _ _ _ _ _ _ _ _ _ _
   | exact ih2 _ _ _ _ _ _ _ _ _ _ _ _ _ _ _
   | exact ih3 _ _ _ _ _ _ _ _ _ _ _ _ _ _
   | exact ih4 _ _ _ _ _ _ _ _ _ _ _ _ _
   | exact ih5 _ _ _ _ _ _ _
   | exact LeO.none _
   | refine LeO.ite ?_ ?_
   | refine LeO.bind ?_ (fun _ => ?_)
  ·intro y0 y1 y2 y3 y4 y5 y6 y7 y8 y9 y10 y11 y12 y13 y14
   unfold ir_one.l0
   repeat' first
   | (with_reducible exact ih0 _ _ _ _ _ _ _ _ _ _ _ _)
   | (with_reducible exact ih1 _ _ _ _ _ _ _ _ _ _ _ _ _ _ _)
   | (with_reducible exact ih2 _ _ _ _ _ _ _ _ _ _ _ _ _ _ _)
   | (with_reducible exact ih3 _ _ _ _ _ _ _ _ _ _ _ _ _ _)
   | (with_reducible exact ih4 _ _ _ _ _ _ _ _ _ _ _ _ _)
   | (with_reducible exact ih5 _ _ _ _ _ _ _)
   | (with_reducible exact LeO.refl _)
   | (with_reducible exact LeO.none _)
   | (with_reducible refine LeO.ite ?_ ?_)
   | (with_reducible refine LeO.bind ?_ (fun _ => ?_))
   | exact ih0 _ _ _ _ _ _ _ _ _ _ _ _
   | exact ih1 _ _ _ _ _ _ _ _ _ _ _ _ _ _ _
   | exact ih2 _ _ _ _ _ _ _ _ _ _ _ _ _ _ _
   | exact ih3 _ _ _ _ _ _ _ _ _ _ _ _ _ _
   | exact ih4 _ _ _ _ _ _ _ _ _ _ _ _ _
   | exact ih5 _ _ _ _ _ _ _
   | exact LeO.none _
   | refine LeO.ite ?_ ?_
   | refine LeO.bind ?_ (fun _ => ?_)
  ·intro y0 y1 y2 y3 y4 y5 y6 y7 y8 y9 y10 y11 y12 y13 y14
   unfold ir_one.l1
   repeat' first
   | (with_reducible exact ih0 _ _ _ _ _ _ _ _ _ _ _ _)
   | (with_reducible exact ih1 _ _ _ _ _ _ _ _ _ _ _ _ _ _ _)
   | (with_reducible exact ih2 _ _ _ _ _ _ _ _ _ _ _ _ _ _ _)
   | (with_reducible exact ih3 _ _ _ _ _ _ _ _ _ _ _ _ _ _)
   | (with_reducible exact ih4 _ _ _ _ _ _ _ _ _ _ _ _ _)
   | (with_reducible exact ih5 _ _ _ _ _ _ _)
   | (with_reducible exact LeO.refl _)
   | (with_reducible exact LeO.none _)
   | (with_reducible refine LeO.ite ?_ ?_)
   | (with_reducible refine LeO.bind ?_ (fun _ => ?_))
   | exact ih0 _ _ _ _ _ _ _ _ _ _ _ _
   | exact ih1 _ _ _ _ _ _ _ _ _ _ _ _ _ _ _
   | exact ih2 _ _ _ _ _ _ _ _ _ _ _ _ _ _ _
   | exact ih3 _ _ _ _ _ _ _ _ _ _ _ _ _ _
   | exact ih4 _ _ _ _ _ _ _ _ _ _ _ _ _
   | exact ih5 _ _ _ _ _ _ _
   | exact LeO.none _
   | refine LeO.ite ?_ ?_
   | refine LeO.bind ?_ (fun _ => ?_)
  ·intro y0 y1 y2 y3 y4 y5 y6 y7 y8 y9 y10 y11 y12 y13
   unfold ir_one.l2
   repeat' first
   | (with_reducible exact ih0 _ _ _ _ _ _ _ _ _ _ _ _)
   | (with_reducible exact ih1 _ _ _ _ _ _ _ _ _ _ _ _ _ _ _)
   | (with_reducible exact ih2 _ _ _ _ _ _ _ _ _ _ _ _ _ _ _)
   | (with_reducible exact ih3 _ _ _ _ _ _ _ _ _ _ _ _ _ _)
   | (with_reducible exact ih4 _ _ _ _ _ _ _ _ _ _ _ _ _)
   | (with_reducible exact ih5 _ _ _ _ _ _ _)
   | (with_reducible exact LeO.refl _)
   | (with_reducible exact LeO.none _)
   | (with_reducible refine LeO.ite ?_ ?_)
   | (with_reducible refine LeO.bind ?_ (fun _ => ?_))
   | exact ih0 _ _ _ _ _ _ _ _ _ _ _ _
   | exact ih1 _ _ _ _ _ _ _ _ _ _ _ _ _ _ _
   | exact ih2 _ _ _ _ _ _ _ _ _ _ _ _ _ _ _
   | exact ih3 _ _ _ _ _ _ _ _ _ _ _ _ _ _
   | exact ih4 _ _ _ _ _ _ _ _ _ _ _ _ _
   | exact ih5 _ _ _ _ _ _ _
   | exact LeO.none _
   | refine LeO.ite ?_ ?_
   | refine LeO.bind ?_ (fun _ => ?_)
  ·intro y0 y1 y2 y3 y4 y5 y6 y7 y8 y9 y10 y11 y12
   unfold ir_one.l3
   repeat' first
   | (with_reducible exact ih0 _ _ _ _ _ _ _ _ _ _ _ _)
   | (with_reducible exact ih1 _ _ _ _ _ _ _ _ _ _ _ _ _ _ _)
   | (with_reducible exact ih2 _ _ _ _ _ _ _ _ _ _ _ _ _ _ _)
   | (with_reducible exact ih3 _ _ _ _ _ _ _ _ _ _ _ _ _ _)
   | (with_reducible exact ih4 _ _ _ _ _ _ _ _ _ _ _ _ _)
   | (with_reducible exact ih5 _ _ _ _ _ _ _)
   | (with_reducible exact LeO.refl _)
   | (with_reducible exact LeO.none _)
   | (with_reducible refine LeO.ite ?_ ?_)
   | (with_reducible refine LeO.bind ?_ (fun _ => ?_))
   | exact ih0 _ _ _ _ _ _ _ _ _ _ _ _
   | exact ih1 _ _ _ _ _ _ _ _ _ _ _ _ _ _ _
   | exact ih2 _ _ _ _ _ _ _ _ _ _ _ _ _ _ _
   | exact ih3 _ _ _ _ _ _ _ _ _ _ _ _ _ _
   | exact ih4 _ _ _ _ _ _ _ _ _ _ _ _ _
   | exact ih5 _ _ _ _ _ _ _
   | exact LeO.none _
   | refine LeO.ite ?_ ?_
   | refine LeO.bind ?_ (fun _ => ?_)
  ·intro y0 y1 y2 y3 y4 y5 y6
   unfold ir_one.j5
   repeat' first
   | (with_reducible exact ih0 _ _ _ _ _ _ _ _ _ _ _ _)
   | (with_reducible exact ih1 _ _ _ _ _ _ _ _ _ _ _ _ _ _ _)
   | (with_reducible exact ih2 _ _ _ _ _ _ _ _ _ _ _ _ _ _ _)
   | (with_reducible exact ih3 _ _ _ _ _ _ _ _ _ _ _ _ _ _)
   | (with_reducible exact ih4 _ _ _ _ _ _ _ _ _ _ _ _ _)
   | (with_reducible exact ih5 _ _ _ _ _ _ _)
   | (with_reducible exact LeO.refl _)
   | (with_reducible exact LeO.none _)
   | (with_reducible refine LeO.ite ?_ ?_)
   | (with_reducible refine LeO.bind ?_ (fun _ => ?_))
   | exact ih0 _ _ _ _ _ _ _ _ _ _ _ _
   | exact ih1 _ _ _ _ _ _ _ _ _ _ _ _ _ _ _
   | exact ih2 _ _ _ _ _ _ _ _ _ _ _ _ _ _ _
   | exact ih3 _ _ _ _ _ _ _ _ _ _ _ _ _ _
   | exact ih4 _ _ _ _ _ _ _ _ _ _ _ _ _
   | exact ih5 _ _ _ _ _ _ _
   | exact LeO.none _
   | refine LeO.ite ?_ ?_
   | refine LeO.bind ?_ (fun _ => ?_)
theorem ir_one.mono : ∀ a0 a1 a2 a3 a4 a5 a6 a7 a8 a9 a10 k, LeO (ir_one.f k a0 a1 a2 a3 a4 a5 a6 a7 a8 a9 a10) (ir_one.f (k + 1) a0 a1 a2 a3 a4 a5 a6 a7 a8 a9 a10) := by
 intro a0 a1 a2 a3 a4 a5 a6 a7 a8 a9 a10 k
 obtain ⟨ih0, ih1, ih2, ih3, ih4, ih5⟩ := ir_one.mono_l k
 unfold ir_one.f
 repeat' first
   | (with_reducible exact ih0 _ _ _ _ _ _ _ _ _ _ _ _)
   | (with_reducible exact ih1 _ _ _ _ _ _ _ _ _ _ _ _ _ _ _)
   | (with_reducible exact ih2 _ _ _ _ _ _ _ _ _ _ _ _ _ _ _)
   | (with_reducible exact ih3 _ _ _ _ _ _ _ _ _ _ _ _ _ _)
   | (with_reducible exact ih4 _ _ _ _ _ _ _ _ _ _ _ _ _)
   | (with_reducible exact ih5 _ _ _ _ _ _ _)
   | (with_reducible exact LeO.refl _)
   | (with_reducible exact LeO.none _)
   | (with_reducible refine LeO.ite ?_ ?_)
   | (with_reducible refine LeO.bind ?_ (fun _ => ?_))
   | exact ih0 _ _ _ _ _ _ _ _ _ _ _ _
   | exact ih1 _ _ _ _ _ _ _ _ _ _ _ _ _ _ _
   | exact ih2 _ _ _ _ _ _ _ _ _ _ _ _ _ _ _
   | exact ih3 _ _ _ _ _ _ _ _ _ _ _ _ _ _
   | exact ih4 _ _ _ _ _ _ _ _ _ _ _ _ _
   | exact ih5 _ _ _ _ _ _ _
   | exact LeO.none _
   | refine LeO.ite ?_ ?_
   | refine LeO.bind ?_ (fun _ => ?_)
set_option maxHeartbeats 8000000 in
set_option maxRecDepth 100000 in
theorem ir_one.calls (k : Nat) (a0_0 : ByteArray) (a0_1 : Int) (a0_2 : Int) (A0_3 : Option Addr) (c0_3 : Nat) (l0_3 : List (List (SIns))) (a1_0 : Int) (a1_1 : Int) (a1_2 : Int) (a1_3 : Int) (a1_4 : ByteArray) (A1_5 : Option Addr) (c1_5 : Nat) (l1_5 : List Int) (a2 : Bool) (r : Int) (w : World) (hL : LaidW w) (hr0_3 : Kd.C (Kd.slice 24 kIns) w A0_3 l0_3.length l0_3) (hc0_3 : l0_3.length ≤ c0_3) (hr1_5 : Kd.C (Kd.int .i64) w A1_5 l1_5.length l1_5) (hc1_5 : l1_5.length ≤ c1_5) (h : ir_one.f k a0_0 a0_1 a0_2 l0_3 a1_0 a1_1 a1_2 a1_3 a1_4 l1_5 a2 = some r) :
  Calls Tryd.prog 33 #[.agg #[.string a0_0, .int .i64 a0_1, .int .i64 a0_2, .slice A0_3 l0_3.length c0_3], .agg #[.int .i64 a1_0, .int .i64 a1_1, .int .i64 a1_2, .int .i64 a1_3, .string a1_4, .slice A1_5 l1_5.length c1_5], .bool a2] w fun e w' => e = .returned (.int .i64 r) ∧ Below w.heap.size w w' := by
 have hu34 := Tryd.underlying34
 have hu24 := Tryd.underlying24
 have HR0_3 := Aside0.mk hr0_3
 have HC0_3 := Aside0.mk hc0_3
 clear hr0_3 hc0_3
 have HR1_5 := Aside0.mk hr1_5
 have HC1_5 := Aside0.mk hc1_5
 clear hr1_5 hc1_5
 have HB := Aside0.mk (Below.refl w.heap.size w)
 have HLd := Aside0.mk hL
 clear hL
 have H : ((ir_shape.f a1_0).bind fun t241 => (if t241.toList = ([] : List UInt8) then (ir_one.j0 k t241 true a0_0 a0_1 a0_2 l0_3 a1_0 a1_1 a1_2 a1_3 a1_4 l1_5) else ((ir_Last.f a1_0).bind fun t242 => (if (t242 != a2) = true then (ir_one.j0 k t241 true a0_0 a0_1 a0_2 l0_3 a1_0 a1_1 a1_2 a1_3 a1_4 l1_5) else (if a1_0 = 11 then (ir_one.j0 k t241 false a0_0 a0_1 a0_2 l0_3 a1_0 a1_1 a1_2 a1_3 a1_4 l1_5) else (if a1_4.toList = ([] : List UInt8) then (ir_one.j0 k t241 (decide ((l1_5.length : Int) > 0)) a0_0 a0_1 a0_2 l0_3 a1_0 a1_1 a1_2 a1_3 a1_4 l1_5) else (ir_one.j0 k t241 true a0_0 a0_1 a0_2 l0_3 a1_0 a1_1 a1_2 a1_3 a1_4 l1_5))))))) = some r := h
 clear h
 replace H := Option.bind_eq_some_iff.mp H
 obtain ⟨t241, A40, H⟩ := H
 replace H : (if t241.toList = ([] : List UInt8) then (ir_one.j0 k t241 true a0_0 a0_1 a0_2 l0_3 a1_0 a1_1 a1_2 a1_3 a1_4 l1_5) else ((ir_Last.f a1_0).bind fun t242 => (if (t242 != a2) = true then (ir_one.j0 k t241 true a0_0 a0_1 a0_2 l0_3 a1_0 a1_1 a1_2 a1_3 a1_4 l1_5) else (if a1_0 = 11 then (ir_one.j0 k t241 false a0_0 a0_1 a0_2 l0_3 a1_0 a1_1 a1_2 a1_3 a1_4 l1_5) else (if a1_4.toList = ([] : List UInt8) then (ir_one.j0 k t241 (decide ((l1_5.length : Int) > 0)) a0_0 a0_1 a0_2 l0_3 a1_0 a1_1 a1_2 a1_3 a1_4 l1_5) else (ir_one.j0 k t241 true a0_0 a0_1 a0_2 l0_3 a1_0 a1_1 a1_2 a1_3 a1_4 l1_5)))))) = some r := H
 have A4 := Aside0.mk A40
 clear A40
 have HC5 := Aside0.mk H
 clear H
 go_enter Tryd.func33, Tryd.ntmps33
 go_upto_region 2 with (first | ((with_reducible refine gate_dst (N := 3) rfl ?_); (try (refine gate_guard (by rfl) ?_; dsimp only)); refine box_event ?hg (N := 3) ?hd (cs := #[.string a0_0, .int .i64 a0_1, .int .i64 a0_2, .slice A0_3 l0_3.length c0_3]) (t := 34) ?hr ?_; (case hd => rfl); (case hg => rfl); (case hr => first | (go_simp; done) | (go_simp; rfl)); intro gb239 hg w6 hbox hb; have n0_ := Aside0.mk (below_step (by repeat (first | (with_reducible first | exact HB.out | apply below_alloc | apply pw_below_drewN | apply below_drew1) | exact HB.out)) hb); have n1_ := Aside0.mk (hbox); have n2_ := Aside0.mk ((by rw [hg]; exact (below_size (by repeat (first | (with_reducible first | exact HB.out | apply below_alloc | apply pw_below_drewN | apply below_drew1) | exact HB.out))) : w.heap.size ≤ gb239)); have n3_ := Aside0.mk ((by rw [hg]; exact (below_size (by repeat (first | (with_reducible first | exact HB.out | apply below_alloc | apply pw_below_drewN | apply below_drew1) | exact HB.out))) : w.heap.size ≤ gb239)); clear HB; have HB := n0_; have BK239 := n1_; have GW239 := n2_; have GE239 := n3_; clear n0_ n1_ n2_ n3_; clear hb hbox hg) | ((with_reducible refine gate_dst (N := 4) rfl ?_); (try (refine gate_guard (by rfl) ?_; dsimp only)); refine box_event ?hg (N := 4) ?hd (cs := #[.int .i64 a1_0, .int .i64 a1_1, .int .i64 a1_2, .int .i64 a1_3, .string a1_4, .slice A1_5 l1_5.length c1_5]) (t := 24) ?hr ?_; (case hd => rfl); (case hg => rfl); (case hr => first | (go_simp; done) | (go_simp; rfl)); intro gb240 hg w7 hbox hb; have n0_ := Aside0.mk (blk_below (g := gb239) (o := .cells #[.string a0_0, .int .i64 a0_1, .int .i64 a0_2, .slice A0_3 l0_3.length c0_3] 34 (0, 0)) (by (with_reducible repeat (first | refine blk_drewN ?_ _ | refine blk_drew ?_ | refine blk_alloc ?_ _)); exact BK239.out) hb); have n1_ := Aside0.mk (below_step (by repeat (first | (with_reducible first | exact HB.out | apply below_alloc | apply pw_below_drewN | apply below_drew1 | refine below_set ?_ GE239.out) | exact HB.out)) hb); have n2_ := Aside0.mk (hbox); have n3_ := Aside0.mk ((by rw [hg]; exact (below_size (by repeat (first | (with_reducible first | exact HB.out | apply below_alloc | apply pw_below_drewN | apply below_drew1 | refine below_set ?_ GE239.out) | exact HB.out))) : w.heap.size ≤ gb240)); have n4_ := Aside0.mk ((by rw [hg]; exact (below_size (by repeat (first | (with_reducible first | exact HB.out | apply below_alloc | apply pw_below_drewN | apply below_drew1 | refine below_set ?_ GE239.out) | exact HB.out))) : w.heap.size ≤ gb240)); have n5_ := Aside0.mk ((by rw [hg]; exact Nat.ne_of_lt (blk_lt (g := gb239) (o := .cells #[.string a0_0, .int .i64 a0_1, .int .i64 a0_2, .slice A0_3 l0_3.length c0_3] 34 (0, 0)) (by (with_reducible repeat (first | refine blk_drewN ?_ _ | refine blk_drew ?_ | refine blk_alloc ?_ _)); exact BK239.out)) : gb239 ≠ gb240)); have n6_ := Aside0.mk ((by rw [hg]; exact Nat.ne_of_gt (blk_lt (g := gb239) (o := .cells #[.string a0_0, .int .i64 a0_1, .int .i64 a0_2, .slice A0_3 l0_3.length c0_3] 34 (0, 0)) (by (with_reducible repeat (first | refine blk_drewN ?_ _ | refine blk_drew ?_ | refine blk_alloc ?_ _)); exact BK239.out)) : gb240 ≠ gb239)); clear BK239; clear HB; have BK239 := n0_; have HB := n1_; have BK240 := n2_; have GW240 := n3_; have GE240 := n4_; have NB239_240 := n5_; have NB240_239 := n6_; clear n0_ n1_ n2_ n3_ n4_ n5_ n6_; clear hb hbox hg; have hnb8 := NB240_239.out; have hnc8 := NB239_240.out; have hcz9_0 : w7.cell? ⟨gb240, 0, none⟩ = some (.int .i64 a1_0) := (blk_cell BK240.out 0).trans rfl; have hcz9_1 : w7.cell? ⟨gb240, 1, none⟩ = some (.int .i64 a1_1) := (blk_cell BK240.out 1).trans rfl; have hcz9_2 : w7.cell? ⟨gb240, 2, none⟩ = some (.int .i64 a1_2) := (blk_cell BK240.out 2).trans rfl; have hcz9_3 : w7.cell? ⟨gb240, 3, none⟩ = some (.int .i64 a1_3) := (blk_cell BK240.out 3).trans rfl; have hcz9_4 : w7.cell? ⟨gb240, 4, none⟩ = some (.string a1_4) := (blk_cell BK240.out 4).trans rfl; have hcz9_5 : w7.cell? ⟨gb240, 5, none⟩ = some (.slice A1_5 l1_5.length c1_5) := (blk_cell BK240.out 5).trans rfl; have hfz9_0 := blk_frozen BK240.out 0; have hfz9_1 := blk_frozen BK240.out 1; have hfz9_2 := blk_frozen BK240.out 2; have hfz9_3 := blk_frozen BK240.out 3; have hfz9_4 := blk_frozen BK240.out 4; have hfz9_5 := blk_frozen BK240.out 5) | ((with_reducible refine gate_callee (f := 30) rfl ?_); refine goesL_ (some 20) rfl rfl Tryd.func30 (by kernel_rfl) rfl #[.int .i64 a1_0] rfl (by (try simp only [List.map_toArray, List.map_cons, List.map_nil]); first | done | rfl | (simp only [List.length_drop, List.length_take]; rfl)) ?_; (with_reducible refine (ir_shape.calls a1_0 t241 _ A4.out (hL := ?side99)).mono ?_); (case side99 => exact LaidW.below HLd.out (by repeat (first | (with_reducible first | exact HB.out | apply below_alloc | apply pw_below_drewN | apply below_drew1 | refine below_set ?_ GE239.out | refine below_set ?_ GE240.out) | exact HB.out))); rintro e w' ⟨rfl, ⟨nd, rfl⟩⟩; refine ⟨_, rfl, ?_⟩))
 (try simp only [Act.put, List.setIfInBounds_toArray, List.set_cons_zero, List.set_cons_succ])
 go_cut [45] (fun v45 wc => ∃ (kq : Nat) (x45_4 : Bool), v45 = .bool x45_4 ∧ Aside0 (ir_one.j0 kq t241 x45_4 a0_0 a0_1 a0_2 l0_3 a1_0 a1_1 a1_2 a1_3 a1_4 l1_5 = some r) ∧ Aside0 (kq ≤ k) ∧ Aside0 (wc.heap[gb239]? = some (.cells #[.string a0_0, .int .i64 a0_1, .int .i64 a0_2, (.slice A0_3 l0_3.length c0_3)] 34 (0, 0))) ∧ Aside0 (wc.heap[gb240]? = some (.cells #[.int .i64 a1_0, .int .i64 a1_1, .int .i64 a1_2, .int .i64 a1_3, .string a1_4, (.slice A1_5 l1_5.length c1_5)] 24 (0, 0))) ∧ Aside0 (Below w.heap.size w wc))
 case first =>
  have H := HC5.out
  clear HC5
  by_cases c10 : t241.toList = ([] : List UInt8)
  ·rw [if_pos c10] at H
   have c10b0 : (t241.toList == ([] : List UInt8)) = true := beq_iff_eq.mpr c10
   have c10b1 : (t241.toList != ([] : List UInt8)) = false := bne_eq_false_iff_eq.mpr c10
   clear c10
   (first | rw [c10b0] | (simp only [i64_w, i32_w]; rw [c10b0]) | skip)
   have H' := Aside0.mk H
   clear H
   go_wp2
   go_meet
   case rel => exact ⟨_, (true), (by first | rfl | (simp; done) | (simp [*]; done)), H', ⟨by first | omega | exact Nat.le_refl _⟩, ⟨by (with_reducible repeat (first | refine blk_drewN ?_ _ | refine blk_drew ?_ | refine blk_alloc ?_ _)); exact BK239.out⟩, ⟨by (with_reducible repeat (first | refine blk_drewN ?_ _ | refine blk_drew ?_ | refine blk_alloc ?_ _)); exact BK240.out⟩, ⟨by repeat (first | (with_reducible first | exact HB.out | apply below_alloc | apply pw_below_drewN | apply below_drew1 | refine below_set ?_ GE239.out | refine below_set ?_ GE240.out) | exact HB.out)⟩⟩
  ·rw [if_neg c10] at H
   have c10b0 : (t241.toList == ([] : List UInt8)) = false := beq_eq_false_iff_ne.mpr c10
   have c10b1 : (t241.toList != ([] : List UInt8)) = true := bne_iff_ne.mpr c10
   (first | rw [c10b0] | (simp only [i64_w, i32_w]; rw [c10b0]) | skip)
   replace H := Option.bind_eq_some_iff.mp H
   obtain ⟨t242, A110, H⟩ := H
   replace H : (if (t242 != a2) = true then (ir_one.j0 k t241 true a0_0 a0_1 a0_2 l0_3 a1_0 a1_1 a1_2 a1_3 a1_4 l1_5) else (if a1_0 = 11 then (ir_one.j0 k t241 false a0_0 a0_1 a0_2 l0_3 a1_0 a1_1 a1_2 a1_3 a1_4 l1_5) else (if a1_4.toList = ([] : List UInt8) then (ir_one.j0 k t241 (decide ((l1_5.length : Int) > 0)) a0_0 a0_1 a0_2 l0_3 a1_0 a1_1 a1_2 a1_3 a1_4 l1_5) else (ir_one.j0 k t241 true a0_0 a0_1 a0_2 l0_3 a1_0 a1_1 a1_2 a1_3 a1_4 l1_5)))) = some r := H
   have A11 := Aside0.mk A110
   clear A110
   by_cases c12 : (t242 != a2) = true
   ·rw [if_pos c12] at H
    have c12b0 : (t242 != a2) = true := c12
    (try (have c12b1 : decide (t242 = a2) = false := by simpa using c12))
    (try (have c12b2 : (t242 == a2) = false := by simpa using c12))
    (try (have c12b3 : ¬ (t242 = a2) := by simpa using c12))
    clear c12
    have H' := Aside0.mk H
    clear H
    have hnb13 := NB240_239.out
    have hnc13 := NB239_240.out
    have hcz14_0 : w7.cell? ⟨gb240, 0, none⟩ = some (.int .i64 a1_0) := (blk_cell BK240.out 0).trans rfl
    have hcz14_1 : w7.cell? ⟨gb240, 1, none⟩ = some (.int .i64 a1_1) := (blk_cell BK240.out 1).trans rfl
    have hcz14_2 : w7.cell? ⟨gb240, 2, none⟩ = some (.int .i64 a1_2) := (blk_cell BK240.out 2).trans rfl
    have hcz14_3 : w7.cell? ⟨gb240, 3, none⟩ = some (.int .i64 a1_3) := (blk_cell BK240.out 3).trans rfl
    have hcz14_4 : w7.cell? ⟨gb240, 4, none⟩ = some (.string a1_4) := (blk_cell BK240.out 4).trans rfl
    have hcz14_5 : w7.cell? ⟨gb240, 5, none⟩ = some (.slice A1_5 l1_5.length c1_5) := (blk_cell BK240.out 5).trans rfl
    have hfz14_0 := blk_frozen BK240.out 0
    have hfz14_1 := blk_frozen BK240.out 1
    have hfz14_2 := blk_frozen BK240.out 2
    have hfz14_3 := blk_frozen BK240.out 3
    have hfz14_4 := blk_frozen BK240.out 4
    have hfz14_5 := blk_frozen BK240.out 5
    go_wp2_with (first | (go_at_call 16; (with_reducible refine (ir_Last.calls a1_0 t242 _ A11.out).mono ?_); (try clear A11); rintro e w' ⟨rfl, ⟨nd, rfl⟩⟩))
    go_meet
    case rel => exact ⟨_, (true), (by first | rfl | (simp; done) | (simp [*]; done)), H', ⟨by first | omega | exact Nat.le_refl _⟩, ⟨by (with_reducible repeat (first | refine blk_drewN ?_ _ | refine blk_drew ?_ | refine blk_alloc ?_ _)); exact BK239.out⟩, ⟨by (with_reducible repeat (first | refine blk_drewN ?_ _ | refine blk_drew ?_ | refine blk_alloc ?_ _)); exact BK240.out⟩, ⟨by repeat (first | (with_reducible first | exact HB.out | apply below_alloc | apply pw_below_drewN | apply below_drew1 | refine below_set ?_ GE239.out | refine below_set ?_ GE240.out) | exact HB.out)⟩⟩
   ·rw [if_neg c12] at H
    have c12b0 : (t242 != a2) = false := by simpa using c12
    (try (have c12b1 : decide (t242 = a2) = true := by simpa using c12))
    (try (have c12b2 : (t242 == a2) = true := by simpa using c12))
    clear c12
    by_cases c15 : a1_0 = 11
    ·rw [if_pos c15] at H
     have c15b0 : (a1_0 == 11) = true := beq_iff_eq.mpr c15
     have c15b1 : (a1_0 != 11) = false := bne_eq_false_iff_eq.mpr c15
     clear c15
     have H' := Aside0.mk H
     clear H
     have hnb16 := NB240_239.out
     have hnc16 := NB239_240.out
     have hcz17_0 : w7.cell? ⟨gb240, 0, none⟩ = some (.int .i64 a1_0) := (blk_cell BK240.out 0).trans rfl
     have hcz17_1 : w7.cell? ⟨gb240, 1, none⟩ = some (.int .i64 a1_1) := (blk_cell BK240.out 1).trans rfl
     have hcz17_2 : w7.cell? ⟨gb240, 2, none⟩ = some (.int .i64 a1_2) := (blk_cell BK240.out 2).trans rfl
     have hcz17_3 : w7.cell? ⟨gb240, 3, none⟩ = some (.int .i64 a1_3) := (blk_cell BK240.out 3).trans rfl
     have hcz17_4 : w7.cell? ⟨gb240, 4, none⟩ = some (.string a1_4) := (blk_cell BK240.out 4).trans rfl
     have hcz17_5 : w7.cell? ⟨gb240, 5, none⟩ = some (.slice A1_5 l1_5.length c1_5) := (blk_cell BK240.out 5).trans rfl
     have hfz17_0 := blk_frozen BK240.out 0
     have hfz17_1 := blk_frozen BK240.out 1
     have hfz17_2 := blk_frozen BK240.out 2
     have hfz17_3 := blk_frozen BK240.out 3
     have hfz17_4 := blk_frozen BK240.out 4
     have hfz17_5 := blk_frozen BK240.out 5
     go_wp2_with (first | (go_at_call 16; (with_reducible refine (ir_Last.calls a1_0 t242 _ A11.out).mono ?_); (try clear A11); rintro e w' ⟨rfl, ⟨nd, rfl⟩⟩))
     go_meet
     case rel => exact ⟨_, (false), (by first | rfl | (simp; done) | (simp [*]; done)), H', ⟨by first | omega | exact Nat.le_refl _⟩, ⟨by (with_reducible repeat (first | refine blk_drewN ?_ _ | refine blk_drew ?_ | refine blk_alloc ?_ _)); exact BK239.out⟩, ⟨by (with_reducible repeat (first | refine blk_drewN ?_ _ | refine blk_drew ?_ | refine blk_alloc ?_ _)); exact BK240.out⟩, ⟨by repeat (first | (with_reducible first | exact HB.out | apply below_alloc | apply pw_below_drewN | apply below_drew1 | refine below_set ?_ GE239.out | refine below_set ?_ GE240.out) | exact HB.out)⟩⟩
    ·rw [if_neg c15] at H
     have c15b0 : (a1_0 == 11) = false := beq_eq_false_iff_ne.mpr c15
     have c15b1 : (a1_0 != 11) = true := bne_iff_ne.mpr c15
     by_cases c18 : a1_4.toList = ([] : List UInt8)
     ·rw [if_pos c18] at H
      have c18b0 : (a1_4.toList == ([] : List UInt8)) = true := beq_iff_eq.mpr c18
      have c18b1 : (a1_4.toList != ([] : List UInt8)) = false := bne_eq_false_iff_eq.mpr c18
      clear c18
      have H' := Aside0.mk H
      clear H
      have hnb19 := NB240_239.out
      have hnc19 := NB239_240.out
      have hcz20_0 : w7.cell? ⟨gb240, 0, none⟩ = some (.int .i64 a1_0) := (blk_cell BK240.out 0).trans rfl
      have hcz20_1 : w7.cell? ⟨gb240, 1, none⟩ = some (.int .i64 a1_1) := (blk_cell BK240.out 1).trans rfl
      have hcz20_2 : w7.cell? ⟨gb240, 2, none⟩ = some (.int .i64 a1_2) := (blk_cell BK240.out 2).trans rfl
      have hcz20_3 : w7.cell? ⟨gb240, 3, none⟩ = some (.int .i64 a1_3) := (blk_cell BK240.out 3).trans rfl
      have hcz20_4 : w7.cell? ⟨gb240, 4, none⟩ = some (.string a1_4) := (blk_cell BK240.out 4).trans rfl
      have hcz20_5 : w7.cell? ⟨gb240, 5, none⟩ = some (.slice A1_5 l1_5.length c1_5) := (blk_cell BK240.out 5).trans rfl
      have hfz20_0 := blk_frozen BK240.out 0
      have hfz20_1 := blk_frozen BK240.out 1
      have hfz20_2 := blk_frozen BK240.out 2
      have hfz20_3 := blk_frozen BK240.out 3
      have hfz20_4 := blk_frozen BK240.out 4
      have hfz20_5 := blk_frozen BK240.out 5
      go_wp2_with (first | (go_at_call 16; (with_reducible refine (ir_Last.calls a1_0 t242 _ A11.out).mono ?_); (try clear A11); rintro e w' ⟨rfl, ⟨nd, rfl⟩⟩))
      go_meet
      case rel => exact ⟨_, (decide ((l1_5.length : Int) > 0)), (by first | rfl | (simp; done) | (simp [*]; done)), H', ⟨by first | omega | exact Nat.le_refl _⟩, ⟨by (with_reducible repeat (first | refine blk_drewN ?_ _ | refine blk_drew ?_ | refine blk_alloc ?_ _)); exact BK239.out⟩, ⟨by (with_reducible repeat (first | refine blk_drewN ?_ _ | refine blk_drew ?_ | refine blk_alloc ?_ _)); exact BK240.out⟩, ⟨by repeat (first | (with_reducible first | exact HB.out | apply below_alloc | apply pw_below_drewN | apply below_drew1 | refine below_set ?_ GE239.out | refine below_set ?_ GE240.out) | exact HB.out)⟩⟩
     ·rw [if_neg c18] at H
      have c18b0 : (a1_4.toList == ([] : List UInt8)) = false := beq_eq_false_iff_ne.mpr c18
      have c18b1 : (a1_4.toList != ([] : List UInt8)) = true := bne_iff_ne.mpr c18
      have H' := Aside0.mk H
      clear H
      have hnb21 := NB240_239.out
      have hnc21 := NB239_240.out
      have hcz22_0 : w7.cell? ⟨gb240, 0, none⟩ = some (.int .i64 a1_0) := (blk_cell BK240.out 0).trans rfl
      have hcz22_1 : w7.cell? ⟨gb240, 1, none⟩ = some (.int .i64 a1_1) := (blk_cell BK240.out 1).trans rfl
      have hcz22_2 : w7.cell? ⟨gb240, 2, none⟩ = some (.int .i64 a1_2) := (blk_cell BK240.out 2).trans rfl
      have hcz22_3 : w7.cell? ⟨gb240, 3, none⟩ = some (.int .i64 a1_3) := (blk_cell BK240.out 3).trans rfl
      have hcz22_4 : w7.cell? ⟨gb240, 4, none⟩ = some (.string a1_4) := (blk_cell BK240.out 4).trans rfl
      have hcz22_5 : w7.cell? ⟨gb240, 5, none⟩ = some (.slice A1_5 l1_5.length c1_5) := (blk_cell BK240.out 5).trans rfl
      have hfz22_0 := blk_frozen BK240.out 0
      have hfz22_1 := blk_frozen BK240.out 1
      have hfz22_2 := blk_frozen BK240.out 2
      have hfz22_3 := blk_frozen BK240.out 3
      have hfz22_4 := blk_frozen BK240.out 4
      have hfz22_5 := blk_frozen BK240.out 5
      go_wp2_with (first | (go_at_call 16; (with_reducible refine (ir_Last.calls a1_0 t242 _ A11.out).mono ?_); (try clear A11); rintro e w' ⟨rfl, ⟨nd, rfl⟩⟩))
      go_meet
      case rel => exact ⟨_, (true), (by first | rfl | (simp; done) | (simp [*]; done)), H', ⟨by first | omega | exact Nat.le_refl _⟩, ⟨by (with_reducible repeat (first | refine blk_drewN ?_ _ | refine blk_drew ?_ | refine blk_alloc ?_ _)); exact BK239.out⟩, ⟨by (with_reducible repeat (first | refine blk_drewN ?_ _ | refine blk_drew ?_ | refine blk_alloc ?_ _)); exact BK240.out⟩, ⟨by repeat (first | (with_reducible first | exact HB.out | apply below_alloc | apply pw_below_drewN | apply below_drew1 | refine below_set ?_ GE239.out | refine below_set ?_ GE240.out) | exact HB.out)⟩⟩
 case rest =>
  clear HC5
  try clear c1
  try clear c2
  try clear p2
  try clear c3
  try clear c8
  try clear c10
  try clear c10b0
  try clear c10b1
  try clear c12
  try clear c12b0
  try clear c12b1
  try clear c12b2
  try clear c13
  try clear c15
  try clear c15b0
  try clear c15b1
  try clear c16
  try clear c18
  try clear c18b0
  try clear c18b1
  try clear c19
  try clear c21
  try clear hcz14_0
  try clear hcz14_1
  try clear hcz14_2
  try clear hcz14_3
  try clear hcz14_4
  try clear hcz14_5
  try clear hcz17_0
  try clear hcz17_1
  try clear hcz17_2
  try clear hcz17_3
  try clear hcz17_4
  try clear hcz17_5
  try clear hcz20_0
  try clear hcz20_1
  try clear hcz20_2
  try clear hcz20_3
  try clear hcz20_4
  try clear hcz20_5
  try clear hcz22_0
  try clear hcz22_1
  try clear hcz22_2
  try clear hcz22_3
  try clear hcz22_4
  try clear hcz22_5
  try clear hcz9_0
  try clear hcz9_1
  try clear hcz9_2
  try clear hcz9_3
  try clear hcz9_4
  try clear hcz9_5
  try clear hfz14_0
  try clear hfz14_1
  try clear hfz14_2
  try clear hfz14_3
  try clear hfz14_4
  try clear hfz14_5
  try clear hfz17_0
  try clear hfz17_1
  try clear hfz17_2
  try clear hfz17_3
  try clear hfz17_4
  try clear hfz17_5
  try clear hfz20_0
  try clear hfz20_1
  try clear hfz20_2
  try clear hfz20_3
  try clear hfz20_4
  try clear hfz20_5
  try clear hfz22_0
  try clear hfz22_1
  try clear hfz22_2
  try clear hfz22_3
  try clear hfz22_4
  try clear hfz22_5
  try clear hfz9_0
  try clear hfz9_1
  try clear hfz9_2
  try clear hfz9_3
  try clear hfz9_4
  try clear hfz9_5
  obtain ⟨kq, x45_4, rfl, HA, HJ4, BK239, BK240, HB⟩ := hcut
  cases kq with
  | zero => exact absurd HA.out (by simp [ir_one.j0])
  | succ kj4 =>
   have H := HA.out
   clear HA
   simp only [ir_one.j0] at H
   by_cases c23 : x45_4 = true
   ·subst c23
    have H1 : (some 72) = some r := by rw [if_pos rfl] at H; exact H
    clear H
    have H := H1
    clear H1
    obtain rfl := Option.some.inj H
    go_wp2
    go_ret
    exact ⟨by first | rfl | (simp [errW_none, errW_some] <;> rfl) | (simp [*, errW_none, errW_some] <;> rfl), by repeat (first | (with_reducible first | exact HB.out | apply below_alloc | apply pw_below_drewN | apply below_drew1 | refine below_set ?_ GE239.out | refine below_set ?_ GE240.out) | exact HB.out)⟩
   ·replace c23 := Bool.eq_false_iff.mpr c23
    subst c23
    have H1 : ((some (([a1_1, a1_2, a1_3] : List Int) : List Int)).bind fun y243 => (ir_one.l0 kj4 t241 y243 y243 (y243.length : Int) 0 a0_0 a0_1 a0_2 l0_3 a1_0 a1_1 a1_2 a1_3 a1_4 l1_5)) = some r := by rw [if_neg (show ¬ (false = true) by decide)] at H; exact H
    clear H
    have H := H1
    clear H1
    obtain ⟨y243, hy243⟩ : ∃ y_ : List Int, y_ = (([a1_1, a1_2, a1_3] : List Int)) := ⟨_, rfl⟩
    replace H : (ir_one.l0 kj4 t241 y243 y243 (y243.length : Int) 0 a0_0 a0_1 a0_2 l0_3 a1_0 a1_1 a1_2 a1_3 a1_4 l1_5) = some r := by first | (rw [hy243]; with_reducible exact H) | (have H2_ := (Option.bind_some _ _).symm.trans H; rw [hy243]; with_reducible exact H2_) | (have H2_ := (Option.bind_some _ _).symm.trans H; with_reducible exact H2_) | with_reducible exact H | (rw [hy243]; exact H) | exact H
    have Ny243 := Aside0.mk hy243
    clear hy243
    have H' := Aside0.mk H
    clear H
    have hnb24 := NB240_239.out
    have hnc24 := NB239_240.out
    have hcz25_0 : wc.cell? ⟨gb240, 0, none⟩ = some (.int .i64 a1_0) := (blk_cell BK240.out 0).trans rfl
    have hcz25_1 : wc.cell? ⟨gb240, 1, none⟩ = some (.int .i64 a1_1) := (blk_cell BK240.out 1).trans rfl
    have hcz25_2 : wc.cell? ⟨gb240, 2, none⟩ = some (.int .i64 a1_2) := (blk_cell BK240.out 2).trans rfl
    have hcz25_3 : wc.cell? ⟨gb240, 3, none⟩ = some (.int .i64 a1_3) := (blk_cell BK240.out 3).trans rfl
    have hcz25_4 : wc.cell? ⟨gb240, 4, none⟩ = some (.string a1_4) := (blk_cell BK240.out 4).trans rfl
    have hcz25_5 : wc.cell? ⟨gb240, 5, none⟩ = some (.slice A1_5 l1_5.length c1_5) := (blk_cell BK240.out 5).trans rfl
    have hfz25_0 := blk_frozen BK240.out 0
    have hfz25_1 := blk_frozen BK240.out 1
    have hfz25_2 := blk_frozen BK240.out 2
    have hfz25_3 := blk_frozen BK240.out 3
    have hfz25_4 := blk_frozen BK240.out 4
    have hfz25_5 := blk_frozen BK240.out 5
    go_wp2_with (first | ((with_reducible refine gate_dst (N := 52) rfl ?_); (try (refine gate_guard (by rfl) ?_; dsimp only)); refine Kd.R_lit (Kd.int .i64) _ 3 ?hg (N := 52) ?hd (xs := ([a1_1, a1_2, a1_3] : List Int)) (inner := [.int .i64 a1_1, .int .i64 a1_2, .int .i64 a1_3]) (ok := fun _ => True) (okp := fun _ => True) ?hr ?hp (fun _ hk => hk) trivial (Below.refl _ _) (Nat.le_refl _) (by simp) ?_; (case hd => rfl); (case hg => rfl); (case hr => first | (go_simp; done) | (go_simp; rfl)); (case hp => exact (Reps.one (show Kd.M (Kd.int .i64) _ _ _ a1_1 [.int .i64 a1_1] from rfl) (Reps.one (show Kd.M (Kd.int .i64) _ _ _ a1_2 [.int .i64 a1_2] from rfl) (Reps.one (show Kd.M (Kd.int .i64) _ _ _ a1_3 [.int .i64 a1_3] from rfl) (Reps.none _ _))))); intro v244 w26 ho27 hb hg_ hnew_; clear hg_ hnew_; (first | rw [← Ny243.out] at ho27 | (simp only [Int.reduceToNat] at ho27; rw [← Ny243.out] at ho27)); have n0_ := Aside0.mk (Kd.R_lower ho27 (below_size (by repeat (first | (with_reducible first | exact HB.out | apply below_alloc | apply pw_below_drewN | apply below_drew1 | refine below_set ?_ GE239.out | refine below_set ?_ GE240.out) | exact HB.out)))); have n1_ := Aside0.mk (blk_below (g := gb239) (o := .cells #[.string a0_0, .int .i64 a0_1, .int .i64 a0_2, .slice A0_3 l0_3.length c0_3] 34 (0, 0)) (by (with_reducible repeat (first | refine blk_drewN ?_ _ | refine blk_drew ?_ | refine blk_alloc ?_ _)); exact BK239.out) hb); have n2_ := Aside0.mk (blk_below (g := gb240) (o := .cells #[.int .i64 a1_0, .int .i64 a1_1, .int .i64 a1_2, .int .i64 a1_3, .string a1_4, .slice A1_5 l1_5.length c1_5] 24 (0, 0)) (by (with_reducible repeat (first | refine blk_drewN ?_ _ | refine blk_drew ?_ | refine blk_alloc ?_ _)); exact BK240.out) hb); have n3_ := Aside0.mk (below_step (by repeat (first | (with_reducible first | exact HB.out | apply below_alloc | apply pw_below_drewN | apply below_drew1 | refine below_set ?_ GE239.out | refine below_set ?_ GE240.out) | exact HB.out)) hb); clear BK239; clear BK240; clear HB; have HO245 := n0_; have BK239 := n1_; have BK240 := n2_; have HB := n3_; clear n0_ n1_ n2_ n3_; clear hb ho27; obtain ⟨Ao28, co28, eo28⟩ := Kd.R_slice HO245.out; subst eo28))
    go_loopg [55] kj4 (fun kq v55 w' => ∃ (x55_2 : Int), v55 = .int .i64 x55_2 ∧ Aside0 (ir_one.l0 kq t241 y243 y243 (y243.length : Int) x55_2 a0_0 a0_1 a0_2 l0_3 a1_0 a1_1 a1_2 a1_3 a1_4 l1_5 = some r) ∧ Aside0 (kq ≤ kj4) ∧ Aside0 (Kd.R (Kd.int .i64) 3 w' w.heap.size (fun _ => True) (.slice Ao28 y243.length co28) y243) ∧ Aside0 (Kd.R (Kd.int .i64) 3 w' w.heap.size (fun _ => True) (.slice Ao28 y243.length co28) y243) ∧ Aside0 (w'.heap[gb239]? = some (.cells #[.string a0_0, .int .i64 a0_1, .int .i64 a0_2, (.slice A0_3 l0_3.length c0_3)] 34 (0, 0))) ∧ Aside0 (w'.heap[gb240]? = some (.cells #[.int .i64 a1_0, .int .i64 a1_1, .int .i64 a1_2, .int .i64 a1_3, .string a1_4, (.slice A1_5 l1_5.length c1_5)] 24 (0, 0))) ∧ Aside0 (Below w.heap.size w w'))
    case atStart => exact ⟨(0), (by first | rfl | (simp; done) | (simp [*]; done)), H', ⟨Nat.le_refl _⟩, ⟨by (with_reducible repeat (first | apply Kd.R_alloc | apply Kd.R_drewN | apply Kd.R_drew)); exact HO245.out⟩, ⟨by (with_reducible repeat (first | apply Kd.R_alloc | apply Kd.R_drewN | apply Kd.R_drew)); exact HO245.out⟩, ⟨by (with_reducible repeat (first | refine blk_drewN ?_ _ | refine blk_drew ?_ | refine blk_alloc ?_ _)); exact BK239.out⟩, ⟨by (with_reducible repeat (first | refine blk_drewN ?_ _ | refine blk_drew ?_ | refine blk_alloc ?_ _)); exact BK240.out⟩, ⟨by repeat (first | (with_reducible first | exact HB.out | apply below_alloc | apply pw_below_drewN | apply below_drew1 | refine below_set ?_ GE239.out | refine below_set ?_ GE240.out) | exact HB.out)⟩⟩
    case round =>
     clear H'
     try clear c1
     try clear c2
     try clear p2
     try clear c3
     try clear c8
     try clear c10
     try clear c10b0
     try clear c10b1
     try clear c12
     try clear c12b0
     try clear c12b1
     try clear c12b2
     try clear c13
     try clear c15
     try clear c15b0
     try clear c15b1
     try clear c16
     try clear c18
     try clear c18b0
     try clear c18b1
     try clear c19
     try clear c21
     try clear c23
     try clear c24
     try clear hcz14_0
     try clear hcz14_1
     try clear hcz14_2
     try clear hcz14_3
     try clear hcz14_4
     try clear hcz14_5
     try clear hcz17_0
     try clear hcz17_1
     try clear hcz17_2
     try clear hcz17_3
     try clear hcz17_4
     try clear hcz17_5
     try clear hcz20_0
     try clear hcz20_1
     try clear hcz20_2
     try clear hcz20_3
     try clear hcz20_4
     try clear hcz20_5
     try clear hcz22_0
     try clear hcz22_1
     try clear hcz22_2
     try clear hcz22_3
     try clear hcz22_4
     try clear hcz22_5
     try clear hcz25_0
     try clear hcz25_1
     try clear hcz25_2
     try clear hcz25_3
     try clear hcz25_4
     try clear hcz25_5
     try clear hcz9_0
     try clear hcz9_1
     try clear hcz9_2
     try clear hcz9_3
     try clear hcz9_4
     try clear hcz9_5
     try clear hfz14_0
     try clear hfz14_1
     try clear hfz14_2
     try clear hfz14_3
     try clear hfz14_4
     try clear hfz14_5
     try clear hfz17_0
     try clear hfz17_1
     try clear hfz17_2
     try clear hfz17_3
     try clear hfz17_4
     try clear hfz17_5
     try clear hfz20_0
     try clear hfz20_1
     try clear hfz20_2
     try clear hfz20_3
     try clear hfz20_4
     try clear hfz20_5
     try clear hfz22_0
     try clear hfz22_1
     try clear hfz22_2
     try clear hfz22_3
     try clear hfz22_4
     try clear hfz22_5
     try clear hfz25_0
     try clear hfz25_1
     try clear hfz25_2
     try clear hfz25_3
     try clear hfz25_4
     try clear hfz25_5
     try clear hfz9_0
     try clear hfz9_1
     try clear hfz9_2
     try clear hfz9_3
     try clear hfz9_4
     try clear hfz9_5
     try clear p2
     obtain ⟨x55_2, rfl, HA, HK2, HO_8, HO_53, BK239, BK240, HB⟩ := hrel
     cases gk with
     | zero => exact absurd HA.out (by simp [ir_one.l0])
     | succ k2 =>
      have H := HA.out
      clear HA
      simp only [ir_one.l0] at H
      by_cases c29 : x55_2 < (y243.length : Int)
      ·rw [if_pos c29] at H
       have c29b0 : decide (x55_2 < (y243.length : Int)) = true := decide_eq_true c29
       clear c29
       by_cases c30 : 0 ≤ x55_2
       ·rw [if_pos c30] at H
        have c30b0 : decide (0 ≤ x55_2) = true := decide_eq_true c30
        clear c30
        by_cases c31 : x55_2 < (y243.length : Int)
        ·rw [if_pos c31] at H
         have c31b0 : decide (x55_2 < (y243.length : Int)) = true := decide_eq_true c31
         clear c31
         by_cases c32 : x55_2 < (t241.size : Int)
         ·rw [if_pos c32] at H
          have c32b0 : decide (x55_2 < (t241.size : Int)) = true := decide_eq_true c32
          clear c32
          by_cases c34 : (bt t241 x55_2) = 32
          ·rw [if_pos c34] at H
           have c34b0 : ((bt t241 x55_2) == 32) = true := beq_iff_eq.mpr c34
           have c34b1 : ((bt t241 x55_2) != 32) = false := bne_eq_false_iff_eq.mpr c34
           clear c34
           by_cases c35 : (rd y243 x55_2) = 0
           ·rw [if_pos c35] at H
            have c35b0 : ((rd y243 x55_2) == 0) = true := beq_iff_eq.mpr c35
            have c35b1 : ((rd y243 x55_2) != 0) = false := bne_eq_false_iff_eq.mpr c35
            clear c35
            have H' := Aside0.mk H
            clear H
            have p246 : 0 ≤ (x55_2 : Int) := of_decide_eq_true (by first | (with_reducible assumption) | assumption)
            have q246 : x55_2 < (y243.length : Int) := of_decide_eq_true (by first | (with_reducible assumption) | assumption)
            obtain ⟨ad246, e246, hx246_0⟩ := Kd.at_int (Kd.R_reads' HO_53.out).2.2 x55_2 p246 q246
            cases e246
            replace p246 := eq_true p246
            replace q246 := eq_true q246
            have p33 : 0 ≤ (x55_2 : Int) := of_decide_eq_true (by first | (with_reducible assumption) | assumption)
            have q33 : x55_2 < (t241.size : Int) := of_decide_eq_true (by first | (with_reducible assumption) | assumption)
            have hx33 := bt_at t241 x55_2
            replace p33 := eq_true p33
            replace q33 := eq_true q33
            go_wp2
            go_roundg k2
            case measure => have := HJ4.out; have := HK2.out; omega
            case rel => exact ⟨(wrap64 (x55_2 + 1)), (by first | rfl | (simp; done) | (simp [*]; done)), H', ⟨by have := HJ4.out; have := HK2.out; omega⟩, ⟨by (with_reducible repeat (first | apply Kd.R_alloc | apply Kd.R_drewN | apply Kd.R_drew)); exact HO_8.out⟩, ⟨by (with_reducible repeat (first | apply Kd.R_alloc | apply Kd.R_drewN | apply Kd.R_drew)); exact HO_53.out⟩, ⟨by (with_reducible repeat (first | refine blk_drewN ?_ _ | refine blk_drew ?_ | refine blk_alloc ?_ _)); exact BK239.out⟩, ⟨by (with_reducible repeat (first | refine blk_drewN ?_ _ | refine blk_drew ?_ | refine blk_alloc ?_ _)); exact BK240.out⟩, ⟨by repeat (first | (with_reducible first | exact HB.out | apply below_alloc | apply pw_below_drewN | apply below_drew1 | refine below_set ?_ GE239.out | refine below_set ?_ GE240.out) | exact HB.out)⟩⟩
           ·rw [if_neg c35] at H
            have c35b0 : ((rd y243 x55_2) == 0) = false := beq_eq_false_iff_ne.mpr c35
            have c35b1 : ((rd y243 x55_2) != 0) = true := bne_iff_ne.mpr c35
            obtain rfl := Option.some.inj H
            have p246 : 0 ≤ (x55_2 : Int) := of_decide_eq_true (by first | (with_reducible assumption) | assumption)
            have q246 : x55_2 < (y243.length : Int) := of_decide_eq_true (by first | (with_reducible assumption) | assumption)
            obtain ⟨ad246, e246, hx246_0⟩ := Kd.at_int (Kd.R_reads' HO_53.out).2.2 x55_2 p246 q246
            cases e246
            replace p246 := eq_true p246
            replace q246 := eq_true q246
            have p33 : 0 ≤ (x55_2 : Int) := of_decide_eq_true (by first | (with_reducible assumption) | assumption)
            have q33 : x55_2 < (t241.size : Int) := of_decide_eq_true (by first | (with_reducible assumption) | assumption)
            have hx33 := bt_at t241 x55_2
            replace p33 := eq_true p33
            replace q33 := eq_true q33
            go_wp2
            go_ret
            exact ⟨by first | rfl | (simp [errW_none, errW_some] <;> rfl) | (simp [*, errW_none, errW_some] <;> rfl), by repeat (first | (with_reducible first | exact HB.out | apply below_alloc | apply pw_below_drewN | apply below_drew1 | refine below_set ?_ GE239.out | refine below_set ?_ GE240.out) | exact HB.out)⟩
          ·rw [if_neg c34] at H
           have c34b0 : ((bt t241 x55_2) == 32) = false := beq_eq_false_iff_ne.mpr c34
           have c34b1 : ((bt t241 x55_2) != 32) = true := bne_iff_ne.mpr c34
           have H' := Aside0.mk H
           clear H
           have p246 : 0 ≤ (x55_2 : Int) := of_decide_eq_true (by first | (with_reducible assumption) | assumption)
           have q246 : x55_2 < (y243.length : Int) := of_decide_eq_true (by first | (with_reducible assumption) | assumption)
           obtain ⟨ad246, e246, hx246_0⟩ := Kd.at_int (Kd.R_reads' HO_53.out).2.2 x55_2 p246 q246
           cases e246
           replace p246 := eq_true p246
           replace q246 := eq_true q246
           have p33 : 0 ≤ (x55_2 : Int) := of_decide_eq_true (by first | (with_reducible assumption) | assumption)
           have q33 : x55_2 < (t241.size : Int) := of_decide_eq_true (by first | (with_reducible assumption) | assumption)
           have hx33 := bt_at t241 x55_2
           replace p33 := eq_true p33
           replace q33 := eq_true q33
           go_wp2
           go_roundg k2
           case measure => have := HJ4.out; have := HK2.out; omega
           case rel => exact ⟨(wrap64 (x55_2 + 1)), (by first | rfl | (simp; done) | (simp [*]; done)), H', ⟨by have := HJ4.out; have := HK2.out; omega⟩, ⟨by (with_reducible repeat (first | apply Kd.R_alloc | apply Kd.R_drewN | apply Kd.R_drew)); exact HO_8.out⟩, ⟨by (with_reducible repeat (first | apply Kd.R_alloc | apply Kd.R_drewN | apply Kd.R_drew)); exact HO_53.out⟩, ⟨by (with_reducible repeat (first | refine blk_drewN ?_ _ | refine blk_drew ?_ | refine blk_alloc ?_ _)); exact BK239.out⟩, ⟨by (with_reducible repeat (first | refine blk_drewN ?_ _ | refine blk_drew ?_ | refine blk_alloc ?_ _)); exact BK240.out⟩, ⟨by repeat (first | (with_reducible first | exact HB.out | apply below_alloc | apply pw_below_drewN | apply below_drew1 | refine below_set ?_ GE239.out | refine below_set ?_ GE240.out) | exact HB.out)⟩⟩
         ·rw [if_neg c32] at H
          exact absurd H (by simp)
        ·rw [if_neg c31] at H
         exact absurd H (by simp)
       ·rw [if_neg c30] at H
        exact absurd H (by simp)
      ·rw [if_neg c29] at H
       have c29b0 : decide (x55_2 < (y243.length : Int)) = false := decide_eq_false c29
       clear c29
       have H' := Aside0.mk H
       clear H
       go_wp2
       go_loopg [72] k2 (fun kq v72 w' => ∃ (x72_3 : Int), v72 = .int .i64 x72_3 ∧ Aside0 (ir_one.l1 kq t241 y243 y243 (y243.length : Int) x72_3 a0_0 a0_1 a0_2 l0_3 a1_0 a1_1 a1_2 a1_3 a1_4 l1_5 = some r) ∧ Aside0 (kq ≤ k2) ∧ Aside0 (Kd.R (Kd.int .i64) 3 w' w.heap.size (fun _ => True) (.slice Ao28 y243.length co28) y243) ∧ Aside0 (Kd.R (Kd.int .i64) 3 w' w.heap.size (fun _ => True) (.slice Ao28 y243.length co28) y243) ∧ Aside0 (w'.heap[gb239]? = some (.cells #[.string a0_0, .int .i64 a0_1, .int .i64 a0_2, (.slice A0_3 l0_3.length c0_3)] 34 (0, 0))) ∧ Aside0 (w'.heap[gb240]? = some (.cells #[.int .i64 a1_0, .int .i64 a1_1, .int .i64 a1_2, .int .i64 a1_3, .string a1_4, (.slice A1_5 l1_5.length c1_5)] 24 (0, 0))) ∧ Aside0 (Below w.heap.size w w'))
       case atStart => exact ⟨(0), (by first | rfl | (simp; done) | (simp [*]; done)), H', ⟨Nat.le_refl _⟩, ⟨by (with_reducible repeat (first | apply Kd.R_alloc | apply Kd.R_drewN | apply Kd.R_drew)); exact HO_8.out⟩, ⟨by (with_reducible repeat (first | apply Kd.R_alloc | apply Kd.R_drewN | apply Kd.R_drew)); exact HO_8.out⟩, ⟨by (with_reducible repeat (first | refine blk_drewN ?_ _ | refine blk_drew ?_ | refine blk_alloc ?_ _)); exact BK239.out⟩, ⟨by (with_reducible repeat (first | refine blk_drewN ?_ _ | refine blk_drew ?_ | refine blk_alloc ?_ _)); exact BK240.out⟩, ⟨by repeat (first | (with_reducible first | exact HB.out | apply below_alloc | apply pw_below_drewN | apply below_drew1 | refine below_set ?_ GE239.out | refine below_set ?_ GE240.out) | exact HB.out)⟩⟩
       case round =>
        clear H'
        try clear c1
        try clear c2
        try clear p2
        try clear q2
        try clear hx2
        try clear c3
        try clear p3
        try clear q3
        try clear hx3
        try clear p6
        try clear c8
        try clear c10
        try clear c10b0
        try clear c10b1
        try clear c12
        try clear c12b0
        try clear c12b1
        try clear c12b2
        try clear c13
        try clear c15
        try clear c15b0
        try clear c15b1
        try clear c16
        try clear c18
        try clear c18b0
        try clear c18b1
        try clear c19
        try clear c21
        try clear c23
        try clear c24
        try clear p24
        try clear q24
        try clear hx24
        try clear c29
        try clear c29b0
        try clear c30
        try clear c30b0
        try clear c31
        try clear c31b0
        try clear c32
        try clear c32b0
        try clear c33
        try clear p33
        try clear q33
        try clear hx33
        try clear c34
        try clear c34b0
        try clear c34b1
        try clear c35
        try clear c35b0
        try clear c35b1
        try clear hcz14_0
        try clear hcz14_1
        try clear hcz14_2
        try clear hcz14_3
        try clear hcz14_4
        try clear hcz14_5
        try clear hcz17_0
        try clear hcz17_1
        try clear hcz17_2
        try clear hcz17_3
        try clear hcz17_4
        try clear hcz17_5
        try clear hcz20_0
        try clear hcz20_1
        try clear hcz20_2
        try clear hcz20_3
        try clear hcz20_4
        try clear hcz20_5
        try clear hcz22_0
        try clear hcz22_1
        try clear hcz22_2
        try clear hcz22_3
        try clear hcz22_4
        try clear hcz22_5
        try clear hcz25_0
        try clear hcz25_1
        try clear hcz25_2
        try clear hcz25_3
        try clear hcz25_4
        try clear hcz25_5
        try clear hcz9_0
        try clear hcz9_1
        try clear hcz9_2
        try clear hcz9_3
        try clear hcz9_4
        try clear hcz9_5
        try clear hfz14_0
        try clear hfz14_1
        try clear hfz14_2
        try clear hfz14_3
        try clear hfz14_4
        try clear hfz14_5
        try clear hfz17_0
        try clear hfz17_1
        try clear hfz17_2
        try clear hfz17_3
        try clear hfz17_4
        try clear hfz17_5
        try clear hfz20_0
        try clear hfz20_1
        try clear hfz20_2
        try clear hfz20_3
        try clear hfz20_4
        try clear hfz20_5
        try clear hfz22_0
        try clear hfz22_1
        try clear hfz22_2
        try clear hfz22_3
        try clear hfz22_4
        try clear hfz22_5
        try clear hfz25_0
        try clear hfz25_1
        try clear hfz25_2
        try clear hfz25_3
        try clear hfz25_4
        try clear hfz25_5
        try clear hfz9_0
        try clear hfz9_1
        try clear hfz9_2
        try clear hfz9_3
        try clear hfz9_4
        try clear hfz9_5
        try clear hx246_0
        try clear p2
        try clear p246
        try clear p33
        try clear q246
        try clear q33
        obtain ⟨x72_3, rfl, HA, HK3, HO_8, HO_70, BK239, BK240, HB⟩ := hrel
        cases gk with
        | zero => exact absurd HA.out (by simp [ir_one.l1])
        | succ k3 =>
         have H := HA.out
         clear HA
         simp only [ir_one.l1] at H
         by_cases c36 : x72_3 < (y243.length : Int)
         ·rw [if_pos c36] at H
          have c36b0 : decide (x72_3 < (y243.length : Int)) = true := decide_eq_true c36
          clear c36
          by_cases c37 : 0 ≤ x72_3
          ·rw [if_pos c37] at H
           have c37b0 : decide (0 ≤ x72_3) = true := decide_eq_true c37
           clear c37
           by_cases c38 : x72_3 < (y243.length : Int)
           ·rw [if_pos c38] at H
            have c38b0 : decide (x72_3 < (y243.length : Int)) = true := decide_eq_true c38
            clear c38
            by_cases c39 : x72_3 < (t241.size : Int)
            ·rw [if_pos c39] at H
             have c39b0 : decide (x72_3 < (t241.size : Int)) = true := decide_eq_true c39
             clear c39
             by_cases c41 : (bt t241 x72_3) = 114
             ·rw [if_pos c41] at H
              have c41b0 : ((bt t241 x72_3) == 114) = true := beq_iff_eq.mpr c41
              have c41b1 : ((bt t241 x72_3) != 114) = false := bne_eq_false_iff_eq.mpr c41
              clear c41
              replace H := Option.bind_eq_some_iff.mp H
              obtain ⟨t248, A420, H⟩ := H
              replace H : (if t248 = true then (some 73) else (ir_one.l1 k3 t241 y243 y243 (y243.length : Int) (wrap64 (x72_3 + 1)) a0_0 a0_1 a0_2 l0_3 a1_0 a1_1 a1_2 a1_3 a1_4 l1_5)) = some r := H
              have A42 := Aside0.mk A420
              clear A420
              by_cases c43 : t248 = true
              ·subst c43
               have H1 : (some 73) = some r := by rw [if_pos rfl] at H; exact H
               clear H
               have H := H1
               clear H1
               obtain rfl := Option.some.inj H
               have p247 : 0 ≤ (x72_3 : Int) := of_decide_eq_true (by first | (with_reducible assumption) | assumption)
               have q247 : x72_3 < (y243.length : Int) := of_decide_eq_true (by first | (with_reducible assumption) | assumption)
               obtain ⟨ad247, e247, hx247_0⟩ := Kd.at_int (Kd.R_reads' HO_70.out).2.2 x72_3 p247 q247
               cases e247
               replace p247 := eq_true p247
               replace q247 := eq_true q247
               have p40 : 0 ≤ (x72_3 : Int) := of_decide_eq_true (by first | (with_reducible assumption) | assumption)
               have q40 : x72_3 < (t241.size : Int) := of_decide_eq_true (by first | (with_reducible assumption) | assumption)
               have hx40 := bt_at t241 x72_3
               replace p40 := eq_true p40
               replace q40 := eq_true q40
               have hnb44 := NB239_240.out
               have hnc44 := NB240_239.out
               have hcz45_0 : wr.cell? ⟨gb239, 0, none⟩ = some (.string a0_0) := (blk_cell BK239.out 0).trans rfl
               have hcz45_1 : wr.cell? ⟨gb239, 1, none⟩ = some (.int .i64 a0_1) := (blk_cell BK239.out 1).trans rfl
               have hcz45_2 : wr.cell? ⟨gb239, 2, none⟩ = some (.int .i64 a0_2) := (blk_cell BK239.out 2).trans rfl
               have hcz45_3 : wr.cell? ⟨gb239, 3, none⟩ = some (.slice A0_3 l0_3.length c0_3) := (blk_cell BK239.out 3).trans rfl
               have hfz45_0 := blk_frozen BK239.out 0
               have hfz45_1 := blk_frozen BK239.out 1
               have hfz45_2 := blk_frozen BK239.out 2
               have hfz45_3 := blk_frozen BK239.out 3
               go_wp2_with (first | (go_at_call 43; (refine (ir_one_1.calls (rd y243 x72_3) a0_0 a0_1 a0_2 (A0_3) (c0_3) l0_3 true _ ?side1 ?side2 A42.out (hbk := ?side98) (gb_ := gb239)).mono ?_); (case side1 => repeat (first | exact (Kd.C_below HR0_3.out HB.out) | (refine Kd.C_alloc ?_ _) | (refine Kd.C_drewN ?_ _) | (refine Kd.C_drew ?_))); (case side2 => exact HC0_3.out); (case side98 => exact by (with_reducible repeat (first | refine blk_drewN ?_ _ | refine blk_drew ?_ | refine blk_alloc ?_ _)); exact BK239.out); (try clear A42); rintro e w46 ⟨rfl, hb⟩; have n0_ := Aside0.mk (Kd.R_below (by (with_reducible repeat (first | apply Kd.R_alloc | apply Kd.R_drewN | apply Kd.R_drew)); exact HO_8.out) hb); have n1_ := Aside0.mk (Kd.R_below (by (with_reducible repeat (first | apply Kd.R_alloc | apply Kd.R_drewN | apply Kd.R_drew)); exact HO_70.out) hb); have n2_ := Aside0.mk (blk_below (g := gb239) (o := .cells #[.string a0_0, .int .i64 a0_1, .int .i64 a0_2, .slice A0_3 l0_3.length c0_3] 34 (0, 0)) (by (with_reducible repeat (first | refine blk_drewN ?_ _ | refine blk_drew ?_ | refine blk_alloc ?_ _)); exact BK239.out) hb); have n3_ := Aside0.mk (blk_below (g := gb240) (o := .cells #[.int .i64 a1_0, .int .i64 a1_1, .int .i64 a1_2, .int .i64 a1_3, .string a1_4, .slice A1_5 l1_5.length c1_5] 24 (0, 0)) (by (with_reducible repeat (first | refine blk_drewN ?_ _ | refine blk_drew ?_ | refine blk_alloc ?_ _)); exact BK240.out) hb); have n4_ := Aside0.mk (below_step (by repeat (first | (with_reducible first | exact HB.out | apply below_alloc | apply pw_below_drewN | apply below_drew1 | refine below_set ?_ GE239.out | refine below_set ?_ GE240.out) | exact HB.out)) hb); clear HO_8; clear HO_70; clear BK239; clear BK240; clear HB; have HO_8 := n0_; have HO_70 := n1_; have BK239 := n2_; have BK240 := n3_; have HB := n4_; clear n0_ n1_ n2_ n3_ n4_; (try clear hb); (try clear hb2); (try clear hk); (try clear hi)))
               go_ret
               exact ⟨by first | rfl | (simp [errW_none, errW_some] <;> rfl) | (simp [*, errW_none, errW_some] <;> rfl), by repeat (first | (with_reducible first | exact HB.out | apply below_alloc | apply pw_below_drewN | apply below_drew1 | refine below_set ?_ GE239.out | refine below_set ?_ GE240.out) | exact HB.out)⟩
              ·replace c43 := Bool.eq_false_iff.mpr c43
               subst c43
               have H1 : (ir_one.l1 k3 t241 y243 y243 (y243.length : Int) (wrap64 (x72_3 + 1)) a0_0 a0_1 a0_2 l0_3 a1_0 a1_1 a1_2 a1_3 a1_4 l1_5) = some r := by rw [if_neg (show ¬ (false = true) by decide)] at H; exact H
               clear H
               have H := H1
               clear H1
               have H' := Aside0.mk H
               clear H
               have p247 : 0 ≤ (x72_3 : Int) := of_decide_eq_true (by first | (with_reducible assumption) | assumption)
               have q247 : x72_3 < (y243.length : Int) := of_decide_eq_true (by first | (with_reducible assumption) | assumption)
               obtain ⟨ad247, e247, hx247_0⟩ := Kd.at_int (Kd.R_reads' HO_70.out).2.2 x72_3 p247 q247
               cases e247
               replace p247 := eq_true p247
               replace q247 := eq_true q247
               have p40 : 0 ≤ (x72_3 : Int) := of_decide_eq_true (by first | (with_reducible assumption) | assumption)
               have q40 : x72_3 < (t241.size : Int) := of_decide_eq_true (by first | (with_reducible assumption) | assumption)
               have hx40 := bt_at t241 x72_3
               replace p40 := eq_true p40
               replace q40 := eq_true q40
               have hnb47 := NB239_240.out
               have hnc47 := NB240_239.out
               have hcz48_0 : wr.cell? ⟨gb239, 0, none⟩ = some (.string a0_0) := (blk_cell BK239.out 0).trans rfl
               have hcz48_1 : wr.cell? ⟨gb239, 1, none⟩ = some (.int .i64 a0_1) := (blk_cell BK239.out 1).trans rfl
               have hcz48_2 : wr.cell? ⟨gb239, 2, none⟩ = some (.int .i64 a0_2) := (blk_cell BK239.out 2).trans rfl
               have hcz48_3 : wr.cell? ⟨gb239, 3, none⟩ = some (.slice A0_3 l0_3.length c0_3) := (blk_cell BK239.out 3).trans rfl
               have hfz48_0 := blk_frozen BK239.out 0
               have hfz48_1 := blk_frozen BK239.out 1
               have hfz48_2 := blk_frozen BK239.out 2
               have hfz48_3 := blk_frozen BK239.out 3
               go_wp2_with (first | (go_at_call 43; (refine (ir_one_1.calls (rd y243 x72_3) a0_0 a0_1 a0_2 (A0_3) (c0_3) l0_3 false _ ?side1 ?side2 A42.out (hbk := ?side98) (gb_ := gb239)).mono ?_); (case side1 => repeat (first | exact (Kd.C_below HR0_3.out HB.out) | (refine Kd.C_alloc ?_ _) | (refine Kd.C_drewN ?_ _) | (refine Kd.C_drew ?_))); (case side2 => exact HC0_3.out); (case side98 => exact by (with_reducible repeat (first | refine blk_drewN ?_ _ | refine blk_drew ?_ | refine blk_alloc ?_ _)); exact BK239.out); (try clear A42); rintro e w49 ⟨rfl, hb⟩; have n0_ := Aside0.mk (Kd.R_below (by (with_reducible repeat (first | apply Kd.R_alloc | apply Kd.R_drewN | apply Kd.R_drew)); exact HO_8.out) hb); have n1_ := Aside0.mk (Kd.R_below (by (with_reducible repeat (first | apply Kd.R_alloc | apply Kd.R_drewN | apply Kd.R_drew)); exact HO_70.out) hb); have n2_ := Aside0.mk (blk_below (g := gb239) (o := .cells #[.string a0_0, .int .i64 a0_1, .int .i64 a0_2, .slice A0_3 l0_3.length c0_3] 34 (0, 0)) (by (with_reducible repeat (first | refine blk_drewN ?_ _ | refine blk_drew ?_ | refine blk_alloc ?_ _)); exact BK239.out) hb); have n3_ := Aside0.mk (blk_below (g := gb240) (o := .cells #[.int .i64 a1_0, .int .i64 a1_1, .int .i64 a1_2, .int .i64 a1_3, .string a1_4, .slice A1_5 l1_5.length c1_5] 24 (0, 0)) (by (with_reducible repeat (first | refine blk_drewN ?_ _ | refine blk_drew ?_ | refine blk_alloc ?_ _)); exact BK240.out) hb); have n4_ := Aside0.mk (below_step (by repeat (first | (with_reducible first | exact HB.out | apply below_alloc | apply pw_below_drewN | apply below_drew1 | refine below_set ?_ GE239.out | refine below_set ?_ GE240.out) | exact HB.out)) hb); clear HO_8; clear HO_70; clear BK239; clear BK240; clear HB; have HO_8 := n0_; have HO_70 := n1_; have BK239 := n2_; have BK240 := n3_; have HB := n4_; clear n0_ n1_ n2_ n3_ n4_; (try clear hb); (try clear hb2); (try clear hk); (try clear hi)))
               go_roundg k3
               case measure => have := HJ4.out; have := HK2.out; have := HK3.out; omega
               case rel => exact ⟨(wrap64 (x72_3 + 1)), (by first | rfl | (simp; done) | (simp [*]; done)), H', ⟨by have := HJ4.out; have := HK2.out; have := HK3.out; omega⟩, ⟨by (with_reducible repeat (first | apply Kd.R_alloc | apply Kd.R_drewN | apply Kd.R_drew)); exact HO_8.out⟩, ⟨by (with_reducible repeat (first | apply Kd.R_alloc | apply Kd.R_drewN | apply Kd.R_drew)); exact HO_70.out⟩, ⟨by (with_reducible repeat (first | refine blk_drewN ?_ _ | refine blk_drew ?_ | refine blk_alloc ?_ _)); exact BK239.out⟩, ⟨by (with_reducible repeat (first | refine blk_drewN ?_ _ | refine blk_drew ?_ | refine blk_alloc ?_ _)); exact BK240.out⟩, ⟨by repeat (first | (with_reducible first | exact HB.out | apply below_alloc | apply pw_below_drewN | apply below_drew1 | refine below_set ?_ GE239.out | refine below_set ?_ GE240.out) | exact HB.out)⟩⟩
             ·rw [if_neg c41] at H
              have c41b0 : ((bt t241 x72_3) == 114) = false := beq_eq_false_iff_ne.mpr c41
              have c41b1 : ((bt t241 x72_3) != 114) = true := bne_iff_ne.mpr c41
              have H' := Aside0.mk H
              clear H
              have p247 : 0 ≤ (x72_3 : Int) := of_decide_eq_true (by first | (with_reducible assumption) | assumption)
              have q247 : x72_3 < (y243.length : Int) := of_decide_eq_true (by first | (with_reducible assumption) | assumption)
              obtain ⟨ad247, e247, hx247_0⟩ := Kd.at_int (Kd.R_reads' HO_70.out).2.2 x72_3 p247 q247
              cases e247
              replace p247 := eq_true p247
              replace q247 := eq_true q247
              have p40 : 0 ≤ (x72_3 : Int) := of_decide_eq_true (by first | (with_reducible assumption) | assumption)
              have q40 : x72_3 < (t241.size : Int) := of_decide_eq_true (by first | (with_reducible assumption) | assumption)
              have hx40 := bt_at t241 x72_3
              replace p40 := eq_true p40
              replace q40 := eq_true q40
              go_wp2
              go_roundg k3
              case measure => have := HJ4.out; have := HK2.out; have := HK3.out; omega
              case rel => exact ⟨(wrap64 (x72_3 + 1)), (by first | rfl | (simp; done) | (simp [*]; done)), H', ⟨by have := HJ4.out; have := HK2.out; have := HK3.out; omega⟩, ⟨by (with_reducible repeat (first | apply Kd.R_alloc | apply Kd.R_drewN | apply Kd.R_drew)); exact HO_8.out⟩, ⟨by (with_reducible repeat (first | apply Kd.R_alloc | apply Kd.R_drewN | apply Kd.R_drew)); exact HO_70.out⟩, ⟨by (with_reducible repeat (first | refine blk_drewN ?_ _ | refine blk_drew ?_ | refine blk_alloc ?_ _)); exact BK239.out⟩, ⟨by (with_reducible repeat (first | refine blk_drewN ?_ _ | refine blk_drew ?_ | refine blk_alloc ?_ _)); exact BK240.out⟩, ⟨by repeat (first | (with_reducible first | exact HB.out | apply below_alloc | apply pw_below_drewN | apply below_drew1 | refine below_set ?_ GE239.out | refine below_set ?_ GE240.out) | exact HB.out)⟩⟩
            ·rw [if_neg c39] at H
             exact absurd H (by simp)
           ·rw [if_neg c38] at H
            exact absurd H (by simp)
          ·rw [if_neg c37] at H
           exact absurd H (by simp)
         ·rw [if_neg c36] at H
          have c36b0 : decide (x72_3 < (y243.length : Int)) = false := decide_eq_false c36
          clear c36
          replace H := Option.bind_eq_some_iff.mp H
          obtain ⟨t249, A500, H⟩ := H
          replace H : (if t249 = true then (some 73) else (ir_one.l2 k3 t241 y243 (y243.length : Int) 0 a0_0 a0_1 a0_2 l0_3 a1_0 a1_1 a1_2 a1_3 a1_4 l1_5)) = some r := H
          have A50 := Aside0.mk A500
          clear A500
          by_cases c51 : t249 = true
          ·subst c51
           have H1 : (some 73) = some r := by rw [if_pos rfl] at H; exact H
           clear H
           have H := H1
           clear H1
           obtain rfl := Option.some.inj H
           have hnb52 := NB240_239.out
           have hnc52 := NB239_240.out
           have hcz53_0 : wr.cell? ⟨gb240, 0, none⟩ = some (.int .i64 a1_0) := (blk_cell BK240.out 0).trans rfl
           have hcz53_1 : wr.cell? ⟨gb240, 1, none⟩ = some (.int .i64 a1_1) := (blk_cell BK240.out 1).trans rfl
           have hcz53_2 : wr.cell? ⟨gb240, 2, none⟩ = some (.int .i64 a1_2) := (blk_cell BK240.out 2).trans rfl
           have hcz53_3 : wr.cell? ⟨gb240, 3, none⟩ = some (.int .i64 a1_3) := (blk_cell BK240.out 3).trans rfl
           have hcz53_4 : wr.cell? ⟨gb240, 4, none⟩ = some (.string a1_4) := (blk_cell BK240.out 4).trans rfl
           have hcz53_5 : wr.cell? ⟨gb240, 5, none⟩ = some (.slice A1_5 l1_5.length c1_5) := (blk_cell BK240.out 5).trans rfl
           have hfz53_0 := blk_frozen BK240.out 0
           have hfz53_1 := blk_frozen BK240.out 1
           have hfz53_2 := blk_frozen BK240.out 2
           have hfz53_3 := blk_frozen BK240.out 3
           have hfz53_4 := blk_frozen BK240.out 4
           have hfz53_5 := blk_frozen BK240.out 5
           have hcz54_0 : wr.cell? ⟨gb239, 0, none⟩ = some (.string a0_0) := (blk_cell BK239.out 0).trans rfl
           have hcz54_1 : wr.cell? ⟨gb239, 1, none⟩ = some (.int .i64 a0_1) := (blk_cell BK239.out 1).trans rfl
           have hcz54_2 : wr.cell? ⟨gb239, 2, none⟩ = some (.int .i64 a0_2) := (blk_cell BK239.out 2).trans rfl
           have hcz54_3 : wr.cell? ⟨gb239, 3, none⟩ = some (.slice A0_3 l0_3.length c0_3) := (blk_cell BK239.out 3).trans rfl
           have hfz54_0 := blk_frozen BK239.out 0
           have hfz54_1 := blk_frozen BK239.out 1
           have hfz54_2 := blk_frozen BK239.out 2
           have hfz54_3 := blk_frozen BK239.out 3
           go_wp2_with (first | ((with_reducible refine gate_callee (f := 44) rfl ?_); refine goesL_ (some 90) rfl rfl Tryd.func44 (by kernel_rfl) rfl #[.slice A1_5 l1_5.length c1_5, .func (.func 43) #[] #[.pointer (some ⟨gb239, 0, none⟩)]] rfl (by (try simp only [List.map_toArray, List.map_cons, List.map_nil]); first | done | rfl | (simp only [List.length_drop, List.length_take]; rfl)) ?_; (refine (slices_ContainsFunc_int_int.calls (A1_5) (c1_5) l1_5 a0_0 a0_1 a0_2 (A0_3) (c0_3) l0_3 true _ ?side1 ?side2 ?side3 ?side4 A50.out (hbk := ?side98) (gb_ := gb239)).mono ?_); (case side1 => repeat (first | exact (Kd.C_below HR1_5.out HB.out) | (refine Kd.C_alloc ?_ _) | (refine Kd.C_drewN ?_ _) | (refine Kd.C_drew ?_))); (case side2 => exact HC1_5.out); (case side3 => repeat (first | exact (Kd.C_below HR0_3.out HB.out) | (refine Kd.C_alloc ?_ _) | (refine Kd.C_drewN ?_ _) | (refine Kd.C_drew ?_))); (case side4 => exact HC0_3.out); (case side98 => exact by (with_reducible repeat (first | refine blk_drewN ?_ _ | refine blk_drew ?_ | refine blk_alloc ?_ _)); exact BK239.out); rintro e w55 ⟨rfl, hb⟩; refine ⟨_, rfl, ?_⟩; have n0_ := Aside0.mk (Kd.R_below (by (with_reducible repeat (first | apply Kd.R_alloc | apply Kd.R_drewN | apply Kd.R_drew)); exact HO_8.out) hb); have n1_ := Aside0.mk (Kd.R_below (by (with_reducible repeat (first | apply Kd.R_alloc | apply Kd.R_drewN | apply Kd.R_drew)); exact HO_70.out) hb); have n2_ := Aside0.mk (blk_below (g := gb239) (o := .cells #[.string a0_0, .int .i64 a0_1, .int .i64 a0_2, .slice A0_3 l0_3.length c0_3] 34 (0, 0)) (by (with_reducible repeat (first | refine blk_drewN ?_ _ | refine blk_drew ?_ | refine blk_alloc ?_ _)); exact BK239.out) hb); have n3_ := Aside0.mk (blk_below (g := gb240) (o := .cells #[.int .i64 a1_0, .int .i64 a1_1, .int .i64 a1_2, .int .i64 a1_3, .string a1_4, .slice A1_5 l1_5.length c1_5] 24 (0, 0)) (by (with_reducible repeat (first | refine blk_drewN ?_ _ | refine blk_drew ?_ | refine blk_alloc ?_ _)); exact BK240.out) hb); have n4_ := Aside0.mk (below_step (by repeat (first | (with_reducible first | exact HB.out | apply below_alloc | apply pw_below_drewN | apply below_drew1 | refine below_set ?_ GE239.out | refine below_set ?_ GE240.out) | exact HB.out)) hb); clear HO_8; clear HO_70; clear BK239; clear BK240; clear HB; have HO_8 := n0_; have HO_70 := n1_; have BK239 := n2_; have BK240 := n3_; have HB := n4_; clear n0_ n1_ n2_ n3_ n4_; (try clear hb); (try clear hb2); (try clear hk); (try clear hi)))
           go_ret
           exact ⟨by first | rfl | (simp [errW_none, errW_some] <;> rfl) | (simp [*, errW_none, errW_some] <;> rfl), by repeat (first | (with_reducible first | exact HB.out | apply below_alloc | apply pw_below_drewN | apply below_drew1 | refine below_set ?_ GE239.out | refine below_set ?_ GE240.out) | exact HB.out)⟩
          ·replace c51 := Bool.eq_false_iff.mpr c51
           subst c51
           have H1 : (ir_one.l2 k3 t241 y243 (y243.length : Int) 0 a0_0 a0_1 a0_2 l0_3 a1_0 a1_1 a1_2 a1_3 a1_4 l1_5) = some r := by rw [if_neg (show ¬ (false = true) by decide)] at H; exact H
           clear H
           have H := H1
           clear H1
           have H' := Aside0.mk H
           clear H
           have hnb56 := NB240_239.out
           have hnc56 := NB239_240.out
           have hcz57_0 : wr.cell? ⟨gb240, 0, none⟩ = some (.int .i64 a1_0) := (blk_cell BK240.out 0).trans rfl
           have hcz57_1 : wr.cell? ⟨gb240, 1, none⟩ = some (.int .i64 a1_1) := (blk_cell BK240.out 1).trans rfl
           have hcz57_2 : wr.cell? ⟨gb240, 2, none⟩ = some (.int .i64 a1_2) := (blk_cell BK240.out 2).trans rfl
           have hcz57_3 : wr.cell? ⟨gb240, 3, none⟩ = some (.int .i64 a1_3) := (blk_cell BK240.out 3).trans rfl
           have hcz57_4 : wr.cell? ⟨gb240, 4, none⟩ = some (.string a1_4) := (blk_cell BK240.out 4).trans rfl
           have hcz57_5 : wr.cell? ⟨gb240, 5, none⟩ = some (.slice A1_5 l1_5.length c1_5) := (blk_cell BK240.out 5).trans rfl
           have hfz57_0 := blk_frozen BK240.out 0
           have hfz57_1 := blk_frozen BK240.out 1
           have hfz57_2 := blk_frozen BK240.out 2
           have hfz57_3 := blk_frozen BK240.out 3
           have hfz57_4 := blk_frozen BK240.out 4
           have hfz57_5 := blk_frozen BK240.out 5
           have hcz58_0 : wr.cell? ⟨gb239, 0, none⟩ = some (.string a0_0) := (blk_cell BK239.out 0).trans rfl
           have hcz58_1 : wr.cell? ⟨gb239, 1, none⟩ = some (.int .i64 a0_1) := (blk_cell BK239.out 1).trans rfl
           have hcz58_2 : wr.cell? ⟨gb239, 2, none⟩ = some (.int .i64 a0_2) := (blk_cell BK239.out 2).trans rfl
           have hcz58_3 : wr.cell? ⟨gb239, 3, none⟩ = some (.slice A0_3 l0_3.length c0_3) := (blk_cell BK239.out 3).trans rfl
           have hfz58_0 := blk_frozen BK239.out 0
           have hfz58_1 := blk_frozen BK239.out 1
           have hfz58_2 := blk_frozen BK239.out 2
           have hfz58_3 := blk_frozen BK239.out 3
           go_wp2_with (first | ((with_reducible refine gate_callee (f := 44) rfl ?_); refine goesL_ (some 90) rfl rfl Tryd.func44 (by kernel_rfl) rfl #[.slice A1_5 l1_5.length c1_5, .func (.func 43) #[] #[.pointer (some ⟨gb239, 0, none⟩)]] rfl (by (try simp only [List.map_toArray, List.map_cons, List.map_nil]); first | done | rfl | (simp only [List.length_drop, List.length_take]; rfl)) ?_; (refine (slices_ContainsFunc_int_int.calls (A1_5) (c1_5) l1_5 a0_0 a0_1 a0_2 (A0_3) (c0_3) l0_3 false _ ?side1 ?side2 ?side3 ?side4 A50.out (hbk := ?side98) (gb_ := gb239)).mono ?_); (case side1 => repeat (first | exact (Kd.C_below HR1_5.out HB.out) | (refine Kd.C_alloc ?_ _) | (refine Kd.C_drewN ?_ _) | (refine Kd.C_drew ?_))); (case side2 => exact HC1_5.out); (case side3 => repeat (first | exact (Kd.C_below HR0_3.out HB.out) | (refine Kd.C_alloc ?_ _) | (refine Kd.C_drewN ?_ _) | (refine Kd.C_drew ?_))); (case side4 => exact HC0_3.out); (case side98 => exact by (with_reducible repeat (first | refine blk_drewN ?_ _ | refine blk_drew ?_ | refine blk_alloc ?_ _)); exact BK239.out); rintro e w59 ⟨rfl, hb⟩; refine ⟨_, rfl, ?_⟩; have n0_ := Aside0.mk (Kd.R_below (by (with_reducible repeat (first | apply Kd.R_alloc | apply Kd.R_drewN | apply Kd.R_drew)); exact HO_8.out) hb); have n1_ := Aside0.mk (Kd.R_below (by (with_reducible repeat (first | apply Kd.R_alloc | apply Kd.R_drewN | apply Kd.R_drew)); exact HO_70.out) hb); have n2_ := Aside0.mk (blk_below (g := gb239) (o := .cells #[.string a0_0, .int .i64 a0_1, .int .i64 a0_2, .slice A0_3 l0_3.length c0_3] 34 (0, 0)) (by (with_reducible repeat (first | refine blk_drewN ?_ _ | refine blk_drew ?_ | refine blk_alloc ?_ _)); exact BK239.out) hb); have n3_ := Aside0.mk (blk_below (g := gb240) (o := .cells #[.int .i64 a1_0, .int .i64 a1_1, .int .i64 a1_2, .int .i64 a1_3, .string a1_4, .slice A1_5 l1_5.length c1_5] 24 (0, 0)) (by (with_reducible repeat (first | refine blk_drewN ?_ _ | refine blk_drew ?_ | refine blk_alloc ?_ _)); exact BK240.out) hb); have n4_ := Aside0.mk (below_step (by repeat (first | (with_reducible first | exact HB.out | apply below_alloc | apply pw_below_drewN | apply below_drew1 | refine below_set ?_ GE239.out | refine below_set ?_ GE240.out) | exact HB.out)) hb); clear HO_8; clear HO_70; clear BK239; clear BK240; clear HB; have HO_8 := n0_; have HO_70 := n1_; have BK239 := n2_; have BK240 := n3_; have HB := n4_; clear n0_ n1_ n2_ n3_ n4_; (try clear hb); (try clear hb2); (try clear hk); (try clear hi)))
           go_loopg [93] k3 (fun kq v93 w' => ∃ (x93_4 : Int), v93 = .int .i64 x93_4 ∧ Aside0 (ir_one.l2 kq t241 y243 (y243.length : Int) x93_4 a0_0 a0_1 a0_2 l0_3 a1_0 a1_1 a1_2 a1_3 a1_4 l1_5 = some r) ∧ Aside0 (kq ≤ k3) ∧ Aside0 (Kd.R (Kd.int .i64) 3 w' w.heap.size (fun _ => True) (.slice Ao28 y243.length co28) y243) ∧ Aside0 (w'.heap[gb239]? = some (.cells #[.string a0_0, .int .i64 a0_1, .int .i64 a0_2, (.slice A0_3 l0_3.length c0_3)] 34 (0, 0))) ∧ Aside0 (w'.heap[gb240]? = some (.cells #[.int .i64 a1_0, .int .i64 a1_1, .int .i64 a1_2, .int .i64 a1_3, .string a1_4, (.slice A1_5 l1_5.length c1_5)] 24 (0, 0))) ∧ Aside0 (Below w.heap.size w w'))
           case atStart => exact ⟨(0), (by first | rfl | (simp; done) | (simp [*]; done)), H', ⟨Nat.le_refl _⟩, ⟨by (with_reducible repeat (first | apply Kd.R_alloc | apply Kd.R_drewN | apply Kd.R_drew)); exact HO_8.out⟩, ⟨by (with_reducible repeat (first | refine blk_drewN ?_ _ | refine blk_drew ?_ | refine blk_alloc ?_ _)); exact BK239.out⟩, ⟨by (with_reducible repeat (first | refine blk_drewN ?_ _ | refine blk_drew ?_ | refine blk_alloc ?_ _)); exact BK240.out⟩, ⟨by repeat (first | (with_reducible first | exact HB.out | apply below_alloc | apply pw_below_drewN | apply below_drew1 | refine below_set ?_ GE239.out | refine below_set ?_ GE240.out) | exact HB.out)⟩⟩
           case round =>
            clear H'
            try clear c1
            try clear c2
            try clear p2
            try clear q2
            try clear hx2
            try clear c3
            try clear p3
            try clear q3
            try clear hx3
            try clear c4
            try clear p4
            try clear q4
            try clear hx4
            try clear c5
            try clear p6
            try clear c8
            try clear c10
            try clear c10b0
            try clear c10b1
            try clear c12
            try clear c12b0
            try clear c12b1
            try clear c12b2
            try clear c13
            try clear c15
            try clear c15b0
            try clear c15b1
            try clear c16
            try clear c18
            try clear c18b0
            try clear c18b1
            try clear c19
            try clear c21
            try clear c23
            try clear c24
            try clear p24
            try clear q24
            try clear hx24
            try clear c29
            try clear c29b0
            try clear c30
            try clear c30b0
            try clear c31
            try clear c31b0
            try clear c32
            try clear c32b0
            try clear c33
            try clear p33
            try clear q33
            try clear hx33
            try clear c34
            try clear c34b0
            try clear c34b1
            try clear c35
            try clear c35b0
            try clear c35b1
            try clear c36
            try clear c36b0
            try clear c37
            try clear c37b0
            try clear c38
            try clear c38b0
            try clear c39
            try clear c39b0
            try clear p40
            try clear q40
            try clear hx40
            try clear c41
            try clear c41b0
            try clear c41b1
            try clear c43
            try clear c44
            try clear c47
            try clear c51
            try clear c52
            try clear c56
            try clear hcz14_0
            try clear hcz14_1
            try clear hcz14_2
            try clear hcz14_3
            try clear hcz14_4
            try clear hcz14_5
            try clear hcz17_0
            try clear hcz17_1
            try clear hcz17_2
            try clear hcz17_3
            try clear hcz17_4
            try clear hcz17_5
            try clear hcz20_0
            try clear hcz20_1
            try clear hcz20_2
            try clear hcz20_3
            try clear hcz20_4
            try clear hcz20_5
            try clear hcz22_0
            try clear hcz22_1
            try clear hcz22_2
            try clear hcz22_3
            try clear hcz22_4
            try clear hcz22_5
            try clear hcz25_0
            try clear hcz25_1
            try clear hcz25_2
            try clear hcz25_3
            try clear hcz25_4
            try clear hcz25_5
            try clear hcz45_0
            try clear hcz45_1
            try clear hcz45_2
            try clear hcz45_3
            try clear hcz48_0
            try clear hcz48_1
            try clear hcz48_2
            try clear hcz48_3
            try clear hcz53_0
            try clear hcz53_1
            try clear hcz53_2
            try clear hcz53_3
            try clear hcz53_4
            try clear hcz53_5
            try clear hcz54_0
            try clear hcz54_1
            try clear hcz54_2
            try clear hcz54_3
            try clear hcz57_0
            try clear hcz57_1
            try clear hcz57_2
            try clear hcz57_3
            try clear hcz57_4
            try clear hcz57_5
            try clear hcz58_0
            try clear hcz58_1
            try clear hcz58_2
            try clear hcz58_3
            try clear hcz9_0
            try clear hcz9_1
            try clear hcz9_2
            try clear hcz9_3
            try clear hcz9_4
            try clear hcz9_5
            try clear hfz14_0
            try clear hfz14_1
            try clear hfz14_2
            try clear hfz14_3
            try clear hfz14_4
            try clear hfz14_5
            try clear hfz17_0
            try clear hfz17_1
            try clear hfz17_2
            try clear hfz17_3
            try clear hfz17_4
            try clear hfz17_5
            try clear hfz20_0
            try clear hfz20_1
            try clear hfz20_2
            try clear hfz20_3
            try clear hfz20_4
            try clear hfz20_5
            try clear hfz22_0
            try clear hfz22_1
            try clear hfz22_2
            try clear hfz22_3
            try clear hfz22_4
            try clear hfz22_5
            try clear hfz25_0
            try clear hfz25_1
            try clear hfz25_2
            try clear hfz25_3
            try clear hfz25_4
            try clear hfz25_5
            try clear hfz45_0
            try clear hfz45_1
            try clear hfz45_2
            try clear hfz45_3
            try clear hfz48_0
            try clear hfz48_1
            try clear hfz48_2
            try clear hfz48_3
            try clear hfz53_0
            try clear hfz53_1
            try clear hfz53_2
            try clear hfz53_3
            try clear hfz53_4
            try clear hfz53_5
            try clear hfz54_0
            try clear hfz54_1
            try clear hfz54_2
            try clear hfz54_3
            try clear hfz57_0
            try clear hfz57_1
            try clear hfz57_2
            try clear hfz57_3
            try clear hfz57_4
            try clear hfz57_5
            try clear hfz58_0
            try clear hfz58_1
            try clear hfz58_2
            try clear hfz58_3
            try clear hfz9_0
            try clear hfz9_1
            try clear hfz9_2
            try clear hfz9_3
            try clear hfz9_4
            try clear hfz9_5
            try clear hx246_0
            try clear hx247_0
            try clear p2
            try clear p24
            try clear p246
            try clear p247
            try clear p3
            try clear p33
            try clear p40
            try clear p6
            try clear q2
            try clear q24
            try clear q246
            try clear q247
            try clear q3
            try clear q33
            try clear q40
            obtain ⟨x93_4, rfl, HA, HK4, HO_91, BK239, BK240, HB⟩ := hrel
            cases gk with
            | zero => exact absurd HA.out (by simp [ir_one.l2])
            | succ k4 =>
             have H := HA.out
             clear HA
             simp only [ir_one.l2] at H
             by_cases c60 : x93_4 < (y243.length : Int)
             ·rw [if_pos c60] at H
              have c60b0 : decide (x93_4 < (y243.length : Int)) = true := decide_eq_true c60
              clear c60
              by_cases c61 : 0 ≤ x93_4
              ·rw [if_pos c61] at H
               have c61b0 : decide (0 ≤ x93_4) = true := decide_eq_true c61
               clear c61
               by_cases c62 : x93_4 < (y243.length : Int)
               ·rw [if_pos c62] at H
                have c62b0 : decide (x93_4 < (y243.length : Int)) = true := decide_eq_true c62
                clear c62
                by_cases c63 : x93_4 < (t241.size : Int)
                ·rw [if_pos c63] at H
                 have c63b0 : decide (x93_4 < (t241.size : Int)) = true := decide_eq_true c63
                 clear c63
                 by_cases c65 : (bt t241 x93_4) = 110
                 ·rw [if_pos c65] at H
                  have c65b0 : ((bt t241 x93_4) == 110) = true := beq_iff_eq.mpr c65
                  have c65b1 : ((bt t241 x93_4) != 110) = false := bne_eq_false_iff_eq.mpr c65
                  clear c65
                  by_cases c66 : (rd y243 x93_4) < 0
                  ·rw [if_pos c66] at H
                   have c66b0 : decide ((rd y243 x93_4) < 0) = true := decide_eq_true c66
                   clear c66
                   obtain rfl := Option.some.inj H
                   have p250 : 0 ≤ (x93_4 : Int) := of_decide_eq_true (by first | (with_reducible assumption) | assumption)
                   have q250 : x93_4 < (y243.length : Int) := of_decide_eq_true (by first | (with_reducible assumption) | assumption)
                   obtain ⟨ad250, e250, hx250_0⟩ := Kd.at_int (Kd.R_reads' HO_91.out).2.2 x93_4 p250 q250
                   cases e250
                   replace p250 := eq_true p250
                   replace q250 := eq_true q250
                   have p64 : 0 ≤ (x93_4 : Int) := of_decide_eq_true (by first | (with_reducible assumption) | assumption)
                   have q64 : x93_4 < (t241.size : Int) := of_decide_eq_true (by first | (with_reducible assumption) | assumption)
                   have hx64 := bt_at t241 x93_4
                   replace p64 := eq_true p64
                   replace q64 := eq_true q64
                   go_wp2
                   go_ret
                   exact ⟨by first | rfl | (simp [errW_none, errW_some] <;> rfl) | (simp [*, errW_none, errW_some] <;> rfl), by repeat (first | (with_reducible first | exact HB.out | apply below_alloc | apply pw_below_drewN | apply below_drew1 | refine below_set ?_ GE239.out | refine below_set ?_ GE240.out) | exact HB.out)⟩
                  ·rw [if_neg c66] at H
                   have c66b0 : decide ((rd y243 x93_4) < 0) = false := decide_eq_false c66
                   clear c66
                   by_cases c67 : (rd y243 x93_4) ≥ 65536
                   ·rw [if_pos c67] at H
                    have c67b0 : decide (65536 ≤ (rd y243 x93_4)) = true := decide_eq_true c67
                    clear c67
                    obtain rfl := Option.some.inj H
                    have p250 : 0 ≤ (x93_4 : Int) := of_decide_eq_true (by first | (with_reducible assumption) | assumption)
                    have q250 : x93_4 < (y243.length : Int) := of_decide_eq_true (by first | (with_reducible assumption) | assumption)
                    obtain ⟨ad250, e250, hx250_0⟩ := Kd.at_int (Kd.R_reads' HO_91.out).2.2 x93_4 p250 q250
                    cases e250
                    replace p250 := eq_true p250
                    replace q250 := eq_true q250
                    have p64 : 0 ≤ (x93_4 : Int) := of_decide_eq_true (by first | (with_reducible assumption) | assumption)
                    have q64 : x93_4 < (t241.size : Int) := of_decide_eq_true (by first | (with_reducible assumption) | assumption)
                    have hx64 := bt_at t241 x93_4
                    replace p64 := eq_true p64
                    replace q64 := eq_true q64
                    go_wp2
                    go_ret
                    exact ⟨by first | rfl | (simp [errW_none, errW_some] <;> rfl) | (simp [*, errW_none, errW_some] <;> rfl), by repeat (first | (with_reducible first | exact HB.out | apply below_alloc | apply pw_below_drewN | apply below_drew1 | refine below_set ?_ GE239.out | refine below_set ?_ GE240.out) | exact HB.out)⟩
                   ·rw [if_neg c67] at H
                    have c67b0 : decide (65536 ≤ (rd y243 x93_4)) = false := decide_eq_false c67
                    clear c67
                    have H' := Aside0.mk H
                    clear H
                    have p250 : 0 ≤ (x93_4 : Int) := of_decide_eq_true (by first | (with_reducible assumption) | assumption)
                    have q250 : x93_4 < (y243.length : Int) := of_decide_eq_true (by first | (with_reducible assumption) | assumption)
                    obtain ⟨ad250, e250, hx250_0⟩ := Kd.at_int (Kd.R_reads' HO_91.out).2.2 x93_4 p250 q250
                    cases e250
                    replace p250 := eq_true p250
                    replace q250 := eq_true q250
                    have p64 : 0 ≤ (x93_4 : Int) := of_decide_eq_true (by first | (with_reducible assumption) | assumption)
                    have q64 : x93_4 < (t241.size : Int) := of_decide_eq_true (by first | (with_reducible assumption) | assumption)
                    have hx64 := bt_at t241 x93_4
                    replace p64 := eq_true p64
                    replace q64 := eq_true q64
                    go_wp2
                    go_roundg k4
                    case measure => have := HJ4.out; have := HK2.out; have := HK3.out; have := HK4.out; omega
                    case rel => exact ⟨(wrap64 (x93_4 + 1)), (by first | rfl | (simp; done) | (simp [*]; done)), H', ⟨by have := HJ4.out; have := HK2.out; have := HK3.out; have := HK4.out; omega⟩, ⟨by (with_reducible repeat (first | apply Kd.R_alloc | apply Kd.R_drewN | apply Kd.R_drew)); exact HO_91.out⟩, ⟨by (with_reducible repeat (first | refine blk_drewN ?_ _ | refine blk_drew ?_ | refine blk_alloc ?_ _)); exact BK239.out⟩, ⟨by (with_reducible repeat (first | refine blk_drewN ?_ _ | refine blk_drew ?_ | refine blk_alloc ?_ _)); exact BK240.out⟩, ⟨by repeat (first | (with_reducible first | exact HB.out | apply below_alloc | apply pw_below_drewN | apply below_drew1 | refine below_set ?_ GE239.out | refine below_set ?_ GE240.out) | exact HB.out)⟩⟩
                 ·rw [if_neg c65] at H
                  have c65b0 : ((bt t241 x93_4) == 110) = false := beq_eq_false_iff_ne.mpr c65
                  have c65b1 : ((bt t241 x93_4) != 110) = true := bne_iff_ne.mpr c65
                  have H' := Aside0.mk H
                  clear H
                  have p250 : 0 ≤ (x93_4 : Int) := of_decide_eq_true (by first | (with_reducible assumption) | assumption)
                  have q250 : x93_4 < (y243.length : Int) := of_decide_eq_true (by first | (with_reducible assumption) | assumption)
                  obtain ⟨ad250, e250, hx250_0⟩ := Kd.at_int (Kd.R_reads' HO_91.out).2.2 x93_4 p250 q250
                  cases e250
                  replace p250 := eq_true p250
                  replace q250 := eq_true q250
                  have p64 : 0 ≤ (x93_4 : Int) := of_decide_eq_true (by first | (with_reducible assumption) | assumption)
                  have q64 : x93_4 < (t241.size : Int) := of_decide_eq_true (by first | (with_reducible assumption) | assumption)
                  have hx64 := bt_at t241 x93_4
                  replace p64 := eq_true p64
                  replace q64 := eq_true q64
                  go_wp2
                  go_roundg k4
                  case measure => have := HJ4.out; have := HK2.out; have := HK3.out; have := HK4.out; omega
                  case rel => exact ⟨(wrap64 (x93_4 + 1)), (by first | rfl | (simp; done) | (simp [*]; done)), H', ⟨by have := HJ4.out; have := HK2.out; have := HK3.out; have := HK4.out; omega⟩, ⟨by (with_reducible repeat (first | apply Kd.R_alloc | apply Kd.R_drewN | apply Kd.R_drew)); exact HO_91.out⟩, ⟨by (with_reducible repeat (first | refine blk_drewN ?_ _ | refine blk_drew ?_ | refine blk_alloc ?_ _)); exact BK239.out⟩, ⟨by (with_reducible repeat (first | refine blk_drewN ?_ _ | refine blk_drew ?_ | refine blk_alloc ?_ _)); exact BK240.out⟩, ⟨by repeat (first | (with_reducible first | exact HB.out | apply below_alloc | apply pw_below_drewN | apply below_drew1 | refine below_set ?_ GE239.out | refine below_set ?_ GE240.out) | exact HB.out)⟩⟩
                ·rw [if_neg c63] at H
                 exact absurd H (by simp)
               ·rw [if_neg c62] at H
                exact absurd H (by simp)
              ·rw [if_neg c61] at H
               exact absurd H (by simp)
             ·rw [if_neg c60] at H
              have c60b0 : decide (x93_4 < (y243.length : Int)) = false := decide_eq_false c60
              clear c60
              replace H := Option.bind_eq_some_iff.mp H
              obtain ⟨t251, A680, H⟩ := H
              replace H : (ir_one.l3 k4 t251 (t251.length : Int) 0 a0_0 a0_1 a0_2 l0_3 a1_0 a1_1 a1_2 a1_3 a1_4 l1_5) = some r := H
              have A68 := Aside0.mk A680
              clear A680
              have H' := Aside0.mk H
              clear H
              have hnb69 := NB240_239.out
              have hnc69 := NB239_240.out
              have hcz70_0 : wr.cell? ⟨gb240, 0, none⟩ = some (.int .i64 a1_0) := (blk_cell BK240.out 0).trans rfl
              have hcz70_1 : wr.cell? ⟨gb240, 1, none⟩ = some (.int .i64 a1_1) := (blk_cell BK240.out 1).trans rfl
              have hcz70_2 : wr.cell? ⟨gb240, 2, none⟩ = some (.int .i64 a1_2) := (blk_cell BK240.out 2).trans rfl
              have hcz70_3 : wr.cell? ⟨gb240, 3, none⟩ = some (.int .i64 a1_3) := (blk_cell BK240.out 3).trans rfl
              have hcz70_4 : wr.cell? ⟨gb240, 4, none⟩ = some (.string a1_4) := (blk_cell BK240.out 4).trans rfl
              have hcz70_5 : wr.cell? ⟨gb240, 5, none⟩ = some (.slice A1_5 l1_5.length c1_5) := (blk_cell BK240.out 5).trans rfl
              have hfz70_0 := blk_frozen BK240.out 0
              have hfz70_1 := blk_frozen BK240.out 1
              have hfz70_2 := blk_frozen BK240.out 2
              have hfz70_3 := blk_frozen BK240.out 3
              have hfz70_4 := blk_frozen BK240.out 4
              have hfz70_5 := blk_frozen BK240.out 5
              go_wp2_with (first | ((with_reducible refine gate_callee (f := 14) rfl ?_); refine goesL_ (some 112) rfl rfl Tryd.func14 (by kernel_rfl) rfl #[.agg #[.int .i64 a1_0, .int .i64 a1_1, .int .i64 a1_2, .int .i64 a1_3, .string a1_4, .slice A1_5 l1_5.length c1_5]] rfl (by (try simp only [List.map_toArray, List.map_cons, List.map_nil]); first | done | rfl | (simp only [List.length_drop, List.length_take]; rfl)) ?_; (with_reducible refine (ir_Targets.calls a1_0 a1_1 a1_2 a1_3 a1_4 _ _ l1_5 t251 _ ?side1 ?side2 A68.out).mono ?_); (case side1 => repeat (first | exact (Kd.C_below HR1_5.out HB.out) | (with_reducible refine Kd.C_alloc ?_ _) | (with_reducible refine Kd.C_drewN ?_ _) | (with_reducible refine Kd.C_drew ?_))); (case side2 => exact HC1_5.out); rintro e w71 ⟨v252, rfl, ho0, hb⟩; refine ⟨_, rfl, ?_⟩; have n0_ := Aside0.mk (Kd.R_elder' (by (with_reducible repeat (first | apply Kd.R_alloc | apply Kd.R_drewN | apply Kd.R_drew)); exact HO_91.out) (Kd.R_base ho0) hb); have n1_ := Aside0.mk (Kd.R_lower (Kd.R_new' ho0 (Kd.R_lt (by (with_reducible repeat (first | apply Kd.R_alloc | apply Kd.R_drewN | apply Kd.R_drew)); exact HO_91.out))) (below_size (by repeat (first | (with_reducible first | exact HB.out | apply below_alloc | apply pw_below_drewN | apply below_drew1 | refine below_set ?_ GE239.out | refine below_set ?_ GE240.out) | exact HB.out)))); have n2_ := Aside0.mk (blk_below (g := gb239) (o := .cells #[.string a0_0, .int .i64 a0_1, .int .i64 a0_2, .slice A0_3 l0_3.length c0_3] 34 (0, 0)) (by (with_reducible repeat (first | refine blk_drewN ?_ _ | refine blk_drew ?_ | refine blk_alloc ?_ _)); exact BK239.out) hb); have n3_ := Aside0.mk (blk_below (g := gb240) (o := .cells #[.int .i64 a1_0, .int .i64 a1_1, .int .i64 a1_2, .int .i64 a1_3, .string a1_4, .slice A1_5 l1_5.length c1_5] 24 (0, 0)) (by (with_reducible repeat (first | refine blk_drewN ?_ _ | refine blk_drew ?_ | refine blk_alloc ?_ _)); exact BK240.out) hb); have n4_ := Aside0.mk (below_step (by repeat (first | (with_reducible first | exact HB.out | apply below_alloc | apply pw_below_drewN | apply below_drew1 | refine below_set ?_ GE239.out | refine below_set ?_ GE240.out) | exact HB.out)) hb); clear HO_91; clear BK239; clear BK240; clear HB; have HO_91 := n0_; have HO253 := n1_; have BK239 := n2_; have BK240 := n3_; have HB := n4_; clear n0_ n1_ n2_ n3_ n4_; (try clear hb); (try clear hb2); (try clear hk); (try clear hi); (try clear ho0); obtain ⟨Ao72, co72, eo72⟩ := Kd.R_slice HO253.out; subst eo72))
              go_loopg [114] k4 (fun kq v114 w' => ∃ (x114_5 : Int), v114 = .int .i64 x114_5 ∧ Aside0 (ir_one.l3 kq t251 (t251.length : Int) x114_5 a0_0 a0_1 a0_2 l0_3 a1_0 a1_1 a1_2 a1_3 a1_4 l1_5 = some r) ∧ Aside0 (kq ≤ k4) ∧ Aside0 (Kd.R (Kd.int .i64) 3 w' w.heap.size (fun _ => True) (.slice Ao72 t251.length co72) t251) ∧ Aside0 (w'.heap[gb239]? = some (.cells #[.string a0_0, .int .i64 a0_1, .int .i64 a0_2, (.slice A0_3 l0_3.length c0_3)] 34 (0, 0))) ∧ Aside0 (w'.heap[gb240]? = some (.cells #[.int .i64 a1_0, .int .i64 a1_1, .int .i64 a1_2, .int .i64 a1_3, .string a1_4, (.slice A1_5 l1_5.length c1_5)] 24 (0, 0))) ∧ Aside0 (Below w.heap.size w w'))
              case atStart => exact ⟨(0), (by first | rfl | (simp; done) | (simp [*]; done)), H', ⟨Nat.le_refl _⟩, ⟨by (with_reducible repeat (first | apply Kd.R_alloc | apply Kd.R_drewN | apply Kd.R_drew)); exact Kd.R_mono HO253.out (fun _ hk => trivial)⟩, ⟨by (with_reducible repeat (first | refine blk_drewN ?_ _ | refine blk_drew ?_ | refine blk_alloc ?_ _)); exact BK239.out⟩, ⟨by (with_reducible repeat (first | refine blk_drewN ?_ _ | refine blk_drew ?_ | refine blk_alloc ?_ _)); exact BK240.out⟩, ⟨by repeat (first | (with_reducible first | exact HB.out | apply below_alloc | apply pw_below_drewN | apply below_drew1 | refine below_set ?_ GE239.out | refine below_set ?_ GE240.out) | exact HB.out)⟩⟩
              case round =>
               clear H'
               try clear c1
               try clear c2
               try clear p2
               try clear q2
               try clear hx2
               try clear c3
               try clear p3
               try clear q3
               try clear hx3
               try clear c4
               try clear p4
               try clear q4
               try clear hx4
               try clear c5
               try clear c6
               try clear p6
               try clear q6
               try clear hx6
               try clear c8
               try clear c10
               try clear c10b0
               try clear c10b1
               try clear c12
               try clear c12b0
               try clear c12b1
               try clear c12b2
               try clear c13
               try clear c14
               try clear c15
               try clear c15b0
               try clear c15b1
               try clear c16
               try clear c18
               try clear c18b0
               try clear c18b1
               try clear c19
               try clear c21
               try clear c23
               try clear c24
               try clear p24
               try clear q24
               try clear hx24
               try clear p25
               try clear q25
               try clear hx25
               try clear c29
               try clear c29b0
               try clear c30
               try clear c30b0
               try clear c31
               try clear c31b0
               try clear c32
               try clear c32b0
               try clear c33
               try clear p33
               try clear q33
               try clear hx33
               try clear c34
               try clear c34b0
               try clear c34b1
               try clear c35
               try clear c35b0
               try clear c35b1
               try clear c36
               try clear c36b0
               try clear c37
               try clear c37b0
               try clear c38
               try clear c38b0
               try clear c39
               try clear c39b0
               try clear p40
               try clear q40
               try clear hx40
               try clear c41
               try clear c41b0
               try clear c41b1
               try clear c43
               try clear c44
               try clear c47
               try clear c51
               try clear c52
               try clear c56
               try clear c60
               try clear c60b0
               try clear c61
               try clear c61b0
               try clear c62
               try clear c62b0
               try clear c63
               try clear c63b0
               try clear p64
               try clear q64
               try clear hx64
               try clear c65
               try clear c65b0
               try clear c65b1
               try clear c66
               try clear c66b0
               try clear c67
               try clear c67b0
               try clear c69
               try clear hcz14_0
               try clear hcz14_1
               try clear hcz14_2
               try clear hcz14_3
               try clear hcz14_4
               try clear hcz14_5
               try clear hcz17_0
               try clear hcz17_1
               try clear hcz17_2
               try clear hcz17_3
               try clear hcz17_4
               try clear hcz17_5
               try clear hcz20_0
               try clear hcz20_1
               try clear hcz20_2
               try clear hcz20_3
               try clear hcz20_4
               try clear hcz20_5
               try clear hcz22_0
               try clear hcz22_1
               try clear hcz22_2
               try clear hcz22_3
               try clear hcz22_4
               try clear hcz22_5
               try clear hcz25_0
               try clear hcz25_1
               try clear hcz25_2
               try clear hcz25_3
               try clear hcz25_4
               try clear hcz25_5
               try clear hcz45_0
               try clear hcz45_1
               try clear hcz45_2
               try clear hcz45_3
               try clear hcz48_0
               try clear hcz48_1
               try clear hcz48_2
               try clear hcz48_3
               try clear hcz53_0
               try clear hcz53_1
               try clear hcz53_2
               try clear hcz53_3
               try clear hcz53_4
               try clear hcz53_5
               try clear hcz54_0
               try clear hcz54_1
               try clear hcz54_2
               try clear hcz54_3
               try clear hcz57_0
               try clear hcz57_1
               try clear hcz57_2
               try clear hcz57_3
               try clear hcz57_4
               try clear hcz57_5
               try clear hcz58_0
               try clear hcz58_1
               try clear hcz58_2
               try clear hcz58_3
               try clear hcz70_0
               try clear hcz70_1
               try clear hcz70_2
               try clear hcz70_3
               try clear hcz70_4
               try clear hcz70_5
               try clear hcz9_0
               try clear hcz9_1
               try clear hcz9_2
               try clear hcz9_3
               try clear hcz9_4
               try clear hcz9_5
               try clear hfz14_0
               try clear hfz14_1
               try clear hfz14_2
               try clear hfz14_3
               try clear hfz14_4
               try clear hfz14_5
               try clear hfz17_0
               try clear hfz17_1
               try clear hfz17_2
               try clear hfz17_3
               try clear hfz17_4
               try clear hfz17_5
               try clear hfz20_0
               try clear hfz20_1
               try clear hfz20_2
               try clear hfz20_3
               try clear hfz20_4
               try clear hfz20_5
               try clear hfz22_0
               try clear hfz22_1
               try clear hfz22_2
               try clear hfz22_3
               try clear hfz22_4
               try clear hfz22_5
               try clear hfz25_0
               try clear hfz25_1
               try clear hfz25_2
               try clear hfz25_3
               try clear hfz25_4
               try clear hfz25_5
               try clear hfz45_0
               try clear hfz45_1
               try clear hfz45_2
               try clear hfz45_3
               try clear hfz48_0
               try clear hfz48_1
               try clear hfz48_2
               try clear hfz48_3
               try clear hfz53_0
               try clear hfz53_1
               try clear hfz53_2
               try clear hfz53_3
               try clear hfz53_4
               try clear hfz53_5
               try clear hfz54_0
               try clear hfz54_1
               try clear hfz54_2
               try clear hfz54_3
               try clear hfz57_0
               try clear hfz57_1
               try clear hfz57_2
               try clear hfz57_3
               try clear hfz57_4
               try clear hfz57_5
               try clear hfz58_0
               try clear hfz58_1
               try clear hfz58_2
               try clear hfz58_3
               try clear hfz70_0
               try clear hfz70_1
               try clear hfz70_2
               try clear hfz70_3
               try clear hfz70_4
               try clear hfz70_5
               try clear hfz9_0
               try clear hfz9_1
               try clear hfz9_2
               try clear hfz9_3
               try clear hfz9_4
               try clear hfz9_5
               try clear hx246_0
               try clear hx247_0
               try clear hx250_0
               try clear p2
               try clear p24
               try clear p246
               try clear p247
               try clear p250
               try clear p3
               try clear p33
               try clear p4
               try clear p40
               try clear p6
               try clear p64
               try clear q2
               try clear q24
               try clear q246
               try clear q247
               try clear q250
               try clear q3
               try clear q33
               try clear q4
               try clear q40
               try clear q64
               obtain ⟨x114_5, rfl, HA, HK5, HO_112, BK239, BK240, HB⟩ := hrel
               cases gk with
               | zero => exact absurd HA.out (by simp [ir_one.l3])
               | succ k5 =>
                have H := HA.out
                clear HA
                simp only [ir_one.l3] at H
                by_cases c73 : x114_5 < (t251.length : Int)
                ·rw [if_pos c73] at H
                 have c73b0 : decide (x114_5 < (t251.length : Int)) = true := decide_eq_true c73
                 clear c73
                 by_cases c74 : 0 ≤ x114_5
                 ·rw [if_pos c74] at H
                  have c74b0 : decide (0 ≤ x114_5) = true := decide_eq_true c74
                  clear c74
                  by_cases c75 : x114_5 < (t251.length : Int)
                  ·rw [if_pos c75] at H
                   have c75b0 : decide (x114_5 < (t251.length : Int)) = true := decide_eq_true c75
                   clear c75
                   by_cases c76 : (rd t251 x114_5) < 0
                   ·rw [if_pos c76] at H
                    have c76b0 : decide ((rd t251 x114_5) < 0) = true := decide_eq_true c76
                    clear c76
                    obtain rfl := Option.some.inj H
                    have p254 : 0 ≤ (x114_5 : Int) := of_decide_eq_true (by first | (with_reducible assumption) | assumption)
                    have q254 : x114_5 < (t251.length : Int) := of_decide_eq_true (by first | (with_reducible assumption) | assumption)
                    obtain ⟨ad254, e254, hx254_0⟩ := Kd.at_int (Kd.R_reads' HO_112.out).2.2 x114_5 p254 q254
                    cases e254
                    replace p254 := eq_true p254
                    replace q254 := eq_true q254
                    go_wp2
                    go_ret
                    exact ⟨by first | rfl | (simp [errW_none, errW_some] <;> rfl) | (simp [*, errW_none, errW_some] <;> rfl), by repeat (first | (with_reducible first | exact HB.out | apply below_alloc | apply pw_below_drewN | apply below_drew1 | refine below_set ?_ GE239.out | refine below_set ?_ GE240.out) | exact HB.out)⟩
                   ·rw [if_neg c76] at H
                    have c76b0 : decide ((rd t251 x114_5) < 0) = false := decide_eq_false c76
                    clear c76
                    by_cases c77 : (rd t251 x114_5) ≥ (l0_3.length : Int)
                    ·rw [if_pos c77] at H
                     have c77b0 : decide ((l0_3.length : Int) ≤ (rd t251 x114_5)) = true := decide_eq_true c77
                     clear c77
                     obtain rfl := Option.some.inj H
                     have p254 : 0 ≤ (x114_5 : Int) := of_decide_eq_true (by first | (with_reducible assumption) | assumption)
                     have q254 : x114_5 < (t251.length : Int) := of_decide_eq_true (by first | (with_reducible assumption) | assumption)
                     obtain ⟨ad254, e254, hx254_0⟩ := Kd.at_int (Kd.R_reads' HO_112.out).2.2 x114_5 p254 q254
                     cases e254
                     replace p254 := eq_true p254
                     replace q254 := eq_true q254
                     have hnb78 := NB239_240.out
                     have hnc78 := NB240_239.out
                     have hcz79_0 : wr.cell? ⟨gb239, 0, none⟩ = some (.string a0_0) := (blk_cell BK239.out 0).trans rfl
                     have hcz79_1 : wr.cell? ⟨gb239, 1, none⟩ = some (.int .i64 a0_1) := (blk_cell BK239.out 1).trans rfl
                     have hcz79_2 : wr.cell? ⟨gb239, 2, none⟩ = some (.int .i64 a0_2) := (blk_cell BK239.out 2).trans rfl
                     have hcz79_3 : wr.cell? ⟨gb239, 3, none⟩ = some (.slice A0_3 l0_3.length c0_3) := (blk_cell BK239.out 3).trans rfl
                     have hfz79_0 := blk_frozen BK239.out 0
                     have hfz79_1 := blk_frozen BK239.out 1
                     have hfz79_2 := blk_frozen BK239.out 2
                     have hfz79_3 := blk_frozen BK239.out 3
                     go_wp2
                     go_ret
                     exact ⟨by first | rfl | (simp [errW_none, errW_some] <;> rfl) | (simp [*, errW_none, errW_some] <;> rfl), by repeat (first | (with_reducible first | exact HB.out | apply below_alloc | apply pw_below_drewN | apply below_drew1 | refine below_set ?_ GE239.out | refine below_set ?_ GE240.out) | exact HB.out)⟩
                    ·rw [if_neg c77] at H
                     have c77b0 : decide ((l0_3.length : Int) ≤ (rd t251 x114_5)) = false := decide_eq_false c77
                     clear c77
                     have H' := Aside0.mk H
                     clear H
                     have p254 : 0 ≤ (x114_5 : Int) := of_decide_eq_true (by first | (with_reducible assumption) | assumption)
                     have q254 : x114_5 < (t251.length : Int) := of_decide_eq_true (by first | (with_reducible assumption) | assumption)
                     obtain ⟨ad254, e254, hx254_0⟩ := Kd.at_int (Kd.R_reads' HO_112.out).2.2 x114_5 p254 q254
                     cases e254
                     replace p254 := eq_true p254
                     replace q254 := eq_true q254
                     have hnb80 := NB239_240.out
                     have hnc80 := NB240_239.out
                     have hcz81_0 : wr.cell? ⟨gb239, 0, none⟩ = some (.string a0_0) := (blk_cell BK239.out 0).trans rfl
                     have hcz81_1 : wr.cell? ⟨gb239, 1, none⟩ = some (.int .i64 a0_1) := (blk_cell BK239.out 1).trans rfl
                     have hcz81_2 : wr.cell? ⟨gb239, 2, none⟩ = some (.int .i64 a0_2) := (blk_cell BK239.out 2).trans rfl
                     have hcz81_3 : wr.cell? ⟨gb239, 3, none⟩ = some (.slice A0_3 l0_3.length c0_3) := (blk_cell BK239.out 3).trans rfl
                     have hfz81_0 := blk_frozen BK239.out 0
                     have hfz81_1 := blk_frozen BK239.out 1
                     have hfz81_2 := blk_frozen BK239.out 2
                     have hfz81_3 := blk_frozen BK239.out 3
                     go_wp2
                     go_roundg k5
                     case measure => have := HJ4.out; have := HK2.out; have := HK3.out; have := HK4.out; have := HK5.out; omega
                     case rel => exact ⟨(wrap64 (x114_5 + 1)), (by first | rfl | (simp; done) | (simp [*]; done)), H', ⟨by have := HJ4.out; have := HK2.out; have := HK3.out; have := HK4.out; have := HK5.out; omega⟩, ⟨by (with_reducible repeat (first | apply Kd.R_alloc | apply Kd.R_drewN | apply Kd.R_drew)); exact HO_112.out⟩, ⟨by (with_reducible repeat (first | refine blk_drewN ?_ _ | refine blk_drew ?_ | refine blk_alloc ?_ _)); exact BK239.out⟩, ⟨by (with_reducible repeat (first | refine blk_drewN ?_ _ | refine blk_drew ?_ | refine blk_alloc ?_ _)); exact BK240.out⟩, ⟨by repeat (first | (with_reducible first | exact HB.out | apply below_alloc | apply pw_below_drewN | apply below_drew1 | refine below_set ?_ GE239.out | refine below_set ?_ GE240.out) | exact HB.out)⟩⟩
                  ·rw [if_neg c75] at H
                   exact absurd H (by simp)
                 ·rw [if_neg c74] at H
                  exact absurd H (by simp)
                ·rw [if_neg c73] at H
                 have c73b0 : decide (x114_5 < (t251.length : Int)) = false := decide_eq_false c73
                 clear c73
                 have HC82 := Aside0.mk H
                 clear H
                 go_upto_region 32 with (fail)
                 go_cut [128] (fun v128 wc => ∃ (kq : Nat) (x128_81 : Bool), v128 = .bool x128_81 ∧ Aside0 (ir_one.j5 kq x128_81 a1_0 a1_1 a1_2 a1_3 a1_4 l1_5 = some r) ∧ Aside0 (kq ≤ k5) ∧ Aside0 (wc.heap[gb239]? = some (.cells #[.string a0_0, .int .i64 a0_1, .int .i64 a0_2, (.slice A0_3 l0_3.length c0_3)] 34 (0, 0))) ∧ Aside0 (wc.heap[gb240]? = some (.cells #[.int .i64 a1_0, .int .i64 a1_1, .int .i64 a1_2, .int .i64 a1_3, .string a1_4, (.slice A1_5 l1_5.length c1_5)] 24 (0, 0))) ∧ Aside0 (Below w.heap.size w wc))
                 case first =>
                  have H := HC82.out
                  clear HC82
                  by_cases c83 : a1_0 = 11
                  ·rw [if_pos c83] at H
                   have c83b0 : (a1_0 == 11) = true := beq_iff_eq.mpr c83
                   have c83b1 : (a1_0 != 11) = false := bne_eq_false_iff_eq.mpr c83
                   clear c83
                   (first | rw [c83b0] | (simp only [i64_w, i32_w]; rw [c83b0]) | skip)
                   replace H := Option.bind_eq_some_iff.mp H
                   obtain ⟨t255, A840, H⟩ := H
                   replace H : (ir_one.j5 k5 (!t255) a1_0 a1_1 a1_2 a1_3 a1_4 l1_5) = some r := H
                   have A84 := Aside0.mk A840
                   clear A840
                   have H' := Aside0.mk H
                   clear H
                   have hnb85 := NB240_239.out
                   have hnc85 := NB239_240.out
                   have hcz86_0 : wr.cell? ⟨gb240, 0, none⟩ = some (.int .i64 a1_0) := (blk_cell BK240.out 0).trans rfl
                   have hcz86_1 : wr.cell? ⟨gb240, 1, none⟩ = some (.int .i64 a1_1) := (blk_cell BK240.out 1).trans rfl
                   have hcz86_2 : wr.cell? ⟨gb240, 2, none⟩ = some (.int .i64 a1_2) := (blk_cell BK240.out 2).trans rfl
                   have hcz86_3 : wr.cell? ⟨gb240, 3, none⟩ = some (.int .i64 a1_3) := (blk_cell BK240.out 3).trans rfl
                   have hcz86_4 : wr.cell? ⟨gb240, 4, none⟩ = some (.string a1_4) := (blk_cell BK240.out 4).trans rfl
                   have hcz86_5 : wr.cell? ⟨gb240, 5, none⟩ = some (.slice A1_5 l1_5.length c1_5) := (blk_cell BK240.out 5).trans rfl
                   have hfz86_0 := blk_frozen BK240.out 0
                   have hfz86_1 := blk_frozen BK240.out 1
                   have hfz86_2 := blk_frozen BK240.out 2
                   have hfz86_3 := blk_frozen BK240.out 3
                   have hfz86_4 := blk_frozen BK240.out 4
                   have hfz86_5 := blk_frozen BK240.out 5
                   go_wp2_with (first | (go_at_call 25; (with_reducible refine (ir_Name.calls a1_4 t255 _ A84.out).mono ?_); (try clear A84); rintro e w87 ⟨rfl, hb⟩; have n0_ := Aside0.mk (Kd.R_below (by (with_reducible repeat (first | apply Kd.R_alloc | apply Kd.R_drewN | apply Kd.R_drew)); exact HO_112.out) hb); have n1_ := Aside0.mk (blk_below (g := gb239) (o := .cells #[.string a0_0, .int .i64 a0_1, .int .i64 a0_2, .slice A0_3 l0_3.length c0_3] 34 (0, 0)) (by (with_reducible repeat (first | refine blk_drewN ?_ _ | refine blk_drew ?_ | refine blk_alloc ?_ _)); exact BK239.out) hb); have n2_ := Aside0.mk (blk_below (g := gb240) (o := .cells #[.int .i64 a1_0, .int .i64 a1_1, .int .i64 a1_2, .int .i64 a1_3, .string a1_4, .slice A1_5 l1_5.length c1_5] 24 (0, 0)) (by (with_reducible repeat (first | refine blk_drewN ?_ _ | refine blk_drew ?_ | refine blk_alloc ?_ _)); exact BK240.out) hb); have n3_ := Aside0.mk (below_step (by repeat (first | (with_reducible first | exact HB.out | apply below_alloc | apply pw_below_drewN | apply below_drew1 | refine below_set ?_ GE239.out | refine below_set ?_ GE240.out) | exact HB.out)) hb); clear HO_112; clear BK239; clear BK240; clear HB; have HO_112 := n0_; have BK239 := n1_; have BK240 := n2_; have HB := n3_; clear n0_ n1_ n2_ n3_; (try clear hb); (try clear hb2); (try clear hk); (try clear hi)))
                   go_meet
                   case rel => exact ⟨_, (!t255), (by first | rfl | (simp; done) | (simp [*]; done)), H', ⟨by have := HJ4.out; have := HK2.out; have := HK3.out; have := HK4.out; have := HK5.out; first | omega | exact Nat.le_refl _⟩, ⟨by (with_reducible repeat (first | refine blk_drewN ?_ _ | refine blk_drew ?_ | refine blk_alloc ?_ _)); exact BK239.out⟩, ⟨by (with_reducible repeat (first | refine blk_drewN ?_ _ | refine blk_drew ?_ | refine blk_alloc ?_ _)); exact BK240.out⟩, ⟨by repeat (first | (with_reducible first | exact HB.out | apply below_alloc | apply pw_below_drewN | apply below_drew1 | refine below_set ?_ GE239.out | refine below_set ?_ GE240.out) | exact HB.out)⟩⟩
                  ·rw [if_neg c83] at H
                   have c83b0 : (a1_0 == 11) = false := beq_eq_false_iff_ne.mpr c83
                   have c83b1 : (a1_0 != 11) = true := bne_iff_ne.mpr c83
                   (first | rw [c83b0] | (simp only [i64_w, i32_w]; rw [c83b0]) | skip)
                   have H' := Aside0.mk H
                   clear H
                   have hnb88 := NB240_239.out
                   have hnc88 := NB239_240.out
                   have hcz89_0 : wr.cell? ⟨gb240, 0, none⟩ = some (.int .i64 a1_0) := (blk_cell BK240.out 0).trans rfl
                   have hcz89_1 : wr.cell? ⟨gb240, 1, none⟩ = some (.int .i64 a1_1) := (blk_cell BK240.out 1).trans rfl
                   have hcz89_2 : wr.cell? ⟨gb240, 2, none⟩ = some (.int .i64 a1_2) := (blk_cell BK240.out 2).trans rfl
                   have hcz89_3 : wr.cell? ⟨gb240, 3, none⟩ = some (.int .i64 a1_3) := (blk_cell BK240.out 3).trans rfl
                   have hcz89_4 : wr.cell? ⟨gb240, 4, none⟩ = some (.string a1_4) := (blk_cell BK240.out 4).trans rfl
                   have hcz89_5 : wr.cell? ⟨gb240, 5, none⟩ = some (.slice A1_5 l1_5.length c1_5) := (blk_cell BK240.out 5).trans rfl
                   have hfz89_0 := blk_frozen BK240.out 0
                   have hfz89_1 := blk_frozen BK240.out 1
                   have hfz89_2 := blk_frozen BK240.out 2
                   have hfz89_3 := blk_frozen BK240.out 3
                   have hfz89_4 := blk_frozen BK240.out 4
                   have hfz89_5 := blk_frozen BK240.out 5
                   go_wp2
                   go_meet
                   case rel => exact ⟨_, (false), (by first | rfl | (simp; done) | (simp [*]; done)), H', ⟨by have := HJ4.out; have := HK2.out; have := HK3.out; have := HK4.out; have := HK5.out; first | omega | exact Nat.le_refl _⟩, ⟨by (with_reducible repeat (first | refine blk_drewN ?_ _ | refine blk_drew ?_ | refine blk_alloc ?_ _)); exact BK239.out⟩, ⟨by (with_reducible repeat (first | refine blk_drewN ?_ _ | refine blk_drew ?_ | refine blk_alloc ?_ _)); exact BK240.out⟩, ⟨by repeat (first | (with_reducible first | exact HB.out | apply below_alloc | apply pw_below_drewN | apply below_drew1 | refine below_set ?_ GE239.out | refine below_set ?_ GE240.out) | exact HB.out)⟩⟩
                 case rest =>
                  clear HC82
                  try clear c1
                  try clear c2
                  try clear p2
                  try clear q2
                  try clear hx2
                  try clear c3
                  try clear p3
                  try clear q3
                  try clear hx3
                  try clear c4
                  try clear p4
                  try clear q4
                  try clear hx4
                  try clear c5
                  try clear c6
                  try clear p6
                  try clear q6
                  try clear hx6
                  try clear c7
                  try clear c8
                  try clear c10
                  try clear c10b0
                  try clear c10b1
                  try clear c12
                  try clear c12b0
                  try clear c12b1
                  try clear c12b2
                  try clear c13
                  try clear c14
                  try clear c15
                  try clear c15b0
                  try clear c15b1
                  try clear c16
                  try clear c18
                  try clear c18b0
                  try clear c18b1
                  try clear c19
                  try clear c21
                  try clear c23
                  try clear c24
                  try clear p24
                  try clear q24
                  try clear hx24
                  try clear p25
                  try clear q25
                  try clear hx25
                  try clear c29
                  try clear c29b0
                  try clear c30
                  try clear c30b0
                  try clear c31
                  try clear c31b0
                  try clear c32
                  try clear c32b0
                  try clear c33
                  try clear p33
                  try clear q33
                  try clear hx33
                  try clear c34
                  try clear c34b0
                  try clear c34b1
                  try clear c35
                  try clear c35b0
                  try clear c35b1
                  try clear c36
                  try clear c36b0
                  try clear c37
                  try clear c37b0
                  try clear c38
                  try clear c38b0
                  try clear c39
                  try clear c39b0
                  try clear p40
                  try clear q40
                  try clear hx40
                  try clear c41
                  try clear c41b0
                  try clear c41b1
                  try clear c43
                  try clear c44
                  try clear c47
                  try clear c51
                  try clear c52
                  try clear c56
                  try clear c60
                  try clear c60b0
                  try clear c61
                  try clear c61b0
                  try clear c62
                  try clear c62b0
                  try clear c63
                  try clear c63b0
                  try clear p64
                  try clear q64
                  try clear hx64
                  try clear c65
                  try clear c65b0
                  try clear c65b1
                  try clear c66
                  try clear c66b0
                  try clear c67
                  try clear c67b0
                  try clear c69
                  try clear c73
                  try clear c73b0
                  try clear c74
                  try clear c74b0
                  try clear c75
                  try clear c75b0
                  try clear c76
                  try clear c76b0
                  try clear c77
                  try clear c77b0
                  try clear c78
                  try clear c80
                  try clear c83
                  try clear c83b0
                  try clear c83b1
                  try clear c85
                  try clear c88
                  try clear hcz14_0
                  try clear hcz14_1
                  try clear hcz14_2
                  try clear hcz14_3
                  try clear hcz14_4
                  try clear hcz14_5
                  try clear hcz17_0
                  try clear hcz17_1
                  try clear hcz17_2
                  try clear hcz17_3
                  try clear hcz17_4
                  try clear hcz17_5
                  try clear hcz20_0
                  try clear hcz20_1
                  try clear hcz20_2
                  try clear hcz20_3
                  try clear hcz20_4
                  try clear hcz20_5
                  try clear hcz22_0
                  try clear hcz22_1
                  try clear hcz22_2
                  try clear hcz22_3
                  try clear hcz22_4
                  try clear hcz22_5
                  try clear hcz25_0
                  try clear hcz25_1
                  try clear hcz25_2
                  try clear hcz25_3
                  try clear hcz25_4
                  try clear hcz25_5
                  try clear hcz45_0
                  try clear hcz45_1
                  try clear hcz45_2
                  try clear hcz45_3
                  try clear hcz48_0
                  try clear hcz48_1
                  try clear hcz48_2
                  try clear hcz48_3
                  try clear hcz53_0
                  try clear hcz53_1
                  try clear hcz53_2
                  try clear hcz53_3
                  try clear hcz53_4
                  try clear hcz53_5
                  try clear hcz54_0
                  try clear hcz54_1
                  try clear hcz54_2
                  try clear hcz54_3
                  try clear hcz57_0
                  try clear hcz57_1
                  try clear hcz57_2
                  try clear hcz57_3
                  try clear hcz57_4
                  try clear hcz57_5
                  try clear hcz58_0
                  try clear hcz58_1
                  try clear hcz58_2
                  try clear hcz58_3
                  try clear hcz70_0
                  try clear hcz70_1
                  try clear hcz70_2
                  try clear hcz70_3
                  try clear hcz70_4
                  try clear hcz70_5
                  try clear hcz79_0
                  try clear hcz79_1
                  try clear hcz79_2
                  try clear hcz79_3
                  try clear hcz81_0
                  try clear hcz81_1
                  try clear hcz81_2
                  try clear hcz81_3
                  try clear hcz86_0
                  try clear hcz86_1
                  try clear hcz86_2
                  try clear hcz86_3
                  try clear hcz86_4
                  try clear hcz86_5
                  try clear hcz89_0
                  try clear hcz89_1
                  try clear hcz89_2
                  try clear hcz89_3
                  try clear hcz89_4
                  try clear hcz89_5
                  try clear hcz9_0
                  try clear hcz9_1
                  try clear hcz9_2
                  try clear hcz9_3
                  try clear hcz9_4
                  try clear hcz9_5
                  try clear hfz14_0
                  try clear hfz14_1
                  try clear hfz14_2
                  try clear hfz14_3
                  try clear hfz14_4
                  try clear hfz14_5
                  try clear hfz17_0
                  try clear hfz17_1
                  try clear hfz17_2
                  try clear hfz17_3
                  try clear hfz17_4
                  try clear hfz17_5
                  try clear hfz20_0
                  try clear hfz20_1
                  try clear hfz20_2
                  try clear hfz20_3
                  try clear hfz20_4
                  try clear hfz20_5
                  try clear hfz22_0
                  try clear hfz22_1
                  try clear hfz22_2
                  try clear hfz22_3
                  try clear hfz22_4
                  try clear hfz22_5
                  try clear hfz25_0
                  try clear hfz25_1
                  try clear hfz25_2
                  try clear hfz25_3
                  try clear hfz25_4
                  try clear hfz25_5
                  try clear hfz45_0
                  try clear hfz45_1
                  try clear hfz45_2
                  try clear hfz45_3
                  try clear hfz48_0
                  try clear hfz48_1
                  try clear hfz48_2
                  try clear hfz48_3
                  try clear hfz53_0
                  try clear hfz53_1
                  try clear hfz53_2
                  try clear hfz53_3
                  try clear hfz53_4
                  try clear hfz53_5
                  try clear hfz54_0
                  try clear hfz54_1
                  try clear hfz54_2
                  try clear hfz54_3
                  try clear hfz57_0
                  try clear hfz57_1
                  try clear hfz57_2
                  try clear hfz57_3
                  try clear hfz57_4
                  try clear hfz57_5
                  try clear hfz58_0
                  try clear hfz58_1
                  try clear hfz58_2
                  try clear hfz58_3
                  try clear hfz70_0
                  try clear hfz70_1
                  try clear hfz70_2
                  try clear hfz70_3
                  try clear hfz70_4
                  try clear hfz70_5
                  try clear hfz79_0
                  try clear hfz79_1
                  try clear hfz79_2
                  try clear hfz79_3
                  try clear hfz81_0
                  try clear hfz81_1
                  try clear hfz81_2
                  try clear hfz81_3
                  try clear hfz86_0
                  try clear hfz86_1
                  try clear hfz86_2
                  try clear hfz86_3
                  try clear hfz86_4
                  try clear hfz86_5
                  try clear hfz89_0
                  try clear hfz89_1
                  try clear hfz89_2
                  try clear hfz89_3
                  try clear hfz89_4
                  try clear hfz89_5
                  try clear hfz9_0
                  try clear hfz9_1
                  try clear hfz9_2
                  try clear hfz9_3
                  try clear hfz9_4
                  try clear hfz9_5
                  try clear hx246_0
                  try clear hx247_0
                  try clear hx250_0
                  try clear hx254_0
                  try clear p2
                  try clear p24
                  try clear p246
                  try clear p247
                  try clear p25
                  try clear p250
                  try clear p254
                  try clear p3
                  try clear p33
                  try clear p4
                  try clear p40
                  try clear p6
                  try clear p64
                  try clear q2
                  try clear q24
                  try clear q246
                  try clear q247
                  try clear q25
                  try clear q250
                  try clear q254
                  try clear q3
                  try clear q33
                  try clear q4
                  try clear q40
                  try clear q6
                  try clear q64
                  obtain ⟨kq, x128_81, rfl, HA, HJ81, BK239, BK240, HB⟩ := hcut
                  cases kq with
                  | zero => exact absurd HA.out (by simp [ir_one.j5])
                  | succ kj81 =>
                   have H := HA.out
                   clear HA
                   simp only [ir_one.j5] at H
                   by_cases c90 : x128_81 = true
                   ·subst c90
                    have H1 : (some 70) = some r := by rw [if_pos rfl] at H; exact H
                    clear H
                    have H := H1
                    clear H1
                    obtain rfl := Option.some.inj H
                    go_wp2
                    go_ret
                    exact ⟨by first | rfl | (simp [errW_none, errW_some] <;> rfl) | (simp [*, errW_none, errW_some] <;> rfl), by repeat (first | (with_reducible first | exact HB.out | apply below_alloc | apply pw_below_drewN | apply below_drew1 | refine below_set ?_ GE239.out | refine below_set ?_ GE240.out) | exact HB.out)⟩
                   ·replace c90 := Bool.eq_false_iff.mpr c90
                    subst c90
                    have H1 : (if (l1_5.length : Int) > 4 then (some 192) else (some 0)) = some r := by rw [if_neg (show ¬ (false = true) by decide)] at H; exact H
                    clear H
                    have H := H1
                    clear H1
                    by_cases c91 : (l1_5.length : Int) > 4
                    ·rw [if_pos c91] at H
                     have c91b0 : decide (4 < (l1_5.length : Int)) = true := decide_eq_true c91
                     have c91b1 : decide (4 < l1_5.length) = true := decide_eq_true (by omega)
                     clear c91
                     obtain rfl := Option.some.inj H
                     have hnb92 := NB240_239.out
                     have hnc92 := NB239_240.out
                     have hcz93_0 : wc.cell? ⟨gb240, 0, none⟩ = some (.int .i64 a1_0) := (blk_cell BK240.out 0).trans rfl
                     have hcz93_1 : wc.cell? ⟨gb240, 1, none⟩ = some (.int .i64 a1_1) := (blk_cell BK240.out 1).trans rfl
                     have hcz93_2 : wc.cell? ⟨gb240, 2, none⟩ = some (.int .i64 a1_2) := (blk_cell BK240.out 2).trans rfl
                     have hcz93_3 : wc.cell? ⟨gb240, 3, none⟩ = some (.int .i64 a1_3) := (blk_cell BK240.out 3).trans rfl
                     have hcz93_4 : wc.cell? ⟨gb240, 4, none⟩ = some (.string a1_4) := (blk_cell BK240.out 4).trans rfl
                     have hcz93_5 : wc.cell? ⟨gb240, 5, none⟩ = some (.slice A1_5 l1_5.length c1_5) := (blk_cell BK240.out 5).trans rfl
                     have hfz93_0 := blk_frozen BK240.out 0
                     have hfz93_1 := blk_frozen BK240.out 1
                     have hfz93_2 := blk_frozen BK240.out 2
                     have hfz93_3 := blk_frozen BK240.out 3
                     have hfz93_4 := blk_frozen BK240.out 4
                     have hfz93_5 := blk_frozen BK240.out 5
                     go_wp2
                     go_ret
                     exact ⟨by first | rfl | (simp [errW_none, errW_some] <;> rfl) | (simp [*, errW_none, errW_some] <;> rfl), by repeat (first | (with_reducible first | exact HB.out | apply below_alloc | apply pw_below_drewN | apply below_drew1 | refine below_set ?_ GE239.out | refine below_set ?_ GE240.out) | exact HB.out)⟩
                    ·rw [if_neg c91] at H
                     have c91b0 : decide (4 < (l1_5.length : Int)) = false := decide_eq_false c91
                     have c91b1 : decide (4 < l1_5.length) = false := decide_eq_false (by omega)
                     clear c91
                     obtain rfl := Option.some.inj H
                     have hnb94 := NB240_239.out
                     have hnc94 := NB239_240.out
                     have hcz95_0 : wc.cell? ⟨gb240, 0, none⟩ = some (.int .i64 a1_0) := (blk_cell BK240.out 0).trans rfl
                     have hcz95_1 : wc.cell? ⟨gb240, 1, none⟩ = some (.int .i64 a1_1) := (blk_cell BK240.out 1).trans rfl
                     have hcz95_2 : wc.cell? ⟨gb240, 2, none⟩ = some (.int .i64 a1_2) := (blk_cell BK240.out 2).trans rfl
                     have hcz95_3 : wc.cell? ⟨gb240, 3, none⟩ = some (.int .i64 a1_3) := (blk_cell BK240.out 3).trans rfl
                     have hcz95_4 : wc.cell? ⟨gb240, 4, none⟩ = some (.string a1_4) := (blk_cell BK240.out 4).trans rfl
                     have hcz95_5 : wc.cell? ⟨gb240, 5, none⟩ = some (.slice A1_5 l1_5.length c1_5) := (blk_cell BK240.out 5).trans rfl
                     have hfz95_0 := blk_frozen BK240.out 0
                     have hfz95_1 := blk_frozen BK240.out 1
                     have hfz95_2 := blk_frozen BK240.out 2
                     have hfz95_3 := blk_frozen BK240.out 3
                     have hfz95_4 := blk_frozen BK240.out 4
                     have hfz95_5 := blk_frozen BK240.out 5
                     go_wp2
                     go_ret
                     exact ⟨by first | rfl | (simp [errW_none, errW_some] <;> rfl) | (simp [*, errW_none, errW_some] <;> rfl), by repeat (first | (with_reducible first | exact HB.out | apply below_alloc | apply pw_below_drewN | apply below_drew1 | refine below_set ?_ GE239.out | refine below_set ?_ GE240.out) | exact HB.out)⟩

end Go.Proofs.YtgmklfaknomakaaDoor.Q
namespace Go.Proofs.YtgmklfaknomakaaDoor.Q
open Go.RowKit Go.Proofs.YtgmklfaknomakaaDoorW.PrintWords Go.Proofs.YtgmklfaknomakaaDoorW.PrintLast Go.Proofs.YtgmklfaknomakaaDoorW.PrintMore
attribute [local go_sem] max2_int min2_int max_two min_two max_three min_three max_four min_four   -- for this text's walks alone
set_option linter.unusedVariables false
set_option linter.unusedSimpArgs false

/-! ### ir_Check: function 28 -/
mutual
def ir_Check.j0 : Nat → Bool → ByteArray → Int → Int → List (List (SIns)) → Option (Int)
 | 0, _, _, _, _, _ => none
 | k + 1, x46, x257000, x257001, x257002, x257003 => if x46 = true then (some 71) else (ir_Check.l0 k 200 x257003 (x257003.length : Int) 0 x257000 x257001 x257002 x257003)
def ir_Check.l0 : Nat → Int → List (List (SIns)) → Int → Int → ByteArray → Int → Int → List (List (SIns)) → Option (Int)
 | 0, _, _, _, _, _, _, _, _ => none
 | k + 1, x3, x48, x49, x50, x257000, x257001, x257002, x257003 => if x50 < x49 then (if 0 ≤ x50 then (if x50 < (x48.length : Int) then (if ((rd_LIns x48 x50).length : Int) = 0 then (some 71) else (if ((rd_LIns x48 x50).length : Int) > x3 then (some 71) else (ir_Check.l0 k (wrap64 (x3 - ((rd_LIns x48 x50).length : Int))) x48 x49 (wrap64 (x50 + 1)) x257000 x257001 x257002 x257003))) else (none)) else (none)) else (ir_Check.l1 k x257003 (x257003.length : Int) 0 x257000 x257001 x257002 x257003)
def ir_Check.l1 : Nat → List (List (SIns)) → Int → Int → ByteArray → Int → Int → List (List (SIns)) → Option (Int)
 | 0, _, _, _, _, _, _, _ => none
 | k + 1, x69, x70, x71, x257000, x257001, x257002, x257003 => if x71 < x70 then (if 0 ≤ x71 then (if x71 < (x69.length : Int) then (ir_Check.l2 k (rd_LIns x69 x71) x69 x70 x71 (rd_LIns x69 x71) ((rd_LIns x69 x71).length : Int) 0 x257000 x257001 x257002 x257003) else (none)) else (none)) else (some 0)
def ir_Check.l2 : Nat → List (SIns) → List (List (SIns)) → Int → Int → List (SIns) → Int → Int → ByteArray → Int → Int → List (List (SIns)) → Option (Int)
 | 0, _, _, _, _, _, _, _, _, _, _, _ => none
 | k + 1, x7, x69, x70, x71, x75, x76, x77, x257000, x257001, x257002, x257003 => if x77 < x76 then (if 0 ≤ x77 then (if x77 < (x75.length : Int) then ((ir_one.f k x257000 x257001 x257002 x257003 ((rd_TIns x75 x77).f0) ((rd_TIns x75 x77).f1) ((rd_TIns x75 x77).f2) ((rd_TIns x75 x77).f3) ((rd_TIns x75 x77).f4) ((rd_TIns x75 x77).f5) (x77 == (wrap64 ((x7.length : Int) - 1)))).bind fun t262 => (if t262 = 0 then (ir_Check.l2 k x7 x69 x70 x71 x75 x76 (wrap64 (x77 + 1)) x257000 x257001 x257002 x257003) else (some t262))) else (none)) else (none)) else (ir_Check.l1 k x69 x70 (wrap64 (x71 + 1)) x257000 x257001 x257002 x257003)
end
def ir_Check.f (k : Nat) (a0_0 : ByteArray) (a0_1 : Int) (a0_2 : Int) (l0_3 : List (List (SIns))) : Option (Int) := (ir_Name.f a0_0).bind fun t257 => (if t257 = true then (if a0_1 < 0 then (ir_Check.j0 k true a0_0 a0_1 a0_2 l0_3) else (if a0_1 > 4 then (ir_Check.j0 k true a0_0 a0_1 a0_2 l0_3) else (if a0_2 < a0_1 then (ir_Check.j0 k true a0_0 a0_1 a0_2 l0_3) else (if a0_2 > 64 then (ir_Check.j0 k true a0_0 a0_1 a0_2 l0_3) else (if (l0_3.length : Int) < 1 then (ir_Check.j0 k true a0_0 a0_1 a0_2 l0_3) else (ir_Check.j0 k (decide ((l0_3.length : Int) > 32)) a0_0 a0_1 a0_2 l0_3)))))) else (some 70))
theorem ir_Check.mono_l : ∀ k, (∀ y0 y1 y2 y3 y4, LeO (ir_Check.j0 k y0 y1 y2 y3 y4) (ir_Check.j0 (k + 1) y0 y1 y2 y3 y4)) ∧ (∀ y0 y1 y2 y3 y4 y5 y6 y7, LeO (ir_Check.l0 k y0 y1 y2 y3 y4 y5 y6 y7) (ir_Check.l0 (k + 1) y0 y1 y2 y3 y4 y5 y6 y7)) ∧ (∀ y0 y1 y2 y3 y4 y5 y6, LeO (ir_Check.l1 k y0 y1 y2 y3 y4 y5 y6) (ir_Check.l1 (k + 1) y0 y1 y2 y3 y4 y5 y6)) ∧ (∀ y0 y1 y2 y3 y4 y5 y6 y7 y8 y9 y10, LeO (ir_Check.l2 k y0 y1 y2 y3 y4 y5 y6 y7 y8 y9 y10) (ir_Check.l2 (k + 1) y0 y1 y2 y3 y4 y5 y6 y7 y8 y9 y10))
 | 0 => ⟨fun _ _ _ _ _ r h => by simp [ir_Check.j0] at h, fun _ _ _ _ _ _ _ _ r h => by simp [ir_Check.l0] at h, fun _ _ _ _ _ _ _ r h => by simp [ir_Check.l1] at h, fun _ _ _ _ _ _ _ _ _ _ _ r h => by simp [ir_Check.l2] at h⟩
 | k + 1 => by
  obtain ⟨ih0, ih1, ih2, ih3⟩ := ir_Check.mono_l k
  refine ⟨?_, ?_, ?_, ?_⟩
  ·intro y0 y1 y2 y3 y4
   unfold ir_Check.j0
   repeat' first
   | (with_reducible exact ih0 _ _ _ _ _)
   | (with_reducible exact ih1 _ _ _ _ _ _ _ _)
   | (with_reducible exact ih2 _ _ _ _ _ _ _)
   | (with_reducible exact ih3 _ _ _ _ _ _ _ _ _ _ _)
   | (with_reducible exact ir_one.mono _ _ _ _ _ _ _ _ _ _ _ _)
   | (with_reducible exact LeO.refl _)
   | (with_reducible exact LeO.none _)
   | (with_reducible refine LeO.ite ?_ ?_)
   | (with_reducible refine LeO.bind ?_ (fun _ => ?_))
   | exact ih0 _ _ _ _ _
   | exact ih1 _ _ _ _ _ _ _ _
   | exact ih2 _ _ _ _ _ _ _
   | exact ih3 _ _ _ _ _ _ _ _ _ _ _
   | exact ir_one.mono _ _ _ _ _ _ _ _ _ _ _ _
   | exact LeO.none _
   | refine LeO.ite ?_ ?_
   | refine LeO.bind ?_ (fun _ => ?_)
  ·intro y0 y1 y2 y3 y4 y5 y6 y7
   unfold ir_Check.l0
   repeat' first
   | (with_reducible exact ih0 _ _ _ _ _)
   | (with_reducible exact ih1 _ _ _ _ _ _ _ _)
   | (with_reducible exact ih2 _ _ _ _ _ _ _)
   | (with_reducible exact ih3 _ _ _ _ _ _ _ _ _ _ _)
   | (with_reducible exact ir_one.mono _ _ _ _ _ _ _ _ _ _ _ _)
   | (with_reducible exact LeO.refl _)
   | (with_reducible exact LeO.none _)
   | (with_reducible refine LeO.ite ?_ ?_)
   | (with_reducible refine LeO.bind ?_ (fun _ => ?_))
   | exact ih0 _ _ _ _ _
   | exact ih1 _ _ _ _ _ _ _ _
   | exact ih2 _ _ _ _ _ _ _
   | exact ih3 _ _ _ _ _ _ _ _ _ _ _
   | exact ir_one.mono _ _ _ _ _ _ _ _ _ _ _ _
   | exact LeO.none _
   | refine LeO.ite ?_ ?_
   | refine LeO.bind ?_ (fun _ => ?_)
  ·intro y0 y1 y2 y3 y4 y5 y6
   unfold ir_Check.l1
   repeat' first
   | (with_reducible exact ih0 _ _ _ _ _)
   | (with_reducible exact ih1 _ _ _ _ _ _ _ _)
   | (with_reducible exact ih2 _ _ _ _ _ _ _)
   | (with_reducible exact ih3 _ _ _ _ _ _ _ _ _ _ _)
   | (with_reducible exact ir_one.mono _ _ _ _ _ _ _ _ _ _ _ _)
   | (with_reducible exact LeO.refl _)
   | (with_reducible exact LeO.none _)
   | (with_reducible refine LeO.ite ?_ ?_)
   | (with_reducible refine LeO.bind ?_ (fun _ => ?_))
   | exact ih0 _ _ _ _ _
   | exact ih1 _ _ _ _ _ _ _ _
   | exact ih2 _ _ _ _ _ _ _
   | exact ih3 _ _ _ _ _ _ _ _ _ _ _
   | exact ir_one.mono _ _ _ _ _ _ _ _ _ _ _ _
   | exact LeO.none _
   | refine LeO.ite ?_ ?_
   | refine LeO.bind ?_ (fun _ => ?_)
  ·intro y0 y1 y2 y3 y4 y5 y6 y7 y8 y9 y10
   unfold ir_Check.l2
   repeat' first
   | (with_reducible exact ih0 _ _ _ _ _)
   | (with_reducible exact ih1 _ _ _ _ _ _ _ _)
   | (with_reducible exact ih2 _ _ _ _ _ _ _)
   | (with_reducible exact ih3 _ _ _ _ _ _ _ _ _ _ _)
   | (with_reducible exact ir_one.mono _ _ _ _ _ _ _ _ _ _ _ _)
   | (with_reducible exact LeO.refl _)
   | (with_reducible exact LeO.none _)
   | (with_reducible refine LeO.ite ?_ ?_)
   | (with_reducible refine LeO.bind ?_ (fun _ => ?_))
   | exact ih0 _ _ _ _ _
   | exact ih1 _ _ _ _ _ _ _ _
   | exact ih2 _ _ _ _ _ _ _
   | exact ih3 _ _ _ _ _ _ _ _ _ _ _
   | exact ir_one.mono _ _ _ _ _ _ _ _ _ _ _ _
   | exact LeO.none _
   | refine LeO.ite ?_ ?_
   | refine LeO.bind ?_ (fun _ => ?_)
theorem ir_Check.mono : ∀ a0 a1 a2 a3 k, LeO (ir_Check.f k a0 a1 a2 a3) (ir_Check.f (k + 1) a0 a1 a2 a3) := by
 intro a0 a1 a2 a3 k
 obtain ⟨ih0, ih1, ih2, ih3⟩ := ir_Check.mono_l k
 unfold ir_Check.f
 repeat' first
   | (with_reducible exact ih0 _ _ _ _ _)
   | (with_reducible exact ih1 _ _ _ _ _ _ _ _)
   | (with_reducible exact ih2 _ _ _ _ _ _ _)
   | (with_reducible exact ih3 _ _ _ _ _ _ _ _ _ _ _)
   | (with_reducible exact ir_one.mono _ _ _ _ _ _ _ _ _ _ _ _)
   | (with_reducible exact LeO.refl _)
   | (with_reducible exact LeO.none _)
   | (with_reducible refine LeO.ite ?_ ?_)
   | (with_reducible refine LeO.bind ?_ (fun _ => ?_))
   | exact ih0 _ _ _ _ _
   | exact ih1 _ _ _ _ _ _ _ _
   | exact ih2 _ _ _ _ _ _ _
   | exact ih3 _ _ _ _ _ _ _ _ _ _ _
   | exact ir_one.mono _ _ _ _ _ _ _ _ _ _ _ _
   | exact LeO.none _
   | refine LeO.ite ?_ ?_
   | refine LeO.bind ?_ (fun _ => ?_)
set_option maxHeartbeats 8000000 in
set_option maxRecDepth 100000 in
theorem ir_Check.calls (k : Nat) (a0_0 : ByteArray) (a0_1 : Int) (a0_2 : Int) (A0_3 : Option Addr) (c0_3 : Nat) (l0_3 : List (List (SIns))) (r : Int) (w : World) (hL : LaidW w) (hr0_3 : Kd.C (Kd.slice 24 kIns) w A0_3 l0_3.length l0_3) (hc0_3 : l0_3.length ≤ c0_3) (h : ir_Check.f k a0_0 a0_1 a0_2 l0_3 = some r) :
  Calls Tryd.prog 28 #[.agg #[.string a0_0, .int .i64 a0_1, .int .i64 a0_2, .slice A0_3 l0_3.length c0_3]] w fun e w' => e = .returned (.int .i64 r) ∧ Below w.heap.size w w' := by
 have hu34 := Tryd.underlying34
 have hu24 := Tryd.underlying24
 have HR0_3 := Aside0.mk hr0_3
 have HC0_3 := Aside0.mk hc0_3
 clear hr0_3 hc0_3
 have HB := Aside0.mk (Below.refl w.heap.size w)
 have HLd := Aside0.mk hL
 clear hL
 have H : ((ir_Name.f a0_0).bind fun t257 => (if t257 = true then (if a0_1 < 0 then (ir_Check.j0 k true a0_0 a0_1 a0_2 l0_3) else (if a0_1 > 4 then (ir_Check.j0 k true a0_0 a0_1 a0_2 l0_3) else (if a0_2 < a0_1 then (ir_Check.j0 k true a0_0 a0_1 a0_2 l0_3) else (if a0_2 > 64 then (ir_Check.j0 k true a0_0 a0_1 a0_2 l0_3) else (if (l0_3.length : Int) < 1 then (ir_Check.j0 k true a0_0 a0_1 a0_2 l0_3) else (ir_Check.j0 k (decide ((l0_3.length : Int) > 32)) a0_0 a0_1 a0_2 l0_3)))))) else (some 70))) = some r := h
 clear h
 replace H := Option.bind_eq_some_iff.mp H
 obtain ⟨t257, A20, H⟩ := H
 replace H : (if t257 = true then (if a0_1 < 0 then (ir_Check.j0 k true a0_0 a0_1 a0_2 l0_3) else (if a0_1 > 4 then (ir_Check.j0 k true a0_0 a0_1 a0_2 l0_3) else (if a0_2 < a0_1 then (ir_Check.j0 k true a0_0 a0_1 a0_2 l0_3) else (if a0_2 > 64 then (ir_Check.j0 k true a0_0 a0_1 a0_2 l0_3) else (if (l0_3.length : Int) < 1 then (ir_Check.j0 k true a0_0 a0_1 a0_2 l0_3) else (ir_Check.j0 k (decide ((l0_3.length : Int) > 32)) a0_0 a0_1 a0_2 l0_3)))))) else (some 70)) = some r := H
 have A2 := Aside0.mk A20
 clear A20
 by_cases c3 : t257 = true
 ·subst c3
  have H1 : (if a0_1 < 0 then (ir_Check.j0 k true a0_0 a0_1 a0_2 l0_3) else (if a0_1 > 4 then (ir_Check.j0 k true a0_0 a0_1 a0_2 l0_3) else (if a0_2 < a0_1 then (ir_Check.j0 k true a0_0 a0_1 a0_2 l0_3) else (if a0_2 > 64 then (ir_Check.j0 k true a0_0 a0_1 a0_2 l0_3) else (if (l0_3.length : Int) < 1 then (ir_Check.j0 k true a0_0 a0_1 a0_2 l0_3) else (ir_Check.j0 k (decide ((l0_3.length : Int) > 32)) a0_0 a0_1 a0_2 l0_3)))))) = some r := by rw [if_pos rfl] at H; exact H
  clear H
  have H := H1
  clear H1
  have HC4 := Aside0.mk H
  clear H
  go_enter Tryd.func28, Tryd.ntmps28
  go_upto_region 3 with (first | ((with_reducible refine gate_dst (N := 1) rfl ?_); (try (refine gate_guard (by rfl) ?_; dsimp only)); refine box_event ?hg (N := 1) ?hd (cs := #[.string a0_0, .int .i64 a0_1, .int .i64 a0_2, .slice A0_3 l0_3.length c0_3]) (t := 34) ?hr ?_; (case hd => rfl); (case hg => rfl); (case hr => first | (go_simp; done) | (go_simp; rfl)); intro gb256 hg w5 hbox hb; have n0_ := Aside0.mk (below_step (by repeat (first | (with_reducible first | exact HB.out | apply below_alloc | apply pw_below_drewN | apply below_drew1) | exact HB.out)) hb); have n1_ := Aside0.mk (hbox); have n2_ := Aside0.mk ((by rw [hg]; exact (below_size (by repeat (first | (with_reducible first | exact HB.out | apply below_alloc | apply pw_below_drewN | apply below_drew1) | exact HB.out))) : w.heap.size ≤ gb256)); have n3_ := Aside0.mk ((by rw [hg]; exact (below_size (by repeat (first | (with_reducible first | exact HB.out | apply below_alloc | apply pw_below_drewN | apply below_drew1) | exact HB.out))) : w.heap.size ≤ gb256)); clear HB; have HB := n0_; have BK256 := n1_; have GW256 := n2_; have GE256 := n3_; clear n0_ n1_ n2_ n3_; clear hb hbox hg; have hcz6_0 : w5.cell? ⟨gb256, 0, none⟩ = some (.string a0_0) := (blk_cell BK256.out 0).trans rfl; have hcz6_1 : w5.cell? ⟨gb256, 1, none⟩ = some (.int .i64 a0_1) := (blk_cell BK256.out 1).trans rfl; have hcz6_2 : w5.cell? ⟨gb256, 2, none⟩ = some (.int .i64 a0_2) := (blk_cell BK256.out 2).trans rfl; have hcz6_3 : w5.cell? ⟨gb256, 3, none⟩ = some (.slice A0_3 l0_3.length c0_3) := (blk_cell BK256.out 3).trans rfl; have hfz6_0 := blk_frozen BK256.out 0; have hfz6_1 := blk_frozen BK256.out 1; have hfz6_2 := blk_frozen BK256.out 2; have hfz6_3 := blk_frozen BK256.out 3) | ((with_reducible refine gate_callee (f := 25) rfl ?_); refine goesL_ (some 13) rfl rfl Tryd.func25 (by kernel_rfl) rfl #[.string a0_0] rfl (by (try simp only [List.map_toArray, List.map_cons, List.map_nil]); first | done | rfl | (simp only [List.length_drop, List.length_take]; rfl)) ?_; (with_reducible refine (ir_Name.calls a0_0 true _ A2.out).mono ?_); rintro e w7 ⟨rfl, hb⟩; refine ⟨_, rfl, ?_⟩; have n0_ := Aside0.mk (blk_below (g := gb256) (o := .cells #[.string a0_0, .int .i64 a0_1, .int .i64 a0_2, .slice A0_3 l0_3.length c0_3] 34 (0, 0)) (by (with_reducible repeat (first | refine blk_drewN ?_ _ | refine blk_drew ?_ | refine blk_alloc ?_ _)); exact BK256.out) hb); have n1_ := Aside0.mk (below_step (by repeat (first | (with_reducible first | exact HB.out | apply below_alloc | apply pw_below_drewN | apply below_drew1 | refine below_set ?_ GE256.out) | exact HB.out)) hb); clear BK256; clear HB; have BK256 := n0_; have HB := n1_; clear n0_ n1_; (try clear hb); (try clear hb2); (try clear hk); (try clear hi)))
  (try simp only [Act.put, List.setIfInBounds_toArray, List.set_cons_zero, List.set_cons_succ])
  go_cut [46] (fun v46 wc => ∃ (kq : Nat) (x46_3 : Bool), v46 = .bool x46_3 ∧ Aside0 (ir_Check.j0 kq x46_3 a0_0 a0_1 a0_2 l0_3 = some r) ∧ Aside0 (kq ≤ k) ∧ Aside0 (wc.heap[gb256]? = some (.cells #[.string a0_0, .int .i64 a0_1, .int .i64 a0_2, (.slice A0_3 l0_3.length c0_3)] 34 (0, 0))) ∧ Aside0 (Below w.heap.size w wc))
  case first =>
   have H := HC4.out
   clear HC4
   by_cases c8 : a0_1 < 0
   ·rw [if_pos c8] at H
    have c8b0 : decide (a0_1 < 0) = true := decide_eq_true c8
    clear c8
    (first | rw [c8b0] | (simp only [i64_w, i32_w]; rw [c8b0]) | skip)
    have H' := Aside0.mk H
    clear H
    have hcz9_0 : w7.cell? ⟨gb256, 0, none⟩ = some (.string a0_0) := (blk_cell BK256.out 0).trans rfl
    have hcz9_1 : w7.cell? ⟨gb256, 1, none⟩ = some (.int .i64 a0_1) := (blk_cell BK256.out 1).trans rfl
    have hcz9_2 : w7.cell? ⟨gb256, 2, none⟩ = some (.int .i64 a0_2) := (blk_cell BK256.out 2).trans rfl
    have hcz9_3 : w7.cell? ⟨gb256, 3, none⟩ = some (.slice A0_3 l0_3.length c0_3) := (blk_cell BK256.out 3).trans rfl
    have hfz9_0 := blk_frozen BK256.out 0
    have hfz9_1 := blk_frozen BK256.out 1
    have hfz9_2 := blk_frozen BK256.out 2
    have hfz9_3 := blk_frozen BK256.out 3
    go_wp2
    go_meet
    case rel => exact ⟨_, (true), (by first | rfl | (simp; done) | (simp [*]; done)), H', ⟨by first | omega | exact Nat.le_refl _⟩, ⟨by (with_reducible repeat (first | refine blk_drewN ?_ _ | refine blk_drew ?_ | refine blk_alloc ?_ _)); exact BK256.out⟩, ⟨by repeat (first | (with_reducible first | exact HB.out | apply below_alloc | apply pw_below_drewN | apply below_drew1 | refine below_set ?_ GE256.out) | exact HB.out)⟩⟩
   ·rw [if_neg c8] at H
    have c8b0 : decide (a0_1 < 0) = false := decide_eq_false c8
    clear c8
    (first | rw [c8b0] | (simp only [i64_w, i32_w]; rw [c8b0]) | skip)
    by_cases c10 : a0_1 > 4
    ·rw [if_pos c10] at H
     have c10b0 : decide (4 < a0_1) = true := decide_eq_true c10
     clear c10
     have H' := Aside0.mk H
     clear H
     have hcz11_0 : w7.cell? ⟨gb256, 0, none⟩ = some (.string a0_0) := (blk_cell BK256.out 0).trans rfl
     have hcz11_1 : w7.cell? ⟨gb256, 1, none⟩ = some (.int .i64 a0_1) := (blk_cell BK256.out 1).trans rfl
     have hcz11_2 : w7.cell? ⟨gb256, 2, none⟩ = some (.int .i64 a0_2) := (blk_cell BK256.out 2).trans rfl
     have hcz11_3 : w7.cell? ⟨gb256, 3, none⟩ = some (.slice A0_3 l0_3.length c0_3) := (blk_cell BK256.out 3).trans rfl
     have hfz11_0 := blk_frozen BK256.out 0
     have hfz11_1 := blk_frozen BK256.out 1
     have hfz11_2 := blk_frozen BK256.out 2
     have hfz11_3 := blk_frozen BK256.out 3
     go_wp2
     go_meet
     case rel => exact ⟨_, (true), (by first | rfl | (simp; done) | (simp [*]; done)), H', ⟨by first | omega | exact Nat.le_refl _⟩, ⟨by (with_reducible repeat (first | refine blk_drewN ?_ _ | refine blk_drew ?_ | refine blk_alloc ?_ _)); exact BK256.out⟩, ⟨by repeat (first | (with_reducible first | exact HB.out | apply below_alloc | apply pw_below_drewN | apply below_drew1 | refine below_set ?_ GE256.out) | exact HB.out)⟩⟩
    ·rw [if_neg c10] at H
     have c10b0 : decide (4 < a0_1) = false := decide_eq_false c10
     clear c10
     by_cases c12 : a0_2 < a0_1
     ·rw [if_pos c12] at H
      have c12b0 : decide (a0_2 < a0_1) = true := decide_eq_true c12
      clear c12
      have H' := Aside0.mk H
      clear H
      have hcz13_0 : w7.cell? ⟨gb256, 0, none⟩ = some (.string a0_0) := (blk_cell BK256.out 0).trans rfl
      have hcz13_1 : w7.cell? ⟨gb256, 1, none⟩ = some (.int .i64 a0_1) := (blk_cell BK256.out 1).trans rfl
      have hcz13_2 : w7.cell? ⟨gb256, 2, none⟩ = some (.int .i64 a0_2) := (blk_cell BK256.out 2).trans rfl
      have hcz13_3 : w7.cell? ⟨gb256, 3, none⟩ = some (.slice A0_3 l0_3.length c0_3) := (blk_cell BK256.out 3).trans rfl
      have hfz13_0 := blk_frozen BK256.out 0
      have hfz13_1 := blk_frozen BK256.out 1
      have hfz13_2 := blk_frozen BK256.out 2
      have hfz13_3 := blk_frozen BK256.out 3
      go_wp2
      go_meet
      case rel => exact ⟨_, (true), (by first | rfl | (simp; done) | (simp [*]; done)), H', ⟨by first | omega | exact Nat.le_refl _⟩, ⟨by (with_reducible repeat (first | refine blk_drewN ?_ _ | refine blk_drew ?_ | refine blk_alloc ?_ _)); exact BK256.out⟩, ⟨by repeat (first | (with_reducible first | exact HB.out | apply below_alloc | apply pw_below_drewN | apply below_drew1 | refine below_set ?_ GE256.out) | exact HB.out)⟩⟩
     ·rw [if_neg c12] at H
      have c12b0 : decide (a0_2 < a0_1) = false := decide_eq_false c12
      clear c12
      by_cases c14 : a0_2 > 64
      ·rw [if_pos c14] at H
       have c14b0 : decide (64 < a0_2) = true := decide_eq_true c14
       clear c14
       have H' := Aside0.mk H
       clear H
       have hcz15_0 : w7.cell? ⟨gb256, 0, none⟩ = some (.string a0_0) := (blk_cell BK256.out 0).trans rfl
       have hcz15_1 : w7.cell? ⟨gb256, 1, none⟩ = some (.int .i64 a0_1) := (blk_cell BK256.out 1).trans rfl
       have hcz15_2 : w7.cell? ⟨gb256, 2, none⟩ = some (.int .i64 a0_2) := (blk_cell BK256.out 2).trans rfl
       have hcz15_3 : w7.cell? ⟨gb256, 3, none⟩ = some (.slice A0_3 l0_3.length c0_3) := (blk_cell BK256.out 3).trans rfl
       have hfz15_0 := blk_frozen BK256.out 0
       have hfz15_1 := blk_frozen BK256.out 1
       have hfz15_2 := blk_frozen BK256.out 2
       have hfz15_3 := blk_frozen BK256.out 3
       go_wp2
       go_meet
       case rel => exact ⟨_, (true), (by first | rfl | (simp; done) | (simp [*]; done)), H', ⟨by first | omega | exact Nat.le_refl _⟩, ⟨by (with_reducible repeat (first | refine blk_drewN ?_ _ | refine blk_drew ?_ | refine blk_alloc ?_ _)); exact BK256.out⟩, ⟨by repeat (first | (with_reducible first | exact HB.out | apply below_alloc | apply pw_below_drewN | apply below_drew1 | refine below_set ?_ GE256.out) | exact HB.out)⟩⟩
      ·rw [if_neg c14] at H
       have c14b0 : decide (64 < a0_2) = false := decide_eq_false c14
       clear c14
       by_cases c16 : (l0_3.length : Int) < 1
       ·rw [if_pos c16] at H
        have c16b0 : decide ((l0_3.length : Int) < 1) = true := decide_eq_true c16
        have c16b1 : decide (l0_3.length < 1) = true := decide_eq_true (by omega)
        clear c16
        have H' := Aside0.mk H
        clear H
        have hcz17_0 : w7.cell? ⟨gb256, 0, none⟩ = some (.string a0_0) := (blk_cell BK256.out 0).trans rfl
        have hcz17_1 : w7.cell? ⟨gb256, 1, none⟩ = some (.int .i64 a0_1) := (blk_cell BK256.out 1).trans rfl
        have hcz17_2 : w7.cell? ⟨gb256, 2, none⟩ = some (.int .i64 a0_2) := (blk_cell BK256.out 2).trans rfl
        have hcz17_3 : w7.cell? ⟨gb256, 3, none⟩ = some (.slice A0_3 l0_3.length c0_3) := (blk_cell BK256.out 3).trans rfl
        have hfz17_0 := blk_frozen BK256.out 0
        have hfz17_1 := blk_frozen BK256.out 1
        have hfz17_2 := blk_frozen BK256.out 2
        have hfz17_3 := blk_frozen BK256.out 3
        go_wp2
        go_meet
        case rel => exact ⟨_, (true), (by first | rfl | (simp; done) | (simp [*]; done)), H', ⟨by first | omega | exact Nat.le_refl _⟩, ⟨by (with_reducible repeat (first | refine blk_drewN ?_ _ | refine blk_drew ?_ | refine blk_alloc ?_ _)); exact BK256.out⟩, ⟨by repeat (first | (with_reducible first | exact HB.out | apply below_alloc | apply pw_below_drewN | apply below_drew1 | refine below_set ?_ GE256.out) | exact HB.out)⟩⟩
       ·rw [if_neg c16] at H
        have c16b0 : decide ((l0_3.length : Int) < 1) = false := decide_eq_false c16
        have c16b1 : decide (l0_3.length < 1) = false := decide_eq_false (by omega)
        clear c16
        have H' := Aside0.mk H
        clear H
        have hcz18_0 : w7.cell? ⟨gb256, 0, none⟩ = some (.string a0_0) := (blk_cell BK256.out 0).trans rfl
        have hcz18_1 : w7.cell? ⟨gb256, 1, none⟩ = some (.int .i64 a0_1) := (blk_cell BK256.out 1).trans rfl
        have hcz18_2 : w7.cell? ⟨gb256, 2, none⟩ = some (.int .i64 a0_2) := (blk_cell BK256.out 2).trans rfl
        have hcz18_3 : w7.cell? ⟨gb256, 3, none⟩ = some (.slice A0_3 l0_3.length c0_3) := (blk_cell BK256.out 3).trans rfl
        have hfz18_0 := blk_frozen BK256.out 0
        have hfz18_1 := blk_frozen BK256.out 1
        have hfz18_2 := blk_frozen BK256.out 2
        have hfz18_3 := blk_frozen BK256.out 3
        go_wp2
        go_meet
        case rel => exact ⟨_, (decide ((l0_3.length : Int) > 32)), (by first | rfl | (simp; done) | (simp [*]; done)), H', ⟨by first | omega | exact Nat.le_refl _⟩, ⟨by (with_reducible repeat (first | refine blk_drewN ?_ _ | refine blk_drew ?_ | refine blk_alloc ?_ _)); exact BK256.out⟩, ⟨by repeat (first | (with_reducible first | exact HB.out | apply below_alloc | apply pw_below_drewN | apply below_drew1 | refine below_set ?_ GE256.out) | exact HB.out)⟩⟩
  case rest =>
   clear HC4
   try clear c1
   try clear c2
   try clear p2
   try clear c3
   try clear c8
   try clear c8b0
   try clear c10
   try clear c10b0
   try clear c12
   try clear c12b0
   try clear c14
   try clear c14b0
   try clear c16
   try clear c16b0
   try clear c16b1
   try clear hcz11_0
   try clear hcz11_1
   try clear hcz11_2
   try clear hcz11_3
   try clear hcz13_0
   try clear hcz13_1
   try clear hcz13_2
   try clear hcz13_3
   try clear hcz15_0
   try clear hcz15_1
   try clear hcz15_2
   try clear hcz15_3
   try clear hcz17_0
   try clear hcz17_1
   try clear hcz17_2
   try clear hcz17_3
   try clear hcz18_0
   try clear hcz18_1
   try clear hcz18_2
   try clear hcz18_3
   try clear hcz6_0
   try clear hcz6_1
   try clear hcz6_2
   try clear hcz6_3
   try clear hcz9_0
   try clear hcz9_1
   try clear hcz9_2
   try clear hcz9_3
   try clear hfz11_0
   try clear hfz11_1
   try clear hfz11_2
   try clear hfz11_3
   try clear hfz13_0
   try clear hfz13_1
   try clear hfz13_2
   try clear hfz13_3
   try clear hfz15_0
   try clear hfz15_1
   try clear hfz15_2
   try clear hfz15_3
   try clear hfz17_0
   try clear hfz17_1
   try clear hfz17_2
   try clear hfz17_3
   try clear hfz18_0
   try clear hfz18_1
   try clear hfz18_2
   try clear hfz18_3
   try clear hfz6_0
   try clear hfz6_1
   try clear hfz6_2
   try clear hfz6_3
   try clear hfz9_0
   try clear hfz9_1
   try clear hfz9_2
   try clear hfz9_3
   obtain ⟨kq, x46_3, rfl, HA, HJ3, BK256, HB⟩ := hcut
   cases kq with
   | zero => exact absurd HA.out (by simp [ir_Check.j0])
   | succ kj3 =>
    have H := HA.out
    clear HA
    simp only [ir_Check.j0] at H
    by_cases c19 : x46_3 = true
    ·subst c19
     have H1 : (some 71) = some r := by rw [if_pos rfl] at H; exact H
     clear H
     have H := H1
     clear H1
     obtain rfl := Option.some.inj H
     go_wp2
     go_ret
     exact ⟨by first | rfl | (simp [errW_none, errW_some] <;> rfl) | (simp [*, errW_none, errW_some] <;> rfl), by repeat (first | (with_reducible first | exact HB.out | apply below_alloc | apply pw_below_drewN | apply below_drew1 | refine below_set ?_ GE256.out) | exact HB.out)⟩
    ·replace c19 := Bool.eq_false_iff.mpr c19
     subst c19
     have H1 : (ir_Check.l0 kj3 200 l0_3 (l0_3.length : Int) 0 a0_0 a0_1 a0_2 l0_3) = some r := by rw [if_neg (show ¬ (false = true) by decide)] at H; exact H
     clear H
     have H := H1
     clear H1
     have H' := Aside0.mk H
     clear H
     have hcz20_0 : wc.cell? ⟨gb256, 0, none⟩ = some (.string a0_0) := (blk_cell BK256.out 0).trans rfl
     have hcz20_1 : wc.cell? ⟨gb256, 1, none⟩ = some (.int .i64 a0_1) := (blk_cell BK256.out 1).trans rfl
     have hcz20_2 : wc.cell? ⟨gb256, 2, none⟩ = some (.int .i64 a0_2) := (blk_cell BK256.out 2).trans rfl
     have hcz20_3 : wc.cell? ⟨gb256, 3, none⟩ = some (.slice A0_3 l0_3.length c0_3) := (blk_cell BK256.out 3).trans rfl
     have hfz20_0 := blk_frozen BK256.out 0
     have hfz20_1 := blk_frozen BK256.out 1
     have hfz20_2 := blk_frozen BK256.out 2
     have hfz20_3 := blk_frozen BK256.out 3
     go_wp2
     go_loopg [3, 50] kj3 (fun kq v3 v50 w' => ∃ (x3_2 : Int) (x50_2 : Int), v3 = .int .i64 x3_2 ∧ v50 = .int .i64 x50_2 ∧ Aside0 (ir_Check.l0 kq x3_2 l0_3 (l0_3.length : Int) x50_2 a0_0 a0_1 a0_2 l0_3 = some r) ∧ Aside0 (kq ≤ kj3) ∧ Aside0 (w'.heap[gb256]? = some (.cells #[.string a0_0, .int .i64 a0_1, .int .i64 a0_2, (.slice A0_3 l0_3.length c0_3)] 34 (0, 0))) ∧ Aside0 (Below w.heap.size w w'))
     case atStart => exact ⟨(200), (0), (by first | rfl | (simp; done) | (simp [*]; done)), (by first | rfl | (simp; done) | (simp [*]; done)), H', ⟨Nat.le_refl _⟩, ⟨by (with_reducible repeat (first | refine blk_drewN ?_ _ | refine blk_drew ?_ | refine blk_alloc ?_ _)); exact BK256.out⟩, ⟨by repeat (first | (with_reducible first | exact HB.out | apply below_alloc | apply pw_below_drewN | apply below_drew1 | refine below_set ?_ GE256.out) | exact HB.out)⟩⟩
     case round =>
      clear H'
      try clear c1
      try clear c2
      try clear p2
      try clear c3
      try clear c8
      try clear c8b0
      try clear c10
      try clear c10b0
      try clear c12
      try clear c12b0
      try clear c14
      try clear c14b0
      try clear c16
      try clear c16b0
      try clear c16b1
      try clear c19
      try clear hcz11_0
      try clear hcz11_1
      try clear hcz11_2
      try clear hcz11_3
      try clear hcz13_0
      try clear hcz13_1
      try clear hcz13_2
      try clear hcz13_3
      try clear hcz15_0
      try clear hcz15_1
      try clear hcz15_2
      try clear hcz15_3
      try clear hcz17_0
      try clear hcz17_1
      try clear hcz17_2
      try clear hcz17_3
      try clear hcz18_0
      try clear hcz18_1
      try clear hcz18_2
      try clear hcz18_3
      try clear hcz20_0
      try clear hcz20_1
      try clear hcz20_2
      try clear hcz20_3
      try clear hcz6_0
      try clear hcz6_1
      try clear hcz6_2
      try clear hcz6_3
      try clear hcz9_0
      try clear hcz9_1
      try clear hcz9_2
      try clear hcz9_3
      try clear hfz11_0
      try clear hfz11_1
      try clear hfz11_2
      try clear hfz11_3
      try clear hfz13_0
      try clear hfz13_1
      try clear hfz13_2
      try clear hfz13_3
      try clear hfz15_0
      try clear hfz15_1
      try clear hfz15_2
      try clear hfz15_3
      try clear hfz17_0
      try clear hfz17_1
      try clear hfz17_2
      try clear hfz17_3
      try clear hfz18_0
      try clear hfz18_1
      try clear hfz18_2
      try clear hfz18_3
      try clear hfz20_0
      try clear hfz20_1
      try clear hfz20_2
      try clear hfz20_3
      try clear hfz6_0
      try clear hfz6_1
      try clear hfz6_2
      try clear hfz6_3
      try clear hfz9_0
      try clear hfz9_1
      try clear hfz9_2
      try clear hfz9_3
      try clear p2
      obtain ⟨x3_2, x50_2, rfl, rfl, HA, HK2, BK256, HB⟩ := hrel
      cases gk with
      | zero => exact absurd HA.out (by simp [ir_Check.l0])
      | succ k2 =>
       have H := HA.out
       clear HA
       simp only [ir_Check.l0] at H
       by_cases c21 : x50_2 < (l0_3.length : Int)
       ·rw [if_pos c21] at H
        have c21b0 : decide (x50_2 < (l0_3.length : Int)) = true := decide_eq_true c21
        clear c21
        by_cases c22 : 0 ≤ x50_2
        ·rw [if_pos c22] at H
         have c22b0 : decide (0 ≤ x50_2) = true := decide_eq_true c22
         clear c22
         by_cases c23 : x50_2 < (l0_3.length : Int)
         ·rw [if_pos c23] at H
          have c23b0 : decide (x50_2 < (l0_3.length : Int)) = true := decide_eq_true c23
          clear c23
          by_cases c24 : ((rd_LIns l0_3 x50_2).length : Int) = 0
          ·rw [if_pos c24] at H
           have c24b0 : (((rd_LIns l0_3 x50_2).length : Int) == 0) = true := beq_iff_eq.mpr c24
           have c24b1 : (((rd_LIns l0_3 x50_2).length : Int) != 0) = false := bne_eq_false_iff_eq.mpr c24
           clear c24
           obtain rfl := Option.some.inj H
           have p258 : 0 ≤ (x50_2 : Int) := of_decide_eq_true (by first | (with_reducible assumption) | assumption)
           have q258 : x50_2 < (l0_3.length : Int) := of_decide_eq_true (by first | (with_reducible assumption) | assumption)
           obtain ⟨ad258, A258_0, c258_0, e258, hx258_0, hl258_0, hi258_0⟩ := at_LIns HR0_3.out x50_2 p258 q258
           cases e258
           replace hx258_0 := (HB.out.cell (World.block_lt_of_cell? w _ hx258_0)).trans hx258_0
           have HR258_0 := Aside0.mk hi258_0
           have HC258_0 := Aside0.mk hl258_0
           clear hi258_0 hl258_0
           replace p258 := eq_true p258
           replace q258 := eq_true q258
           go_wp2
           go_ret
           exact ⟨by first | rfl | (simp [errW_none, errW_some] <;> rfl) | (simp [*, errW_none, errW_some] <;> rfl), by repeat (first | (with_reducible first | exact HB.out | apply below_alloc | apply pw_below_drewN | apply below_drew1 | refine below_set ?_ GE256.out) | exact HB.out)⟩
          ·rw [if_neg c24] at H
           have c24b0 : (((rd_LIns l0_3 x50_2).length : Int) == 0) = false := beq_eq_false_iff_ne.mpr c24
           have c24b1 : (((rd_LIns l0_3 x50_2).length : Int) != 0) = true := bne_iff_ne.mpr c24
           have c24b2 : ¬ ((rd_LIns l0_3 x50_2) = []) := fun h_ => c24 (by rw [h_]; rfl)
           by_cases c25 : ((rd_LIns l0_3 x50_2).length : Int) > x3_2
           ·rw [if_pos c25] at H
            have c25b0 : decide (x3_2 < ((rd_LIns l0_3 x50_2).length : Int)) = true := decide_eq_true c25
            clear c25
            obtain rfl := Option.some.inj H
            have p258 : 0 ≤ (x50_2 : Int) := of_decide_eq_true (by first | (with_reducible assumption) | assumption)
            have q258 : x50_2 < (l0_3.length : Int) := of_decide_eq_true (by first | (with_reducible assumption) | assumption)
            obtain ⟨ad258, A258_0, c258_0, e258, hx258_0, hl258_0, hi258_0⟩ := at_LIns HR0_3.out x50_2 p258 q258
            cases e258
            replace hx258_0 := (HB.out.cell (World.block_lt_of_cell? w _ hx258_0)).trans hx258_0
            have HR258_0 := Aside0.mk hi258_0
            have HC258_0 := Aside0.mk hl258_0
            clear hi258_0 hl258_0
            replace p258 := eq_true p258
            replace q258 := eq_true q258
            go_wp2
            go_ret
            exact ⟨by first | rfl | (simp [errW_none, errW_some] <;> rfl) | (simp [*, errW_none, errW_some] <;> rfl), by repeat (first | (with_reducible first | exact HB.out | apply below_alloc | apply pw_below_drewN | apply below_drew1 | refine below_set ?_ GE256.out) | exact HB.out)⟩
           ·rw [if_neg c25] at H
            have c25b0 : decide (x3_2 < ((rd_LIns l0_3 x50_2).length : Int)) = false := decide_eq_false c25
            clear c25
            have H' := Aside0.mk H
            clear H
            have p258 : 0 ≤ (x50_2 : Int) := of_decide_eq_true (by first | (with_reducible assumption) | assumption)
            have q258 : x50_2 < (l0_3.length : Int) := of_decide_eq_true (by first | (with_reducible assumption) | assumption)
            obtain ⟨ad258, A258_0, c258_0, e258, hx258_0, hl258_0, hi258_0⟩ := at_LIns HR0_3.out x50_2 p258 q258
            cases e258
            replace hx258_0 := (HB.out.cell (World.block_lt_of_cell? w _ hx258_0)).trans hx258_0
            have HR258_0 := Aside0.mk hi258_0
            have HC258_0 := Aside0.mk hl258_0
            clear hi258_0 hl258_0
            replace p258 := eq_true p258
            replace q258 := eq_true q258
            go_wp2
            go_roundg k2
            case measure => have := HJ3.out; have := HK2.out; omega
            case rel => exact ⟨(wrap64 (x3_2 - ((rd_LIns l0_3 x50_2).length : Int))), (wrap64 (x50_2 + 1)), (by first | rfl | (simp; done) | (simp [*]; done)), (by first | rfl | (simp; done) | (simp [*]; done)), H', ⟨by have := HJ3.out; have := HK2.out; omega⟩, ⟨by (with_reducible repeat (first | refine blk_drewN ?_ _ | refine blk_drew ?_ | refine blk_alloc ?_ _)); exact BK256.out⟩, ⟨by repeat (first | (with_reducible first | exact HB.out | apply below_alloc | apply pw_below_drewN | apply below_drew1 | refine below_set ?_ GE256.out) | exact HB.out)⟩⟩
         ·rw [if_neg c23] at H
          exact absurd H (by simp)
        ·rw [if_neg c22] at H
         exact absurd H (by simp)
       ·rw [if_neg c21] at H
        have c21b0 : decide (x50_2 < (l0_3.length : Int)) = false := decide_eq_false c21
        clear c21
        have H' := Aside0.mk H
        clear H
        have hcz26_0 : wr.cell? ⟨gb256, 0, none⟩ = some (.string a0_0) := (blk_cell BK256.out 0).trans rfl
        have hcz26_1 : wr.cell? ⟨gb256, 1, none⟩ = some (.int .i64 a0_1) := (blk_cell BK256.out 1).trans rfl
        have hcz26_2 : wr.cell? ⟨gb256, 2, none⟩ = some (.int .i64 a0_2) := (blk_cell BK256.out 2).trans rfl
        have hcz26_3 : wr.cell? ⟨gb256, 3, none⟩ = some (.slice A0_3 l0_3.length c0_3) := (blk_cell BK256.out 3).trans rfl
        have hfz26_0 := blk_frozen BK256.out 0
        have hfz26_1 := blk_frozen BK256.out 1
        have hfz26_2 := blk_frozen BK256.out 2
        have hfz26_3 := blk_frozen BK256.out 3
        go_wp2
        go_loopg [71] k2 (fun kq v71 w' => ∃ (x71_3 : Int), v71 = .int .i64 x71_3 ∧ Aside0 (ir_Check.l1 kq l0_3 (l0_3.length : Int) x71_3 a0_0 a0_1 a0_2 l0_3 = some r) ∧ Aside0 (kq ≤ k2) ∧ Aside0 (w'.heap[gb256]? = some (.cells #[.string a0_0, .int .i64 a0_1, .int .i64 a0_2, (.slice A0_3 l0_3.length c0_3)] 34 (0, 0))) ∧ Aside0 (Below w.heap.size w w'))
        case atStart => exact ⟨(0), (by first | rfl | (simp; done) | (simp [*]; done)), H', ⟨Nat.le_refl _⟩, ⟨by (with_reducible repeat (first | refine blk_drewN ?_ _ | refine blk_drew ?_ | refine blk_alloc ?_ _)); exact BK256.out⟩, ⟨by repeat (first | (with_reducible first | exact HB.out | apply below_alloc | apply pw_below_drewN | apply below_drew1 | refine below_set ?_ GE256.out) | exact HB.out)⟩⟩
        case round =>
         clear H'
         try clear c1
         try clear c2
         try clear p2
         try clear q2
         try clear hx2
         try clear c3
         try clear p6
         try clear c8
         try clear c8b0
         try clear c10
         try clear c10b0
         try clear c12
         try clear c12b0
         try clear c14
         try clear c14b0
         try clear c16
         try clear c16b0
         try clear c16b1
         try clear c19
         try clear c21
         try clear c21b0
         try clear c22
         try clear c22b0
         try clear c23
         try clear c23b0
         try clear c24
         try clear c24b0
         try clear c24b1
         try clear c24b2
         try clear c25
         try clear c25b0
         try clear p25
         try clear q25
         try clear hx25
         try clear hcz11_0
         try clear hcz11_1
         try clear hcz11_2
         try clear hcz11_3
         try clear hcz13_0
         try clear hcz13_1
         try clear hcz13_2
         try clear hcz13_3
         try clear hcz15_0
         try clear hcz15_1
         try clear hcz15_2
         try clear hcz15_3
         try clear hcz17_0
         try clear hcz17_1
         try clear hcz17_2
         try clear hcz17_3
         try clear hcz18_0
         try clear hcz18_1
         try clear hcz18_2
         try clear hcz18_3
         try clear hcz20_0
         try clear hcz20_1
         try clear hcz20_2
         try clear hcz20_3
         try clear hcz26_0
         try clear hcz26_1
         try clear hcz26_2
         try clear hcz26_3
         try clear hcz6_0
         try clear hcz6_1
         try clear hcz6_2
         try clear hcz6_3
         try clear hcz9_0
         try clear hcz9_1
         try clear hcz9_2
         try clear hcz9_3
         try clear hfz11_0
         try clear hfz11_1
         try clear hfz11_2
         try clear hfz11_3
         try clear hfz13_0
         try clear hfz13_1
         try clear hfz13_2
         try clear hfz13_3
         try clear hfz15_0
         try clear hfz15_1
         try clear hfz15_2
         try clear hfz15_3
         try clear hfz17_0
         try clear hfz17_1
         try clear hfz17_2
         try clear hfz17_3
         try clear hfz18_0
         try clear hfz18_1
         try clear hfz18_2
         try clear hfz18_3
         try clear hfz20_0
         try clear hfz20_1
         try clear hfz20_2
         try clear hfz20_3
         try clear hfz26_0
         try clear hfz26_1
         try clear hfz26_2
         try clear hfz26_3
         try clear hfz6_0
         try clear hfz6_1
         try clear hfz6_2
         try clear hfz6_3
         try clear hfz9_0
         try clear hfz9_1
         try clear hfz9_2
         try clear hfz9_3
         try clear hx258_0
         try clear p2
         try clear p258
         try clear q258
         obtain ⟨x71_3, rfl, HA, HK3, BK256, HB⟩ := hrel
         cases gk with
         | zero => exact absurd HA.out (by simp [ir_Check.l1])
         | succ k3 =>
          have H := HA.out
          clear HA
          simp only [ir_Check.l1] at H
          by_cases c27 : x71_3 < (l0_3.length : Int)
          ·rw [if_pos c27] at H
           have c27b0 : decide (x71_3 < (l0_3.length : Int)) = true := decide_eq_true c27
           clear c27
           by_cases c28 : 0 ≤ x71_3
           ·rw [if_pos c28] at H
            have c28b0 : decide (0 ≤ x71_3) = true := decide_eq_true c28
            clear c28
            by_cases c29 : x71_3 < (l0_3.length : Int)
            ·rw [if_pos c29] at H
             have c29b0 : decide (x71_3 < (l0_3.length : Int)) = true := decide_eq_true c29
             clear c29
             have H' := Aside0.mk H
             clear H
             have p259 : 0 ≤ (x71_3 : Int) := of_decide_eq_true (by first | (with_reducible assumption) | assumption)
             have q259 : x71_3 < (l0_3.length : Int) := of_decide_eq_true (by first | (with_reducible assumption) | assumption)
             obtain ⟨ad259, A259_0, c259_0, e259, hx259_0, hl259_0, hi259_0⟩ := at_LIns HR0_3.out x71_3 p259 q259
             cases e259
             replace hx259_0 := (HB.out.cell (World.block_lt_of_cell? w _ hx259_0)).trans hx259_0
             have HR259_0 := Aside0.mk hi259_0
             have HC259_0 := Aside0.mk hl259_0
             clear hi259_0 hl259_0
             replace p259 := eq_true p259
             replace q259 := eq_true q259
             go_wp2
             go_loopg [77] k3 (fun kq v77 w' => ∃ (x77_4 : Int), v77 = .int .i64 x77_4 ∧ Aside0 (ir_Check.l2 kq (rd_LIns l0_3 x71_3) l0_3 (l0_3.length : Int) x71_3 (rd_LIns l0_3 x71_3) ((rd_LIns l0_3 x71_3).length : Int) x77_4 a0_0 a0_1 a0_2 l0_3 = some r) ∧ Aside0 (kq ≤ k3) ∧ Aside0 (w'.heap[gb256]? = some (.cells #[.string a0_0, .int .i64 a0_1, .int .i64 a0_2, (.slice (some ad259) l0_3.length c0_3)] 34 (0, 0))) ∧ Aside0 (Below w.heap.size w w'))
             case atStart => exact ⟨(0), (by first | rfl | (simp; done) | (simp [*]; done)), H', ⟨Nat.le_refl _⟩, ⟨by (with_reducible repeat (first | refine blk_drewN ?_ _ | refine blk_drew ?_ | refine blk_alloc ?_ _)); exact BK256.out⟩, ⟨by repeat (first | (with_reducible first | exact HB.out | apply below_alloc | apply pw_below_drewN | apply below_drew1 | refine below_set ?_ GE256.out) | exact HB.out)⟩⟩
             case round =>
              clear H'
              try clear c1
              try clear c2
              try clear p2
              try clear q2
              try clear hx2
              try clear c3
              try clear p6
              try clear c8
              try clear c8b0
              try clear c10
              try clear c10b0
              try clear c12
              try clear c12b0
              try clear c14
              try clear c14b0
              try clear c16
              try clear c16b0
              try clear c16b1
              try clear c19
              try clear c21
              try clear c21b0
              try clear c22
              try clear c22b0
              try clear c23
              try clear c23b0
              try clear c24
              try clear c24b0
              try clear c24b1
              try clear c24b2
              try clear c25
              try clear c25b0
              try clear p25
              try clear q25
              try clear hx25
              try clear c27
              try clear c27b0
              try clear c28
              try clear c28b0
              try clear c29
              try clear c29b0
              try clear hcz11_0
              try clear hcz11_1
              try clear hcz11_2
              try clear hcz11_3
              try clear hcz13_0
              try clear hcz13_1
              try clear hcz13_2
              try clear hcz13_3
              try clear hcz15_0
              try clear hcz15_1
              try clear hcz15_2
              try clear hcz15_3
              try clear hcz17_0
              try clear hcz17_1
              try clear hcz17_2
              try clear hcz17_3
              try clear hcz18_0
              try clear hcz18_1
              try clear hcz18_2
              try clear hcz18_3
              try clear hcz20_0
              try clear hcz20_1
              try clear hcz20_2
              try clear hcz20_3
              try clear hcz26_0
              try clear hcz26_1
              try clear hcz26_2
              try clear hcz26_3
              try clear hcz6_0
              try clear hcz6_1
              try clear hcz6_2
              try clear hcz6_3
              try clear hcz9_0
              try clear hcz9_1
              try clear hcz9_2
              try clear hcz9_3
              try clear hfz11_0
              try clear hfz11_1
              try clear hfz11_2
              try clear hfz11_3
              try clear hfz13_0
              try clear hfz13_1
              try clear hfz13_2
              try clear hfz13_3
              try clear hfz15_0
              try clear hfz15_1
              try clear hfz15_2
              try clear hfz15_3
              try clear hfz17_0
              try clear hfz17_1
              try clear hfz17_2
              try clear hfz17_3
              try clear hfz18_0
              try clear hfz18_1
              try clear hfz18_2
              try clear hfz18_3
              try clear hfz20_0
              try clear hfz20_1
              try clear hfz20_2
              try clear hfz20_3
              try clear hfz26_0
              try clear hfz26_1
              try clear hfz26_2
              try clear hfz26_3
              try clear hfz6_0
              try clear hfz6_1
              try clear hfz6_2
              try clear hfz6_3
              try clear hfz9_0
              try clear hfz9_1
              try clear hfz9_2
              try clear hfz9_3
              try clear hx258_0
              try clear hx259_0
              try clear p2
              try clear p25
              try clear p258
              try clear p259
              try clear p6
              try clear q2
              try clear q25
              try clear q258
              try clear q259
              obtain ⟨x77_4, rfl, HA, HK4, BK256, HB⟩ := hrel
              cases gk with
              | zero => exact absurd HA.out (by simp [ir_Check.l2])
              | succ k4 =>
               have H := HA.out
               clear HA
               simp only [ir_Check.l2] at H
               by_cases c30 : x77_4 < ((rd_LIns l0_3 x71_3).length : Int)
               ·rw [if_pos c30] at H
                have c30b0 : decide (x77_4 < ((rd_LIns l0_3 x71_3).length : Int)) = true := decide_eq_true c30
                clear c30
                by_cases c31 : 0 ≤ x77_4
                ·rw [if_pos c31] at H
                 have c31b0 : decide (0 ≤ x77_4) = true := decide_eq_true c31
                 clear c31
                 by_cases c32 : x77_4 < ((rd_LIns l0_3 x71_3).length : Int)
                 ·rw [if_pos c32] at H
                  have c32b0 : decide (x77_4 < ((rd_LIns l0_3 x71_3).length : Int)) = true := decide_eq_true c32
                  clear c32
                  replace H := Option.bind_eq_some_iff.mp H
                  obtain ⟨t262, A330, H⟩ := H
                  replace H : (if t262 = 0 then (ir_Check.l2 k4 (rd_LIns l0_3 x71_3) l0_3 (l0_3.length : Int) x71_3 (rd_LIns l0_3 x71_3) ((rd_LIns l0_3 x71_3).length : Int) (wrap64 (x77_4 + 1)) a0_0 a0_1 a0_2 l0_3) else (some t262)) = some r := H
                  have A33 := Aside0.mk A330
                  clear A330
                  by_cases c34 : t262 = 0
                  ·rw [if_pos c34] at H
                   have c34b0 : (t262 == 0) = true := beq_iff_eq.mpr c34
                   have c34b1 : (t262 != 0) = false := bne_eq_false_iff_eq.mpr c34
                   clear c34
                   have H' := Aside0.mk H
                   clear H
                   have p260 : 0 ≤ (x77_4 : Int) := of_decide_eq_true (by first | (with_reducible assumption) | assumption)
                   have q260 : x77_4 < ((rd_LIns l0_3 x71_3).length : Int) := of_decide_eq_true (by first | (with_reducible assumption) | assumption)
                   obtain ⟨ad260, A260_5, c260_5, e260, hx260_0, hx260_1, hx260_2, hx260_3, hx260_4, hx260_5, hl260_5, hi260_5⟩ := at_TIns HR259_0.out x77_4 p260 q260
                   cases e260
                   replace hx260_0 := (HB.out.cell (World.block_lt_of_cell? w _ hx260_0)).trans hx260_0
                   replace hx260_1 := (HB.out.cell (World.block_lt_of_cell? w _ hx260_1)).trans hx260_1
                   replace hx260_2 := (HB.out.cell (World.block_lt_of_cell? w _ hx260_2)).trans hx260_2
                   replace hx260_3 := (HB.out.cell (World.block_lt_of_cell? w _ hx260_3)).trans hx260_3
                   replace hx260_4 := (HB.out.cell (World.block_lt_of_cell? w _ hx260_4)).trans hx260_4
                   replace hx260_5 := (HB.out.cell (World.block_lt_of_cell? w _ hx260_5)).trans hx260_5
                   have HR260_5 := Aside0.mk hi260_5
                   have HC260_5 := Aside0.mk hl260_5
                   clear hi260_5 hl260_5
                   replace p260 := eq_true p260
                   replace q260 := eq_true q260
                   go_wp2_with (first | ((with_reducible refine gate_dst (N := 9) rfl ?_); (try (refine gate_guard (by rfl) ?_; dsimp only)); refine box_event ?hg (N := 9) ?hd (cs := #[.int .i64 0, .int .i64 0, .int .i64 0, .int .i64 0, .string (⟨#[]⟩ : ByteArray), .slice none 0 0]) (t := 24) ?hr ?_; (case hd => rfl); (case hg => rfl); (case hr => first | (go_simp; done) | (go_simp; rfl)); intro gb261 hg w35 hbox hb; have n0_ := Aside0.mk (blk_below (g := gb256) (o := .cells #[.string a0_0, .int .i64 a0_1, .int .i64 a0_2, .slice (some ad259) l0_3.length c0_3] 34 (0, 0)) (by (with_reducible repeat (first | refine blk_drewN ?_ _ | refine blk_drew ?_ | refine blk_alloc ?_ _)); exact BK256.out) hb); have n1_ := Aside0.mk (below_step (by repeat (first | (with_reducible first | exact HB.out | apply below_alloc | apply pw_below_drewN | apply below_drew1 | refine below_set ?_ GE256.out) | exact HB.out)) hb); have n2_ := Aside0.mk (hbox); have n3_ := Aside0.mk ((by rw [hg]; exact (below_size (by repeat (first | (with_reducible first | exact HB.out | apply below_alloc | apply pw_below_drewN | apply below_drew1 | refine below_set ?_ GE256.out) | exact HB.out))) : w.heap.size ≤ gb261)); have n4_ := Aside0.mk ((by rw [hg]; exact (below_size (by repeat (first | (with_reducible first | exact HB.out | apply below_alloc | apply pw_below_drewN | apply below_drew1 | refine below_set ?_ GE256.out) | exact HB.out))) : w.heap.size ≤ gb261)); have n5_ := Aside0.mk ((by rw [hg]; exact Nat.ne_of_lt (blk_lt (g := gb256) (o := .cells #[.string a0_0, .int .i64 a0_1, .int .i64 a0_2, .slice (some ad259) l0_3.length c0_3] 34 (0, 0)) (by (with_reducible repeat (first | refine blk_drewN ?_ _ | refine blk_drew ?_ | refine blk_alloc ?_ _)); exact BK256.out)) : gb256 ≠ gb261)); have n6_ := Aside0.mk ((by rw [hg]; exact Nat.ne_of_gt (blk_lt (g := gb256) (o := .cells #[.string a0_0, .int .i64 a0_1, .int .i64 a0_2, .slice (some ad259) l0_3.length c0_3] 34 (0, 0)) (by (with_reducible repeat (first | refine blk_drewN ?_ _ | refine blk_drew ?_ | refine blk_alloc ?_ _)); exact BK256.out)) : gb261 ≠ gb256)); clear BK256; clear HB; have BK256 := n0_; have HB := n1_; have BK261 := n2_; have GW261 := n3_; have GE261 := n4_; have NB256_261 := n5_; have NB261_256 := n6_; clear n0_ n1_ n2_ n3_ n4_ n5_ n6_; clear hb hbox hg; have hnb36 := NB261_256.out; have hnc36 := NB256_261.out; have hcz37_0 : w35.cell? ⟨gb261, 0, none⟩ = some (.int .i64 0) := (blk_cell BK261.out 0).trans rfl; have hcz37_1 : w35.cell? ⟨gb261, 1, none⟩ = some (.int .i64 0) := (blk_cell BK261.out 1).trans rfl; have hcz37_2 : w35.cell? ⟨gb261, 2, none⟩ = some (.int .i64 0) := (blk_cell BK261.out 2).trans rfl; have hcz37_3 : w35.cell? ⟨gb261, 3, none⟩ = some (.int .i64 0) := (blk_cell BK261.out 3).trans rfl; have hcz37_4 : w35.cell? ⟨gb261, 4, none⟩ = some (.string (⟨#[]⟩ : ByteArray)) := (blk_cell BK261.out 4).trans rfl; have hcz37_5 : w35.cell? ⟨gb261, 5, none⟩ = some (.slice none 0 0) := (blk_cell BK261.out 5).trans rfl; have hfz37_0 := blk_frozen BK261.out 0; have hfz37_1 := blk_frozen BK261.out 1; have hfz37_2 := blk_frozen BK261.out 2; have hfz37_3 := blk_frozen BK261.out 3; have hfz37_4 := blk_frozen BK261.out 4; have hfz37_5 := blk_frozen BK261.out 5; have hcz38_0 : w35.cell? ⟨gb256, 0, none⟩ = some (.string a0_0) := (blk_cell BK256.out 0).trans rfl; have hcz38_1 : w35.cell? ⟨gb256, 1, none⟩ = some (.int .i64 a0_1) := (blk_cell BK256.out 1).trans rfl; have hcz38_2 : w35.cell? ⟨gb256, 2, none⟩ = some (.int .i64 a0_2) := (blk_cell BK256.out 2).trans rfl; have hcz38_3 : w35.cell? ⟨gb256, 3, none⟩ = some (.slice (some ad259) l0_3.length c0_3) := (blk_cell BK256.out 3).trans rfl; have hfz38_0 := blk_frozen BK256.out 0; have hfz38_1 := blk_frozen BK256.out 1; have hfz38_2 := blk_frozen BK256.out 2; have hfz38_3 := blk_frozen BK256.out 3) | ((with_reducible refine gate_callee (f := 33) rfl ?_); refine goesL_ (some 89) rfl rfl Tryd.func33 (by kernel_rfl) rfl #[.agg #[.string a0_0, .int .i64 a0_1, .int .i64 a0_2, .slice (some ad259) l0_3.length c0_3], .agg #[.int .i64 ((rd_TIns (rd_LIns l0_3 x71_3) x77_4).f0), .int .i64 ((rd_TIns (rd_LIns l0_3 x71_3) x77_4).f1), .int .i64 ((rd_TIns (rd_LIns l0_3 x71_3) x77_4).f2), .int .i64 ((rd_TIns (rd_LIns l0_3 x71_3) x77_4).f3), .string ((rd_TIns (rd_LIns l0_3 x71_3) x77_4).f4), .slice A260_5 ((rd_TIns (rd_LIns l0_3 x71_3) x77_4).f5).length c260_5], .bool (x77_4 == (wrap64 (((rd_LIns l0_3 x71_3).length : Int) - 1)))] rfl (by (try simp only [List.map_toArray, List.map_cons, List.map_nil]); first | done | rfl | (simp only [List.length_drop, List.length_take]; rfl)) ?_; (with_reducible refine (ir_one.calls k4 a0_0 a0_1 a0_2 _ _ l0_3 ((rd_TIns (rd_LIns l0_3 x71_3) x77_4).f0) ((rd_TIns (rd_LIns l0_3 x71_3) x77_4).f1) ((rd_TIns (rd_LIns l0_3 x71_3) x77_4).f2) ((rd_TIns (rd_LIns l0_3 x71_3) x77_4).f3) ((rd_TIns (rd_LIns l0_3 x71_3) x77_4).f4) _ _ ((rd_TIns (rd_LIns l0_3 x71_3) x77_4).f5) (x77_4 == (wrap64 (((rd_LIns l0_3 x71_3).length : Int) - 1))) t262 _ ?side1 ?side2 ?side3 ?side4 A33.out (hL := ?side99)).mono ?_); (case side1 => exact Kd.C_below HR0_3.out (by repeat (first | (with_reducible first | exact HB.out | apply below_alloc | apply pw_below_drewN | apply below_drew1 | refine below_set ?_ GE256.out | refine below_set ?_ GE261.out) | exact HB.out))); (case side2 => exact HC0_3.out); (case side3 => exact Kd.C_below HR260_5.out (by repeat (first | (with_reducible first | exact HB.out | apply below_alloc | apply pw_below_drewN | apply below_drew1 | refine below_set ?_ GE256.out | refine below_set ?_ GE261.out) | exact HB.out))); (case side4 => exact HC260_5.out); (case side99 => exact LaidW.below HLd.out (by repeat (first | (with_reducible first | exact HB.out | apply below_alloc | apply pw_below_drewN | apply below_drew1 | refine below_set ?_ GE256.out | refine below_set ?_ GE261.out) | exact HB.out))); rintro e w39 ⟨rfl, hb⟩; refine ⟨_, rfl, ?_⟩; have n0_ := Aside0.mk (blk_below (g := gb256) (o := .cells #[.string a0_0, .int .i64 a0_1, .int .i64 a0_2, .slice (some ad259) l0_3.length c0_3] 34 (0, 0)) (by (with_reducible repeat (first | refine blk_drewN ?_ _ | refine blk_drew ?_ | refine blk_alloc ?_ _)); refine blk_far ?_ NB256_261.out _; (with_reducible repeat (first | refine blk_drewN ?_ _ | refine blk_drew ?_ | refine blk_alloc ?_ _)); refine blk_far ?_ NB256_261.out _; (with_reducible repeat (first | refine blk_drewN ?_ _ | refine blk_drew ?_ | refine blk_alloc ?_ _)); refine blk_far ?_ NB256_261.out _; (with_reducible repeat (first | refine blk_drewN ?_ _ | refine blk_drew ?_ | refine blk_alloc ?_ _)); refine blk_far ?_ NB256_261.out _; (with_reducible repeat (first | refine blk_drewN ?_ _ | refine blk_drew ?_ | refine blk_alloc ?_ _)); refine blk_far ?_ NB256_261.out _; (with_reducible repeat (first | refine blk_drewN ?_ _ | refine blk_drew ?_ | refine blk_alloc ?_ _)); refine blk_far ?_ NB256_261.out _; (with_reducible repeat (first | refine blk_drewN ?_ _ | refine blk_drew ?_ | refine blk_alloc ?_ _)); exact BK256.out) hb); have n1_ := Aside0.mk (blk_below (g := gb261) (o := .cells #[.int .i64 ((rd_TIns (rd_LIns l0_3 x71_3) x77_4).f0), .int .i64 ((rd_TIns (rd_LIns l0_3 x71_3) x77_4).f1), .int .i64 ((rd_TIns (rd_LIns l0_3 x71_3) x77_4).f2), .int .i64 ((rd_TIns (rd_LIns l0_3 x71_3) x77_4).f3), .string ((rd_TIns (rd_LIns l0_3 x71_3) x77_4).f4), .slice A260_5 ((rd_TIns (rd_LIns l0_3 x71_3) x77_4).f5).length c260_5] 24 (0, 0)) (by (with_reducible repeat (first | refine blk_drewN ?_ _ | refine blk_drew ?_ | refine blk_alloc ?_ _)); refine blk_put (cs := #[.int .i64 ((rd_TIns (rd_LIns l0_3 x71_3) x77_4).f0), .int .i64 ((rd_TIns (rd_LIns l0_3 x71_3) x77_4).f1), .int .i64 ((rd_TIns (rd_LIns l0_3 x71_3) x77_4).f2), .int .i64 ((rd_TIns (rd_LIns l0_3 x71_3) x77_4).f3), .string ((rd_TIns (rd_LIns l0_3 x71_3) x77_4).f4), .slice none 0 0]) ?_ 5 _ rfl; (with_reducible repeat (first | refine blk_drewN ?_ _ | refine blk_drew ?_ | refine blk_alloc ?_ _)); refine blk_put (cs := #[.int .i64 ((rd_TIns (rd_LIns l0_3 x71_3) x77_4).f0), .int .i64 ((rd_TIns (rd_LIns l0_3 x71_3) x77_4).f1), .int .i64 ((rd_TIns (rd_LIns l0_3 x71_3) x77_4).f2), .int .i64 ((rd_TIns (rd_LIns l0_3 x71_3) x77_4).f3), .string (⟨#[]⟩ : ByteArray), .slice none 0 0]) ?_ 4 _ rfl; (with_reducible repeat (first | refine blk_drewN ?_ _ | refine blk_drew ?_ | refine blk_alloc ?_ _)); refine blk_put (cs := #[.int .i64 ((rd_TIns (rd_LIns l0_3 x71_3) x77_4).f0), .int .i64 ((rd_TIns (rd_LIns l0_3 x71_3) x77_4).f1), .int .i64 ((rd_TIns (rd_LIns l0_3 x71_3) x77_4).f2), .int .i64 0, .string (⟨#[]⟩ : ByteArray), .slice none 0 0]) ?_ 3 _ rfl; (with_reducible repeat (first | refine blk_drewN ?_ _ | refine blk_drew ?_ | refine blk_alloc ?_ _)); refine blk_put (cs := #[.int .i64 ((rd_TIns (rd_LIns l0_3 x71_3) x77_4).f0), .int .i64 ((rd_TIns (rd_LIns l0_3 x71_3) x77_4).f1), .int .i64 0, .int .i64 0, .string (⟨#[]⟩ : ByteArray), .slice none 0 0]) ?_ 2 _ rfl; (with_reducible repeat (first | refine blk_drewN ?_ _ | refine blk_drew ?_ | refine blk_alloc ?_ _)); refine blk_put (cs := #[.int .i64 ((rd_TIns (rd_LIns l0_3 x71_3) x77_4).f0), .int .i64 0, .int .i64 0, .int .i64 0, .string (⟨#[]⟩ : ByteArray), .slice none 0 0]) ?_ 1 _ rfl; (with_reducible repeat (first | refine blk_drewN ?_ _ | refine blk_drew ?_ | refine blk_alloc ?_ _)); refine blk_put (cs := #[.int .i64 0, .int .i64 0, .int .i64 0, .int .i64 0, .string (⟨#[]⟩ : ByteArray), .slice none 0 0]) ?_ 0 _ rfl; (with_reducible repeat (first | refine blk_drewN ?_ _ | refine blk_drew ?_ | refine blk_alloc ?_ _)); exact BK261.out) hb); have n2_ := Aside0.mk (below_step (by repeat (first | (with_reducible first | exact HB.out | apply below_alloc | apply pw_below_drewN | apply below_drew1 | refine below_set ?_ GE256.out | refine below_set ?_ GE261.out) | exact HB.out)) hb); clear BK256; clear BK261; clear HB; have BK256 := n0_; have BK261 := n1_; have HB := n2_; clear n0_ n1_ n2_; (try clear hb); (try clear hb2); (try clear hk); (try clear hi)))
                   go_roundg k4
                   case measure => have := HJ3.out; have := HK2.out; have := HK3.out; have := HK4.out; omega
                   case rel => exact ⟨(wrap64 (x77_4 + 1)), (by first | rfl | (simp; done) | (simp [*]; done)), H', ⟨by have := HJ3.out; have := HK2.out; have := HK3.out; have := HK4.out; omega⟩, ⟨by (with_reducible repeat (first | refine blk_drewN ?_ _ | refine blk_drew ?_ | refine blk_alloc ?_ _)); exact BK256.out⟩, ⟨by repeat (first | (with_reducible first | exact HB.out | apply below_alloc | apply pw_below_drewN | apply below_drew1 | refine below_set ?_ GE256.out | refine below_set ?_ GE261.out) | exact HB.out)⟩⟩
                  ·rw [if_neg c34] at H
                   have c34b0 : (t262 == 0) = false := beq_eq_false_iff_ne.mpr c34
                   have c34b1 : (t262 != 0) = true := bne_iff_ne.mpr c34
                   obtain rfl := Option.some.inj H
                   have p260 : 0 ≤ (x77_4 : Int) := of_decide_eq_true (by first | (with_reducible assumption) | assumption)
                   have q260 : x77_4 < ((rd_LIns l0_3 x71_3).length : Int) := of_decide_eq_true (by first | (with_reducible assumption) | assumption)
                   obtain ⟨ad260, A260_5, c260_5, e260, hx260_0, hx260_1, hx260_2, hx260_3, hx260_4, hx260_5, hl260_5, hi260_5⟩ := at_TIns HR259_0.out x77_4 p260 q260
                   cases e260
                   replace hx260_0 := (HB.out.cell (World.block_lt_of_cell? w _ hx260_0)).trans hx260_0
                   replace hx260_1 := (HB.out.cell (World.block_lt_of_cell? w _ hx260_1)).trans hx260_1
                   replace hx260_2 := (HB.out.cell (World.block_lt_of_cell? w _ hx260_2)).trans hx260_2
                   replace hx260_3 := (HB.out.cell (World.block_lt_of_cell? w _ hx260_3)).trans hx260_3
                   replace hx260_4 := (HB.out.cell (World.block_lt_of_cell? w _ hx260_4)).trans hx260_4
                   replace hx260_5 := (HB.out.cell (World.block_lt_of_cell? w _ hx260_5)).trans hx260_5
                   have HR260_5 := Aside0.mk hi260_5
                   have HC260_5 := Aside0.mk hl260_5
                   clear hi260_5 hl260_5
                   replace p260 := eq_true p260
                   replace q260 := eq_true q260
                   go_wp2_with (first | ((with_reducible refine gate_dst (N := 9) rfl ?_); (try (refine gate_guard (by rfl) ?_; dsimp only)); refine box_event ?hg (N := 9) ?hd (cs := #[.int .i64 0, .int .i64 0, .int .i64 0, .int .i64 0, .string (⟨#[]⟩ : ByteArray), .slice none 0 0]) (t := 24) ?hr ?_; (case hd => rfl); (case hg => rfl); (case hr => first | (go_simp; done) | (go_simp; rfl)); intro gb261 hg w40 hbox hb; have n0_ := Aside0.mk (blk_below (g := gb256) (o := .cells #[.string a0_0, .int .i64 a0_1, .int .i64 a0_2, .slice (some ad259) l0_3.length c0_3] 34 (0, 0)) (by (with_reducible repeat (first | refine blk_drewN ?_ _ | refine blk_drew ?_ | refine blk_alloc ?_ _)); exact BK256.out) hb); have n1_ := Aside0.mk (below_step (by repeat (first | (with_reducible first | exact HB.out | apply below_alloc | apply pw_below_drewN | apply below_drew1 | refine below_set ?_ GE256.out) | exact HB.out)) hb); have n2_ := Aside0.mk (hbox); have n3_ := Aside0.mk ((by rw [hg]; exact (below_size (by repeat (first | (with_reducible first | exact HB.out | apply below_alloc | apply pw_below_drewN | apply below_drew1 | refine below_set ?_ GE256.out) | exact HB.out))) : w.heap.size ≤ gb261)); have n4_ := Aside0.mk ((by rw [hg]; exact (below_size (by repeat (first | (with_reducible first | exact HB.out | apply below_alloc | apply pw_below_drewN | apply below_drew1 | refine below_set ?_ GE256.out) | exact HB.out))) : w.heap.size ≤ gb261)); have n5_ := Aside0.mk ((by rw [hg]; exact Nat.ne_of_lt (blk_lt (g := gb256) (o := .cells #[.string a0_0, .int .i64 a0_1, .int .i64 a0_2, .slice (some ad259) l0_3.length c0_3] 34 (0, 0)) (by (with_reducible repeat (first | refine blk_drewN ?_ _ | refine blk_drew ?_ | refine blk_alloc ?_ _)); exact BK256.out)) : gb256 ≠ gb261)); have n6_ := Aside0.mk ((by rw [hg]; exact Nat.ne_of_gt (blk_lt (g := gb256) (o := .cells #[.string a0_0, .int .i64 a0_1, .int .i64 a0_2, .slice (some ad259) l0_3.length c0_3] 34 (0, 0)) (by (with_reducible repeat (first | refine blk_drewN ?_ _ | refine blk_drew ?_ | refine blk_alloc ?_ _)); exact BK256.out)) : gb261 ≠ gb256)); clear BK256; clear HB; have BK256 := n0_; have HB := n1_; have BK261 := n2_; have GW261 := n3_; have GE261 := n4_; have NB256_261 := n5_; have NB261_256 := n6_; clear n0_ n1_ n2_ n3_ n4_ n5_ n6_; clear hb hbox hg; have hnb41 := NB261_256.out; have hnc41 := NB256_261.out; have hcz42_0 : w40.cell? ⟨gb261, 0, none⟩ = some (.int .i64 0) := (blk_cell BK261.out 0).trans rfl; have hcz42_1 : w40.cell? ⟨gb261, 1, none⟩ = some (.int .i64 0) := (blk_cell BK261.out 1).trans rfl; have hcz42_2 : w40.cell? ⟨gb261, 2, none⟩ = some (.int .i64 0) := (blk_cell BK261.out 2).trans rfl; have hcz42_3 : w40.cell? ⟨gb261, 3, none⟩ = some (.int .i64 0) := (blk_cell BK261.out 3).trans rfl; have hcz42_4 : w40.cell? ⟨gb261, 4, none⟩ = some (.string (⟨#[]⟩ : ByteArray)) := (blk_cell BK261.out 4).trans rfl; have hcz42_5 : w40.cell? ⟨gb261, 5, none⟩ = some (.slice none 0 0) := (blk_cell BK261.out 5).trans rfl; have hfz42_0 := blk_frozen BK261.out 0; have hfz42_1 := blk_frozen BK261.out 1; have hfz42_2 := blk_frozen BK261.out 2; have hfz42_3 := blk_frozen BK261.out 3; have hfz42_4 := blk_frozen BK261.out 4; have hfz42_5 := blk_frozen BK261.out 5; have hcz43_0 : w40.cell? ⟨gb256, 0, none⟩ = some (.string a0_0) := (blk_cell BK256.out 0).trans rfl; have hcz43_1 : w40.cell? ⟨gb256, 1, none⟩ = some (.int .i64 a0_1) := (blk_cell BK256.out 1).trans rfl; have hcz43_2 : w40.cell? ⟨gb256, 2, none⟩ = some (.int .i64 a0_2) := (blk_cell BK256.out 2).trans rfl; have hcz43_3 : w40.cell? ⟨gb256, 3, none⟩ = some (.slice (some ad259) l0_3.length c0_3) := (blk_cell BK256.out 3).trans rfl; have hfz43_0 := blk_frozen BK256.out 0; have hfz43_1 := blk_frozen BK256.out 1; have hfz43_2 := blk_frozen BK256.out 2; have hfz43_3 := blk_frozen BK256.out 3) | ((with_reducible refine gate_callee (f := 33) rfl ?_); refine goesL_ (some 89) rfl rfl Tryd.func33 (by kernel_rfl) rfl #[.agg #[.string a0_0, .int .i64 a0_1, .int .i64 a0_2, .slice (some ad259) l0_3.length c0_3], .agg #[.int .i64 ((rd_TIns (rd_LIns l0_3 x71_3) x77_4).f0), .int .i64 ((rd_TIns (rd_LIns l0_3 x71_3) x77_4).f1), .int .i64 ((rd_TIns (rd_LIns l0_3 x71_3) x77_4).f2), .int .i64 ((rd_TIns (rd_LIns l0_3 x71_3) x77_4).f3), .string ((rd_TIns (rd_LIns l0_3 x71_3) x77_4).f4), .slice A260_5 ((rd_TIns (rd_LIns l0_3 x71_3) x77_4).f5).length c260_5], .bool (x77_4 == (wrap64 (((rd_LIns l0_3 x71_3).length : Int) - 1)))] rfl (by (try simp only [List.map_toArray, List.map_cons, List.map_nil]); first | done | rfl | (simp only [List.length_drop, List.length_take]; rfl)) ?_; (with_reducible refine (ir_one.calls k4 a0_0 a0_1 a0_2 _ _ l0_3 ((rd_TIns (rd_LIns l0_3 x71_3) x77_4).f0) ((rd_TIns (rd_LIns l0_3 x71_3) x77_4).f1) ((rd_TIns (rd_LIns l0_3 x71_3) x77_4).f2) ((rd_TIns (rd_LIns l0_3 x71_3) x77_4).f3) ((rd_TIns (rd_LIns l0_3 x71_3) x77_4).f4) _ _ ((rd_TIns (rd_LIns l0_3 x71_3) x77_4).f5) (x77_4 == (wrap64 (((rd_LIns l0_3 x71_3).length : Int) - 1))) t262 _ ?side1 ?side2 ?side3 ?side4 A33.out (hL := ?side99)).mono ?_); (case side1 => exact Kd.C_below HR0_3.out (by repeat (first | (with_reducible first | exact HB.out | apply below_alloc | apply pw_below_drewN | apply below_drew1 | refine below_set ?_ GE256.out | refine below_set ?_ GE261.out) | exact HB.out))); (case side2 => exact HC0_3.out); (case side3 => exact Kd.C_below HR260_5.out (by repeat (first | (with_reducible first | exact HB.out | apply below_alloc | apply pw_below_drewN | apply below_drew1 | refine below_set ?_ GE256.out | refine below_set ?_ GE261.out) | exact HB.out))); (case side4 => exact HC260_5.out); (case side99 => exact LaidW.below HLd.out (by repeat (first | (with_reducible first | exact HB.out | apply below_alloc | apply pw_below_drewN | apply below_drew1 | refine below_set ?_ GE256.out | refine below_set ?_ GE261.out) | exact HB.out))); rintro e w44 ⟨rfl, hb⟩; refine ⟨_, rfl, ?_⟩; have n0_ := Aside0.mk (blk_below (g := gb256) (o := .cells #[.string a0_0, .int .i64 a0_1, .int .i64 a0_2, .slice (some ad259) l0_3.length c0_3] 34 (0, 0)) (by (with_reducible repeat (first | refine blk_drewN ?_ _ | refine blk_drew ?_ | refine blk_alloc ?_ _)); refine blk_far ?_ NB256_261.out _; (with_reducible repeat (first | refine blk_drewN ?_ _ | refine blk_drew ?_ | refine blk_alloc ?_ _)); refine blk_far ?_ NB256_261.out _; (with_reducible repeat (first | refine blk_drewN ?_ _ | refine blk_drew ?_ | refine blk_alloc ?_ _)); refine blk_far ?_ NB256_261.out _; (with_reducible repeat (first | refine blk_drewN ?_ _ | refine blk_drew ?_ | refine blk_alloc ?_ _)); refine blk_far ?_ NB256_261.out _; (with_reducible repeat (first | refine blk_drewN ?_ _ | refine blk_drew ?_ | refine blk_alloc ?_ _)); refine blk_far ?_ NB256_261.out _; (with_reducible repeat (first | refine blk_drewN ?_ _ | refine blk_drew ?_ | refine blk_alloc ?_ _)); refine blk_far ?_ NB256_261.out _; (with_reducible repeat (first | refine blk_drewN ?_ _ | refine blk_drew ?_ | refine blk_alloc ?_ _)); exact BK256.out) hb); have n1_ := Aside0.mk (blk_below (g := gb261) (o := .cells #[.int .i64 ((rd_TIns (rd_LIns l0_3 x71_3) x77_4).f0), .int .i64 ((rd_TIns (rd_LIns l0_3 x71_3) x77_4).f1), .int .i64 ((rd_TIns (rd_LIns l0_3 x71_3) x77_4).f2), .int .i64 ((rd_TIns (rd_LIns l0_3 x71_3) x77_4).f3), .string ((rd_TIns (rd_LIns l0_3 x71_3) x77_4).f4), .slice A260_5 ((rd_TIns (rd_LIns l0_3 x71_3) x77_4).f5).length c260_5] 24 (0, 0)) (by (with_reducible repeat (first | refine blk_drewN ?_ _ | refine blk_drew ?_ | refine blk_alloc ?_ _)); refine blk_put (cs := #[.int .i64 ((rd_TIns (rd_LIns l0_3 x71_3) x77_4).f0), .int .i64 ((rd_TIns (rd_LIns l0_3 x71_3) x77_4).f1), .int .i64 ((rd_TIns (rd_LIns l0_3 x71_3) x77_4).f2), .int .i64 ((rd_TIns (rd_LIns l0_3 x71_3) x77_4).f3), .string ((rd_TIns (rd_LIns l0_3 x71_3) x77_4).f4), .slice none 0 0]) ?_ 5 _ rfl; (with_reducible repeat (first | refine blk_drewN ?_ _ | refine blk_drew ?_ | refine blk_alloc ?_ _)); refine blk_put (cs := #[.int .i64 ((rd_TIns (rd_LIns l0_3 x71_3) x77_4).f0), .int .i64 ((rd_TIns (rd_LIns l0_3 x71_3) x77_4).f1), .int .i64 ((rd_TIns (rd_LIns l0_3 x71_3) x77_4).f2), .int .i64 ((rd_TIns (rd_LIns l0_3 x71_3) x77_4).f3), .string (⟨#[]⟩ : ByteArray), .slice none 0 0]) ?_ 4 _ rfl; (with_reducible repeat (first | refine blk_drewN ?_ _ | refine blk_drew ?_ | refine blk_alloc ?_ _)); refine blk_put (cs := #[.int .i64 ((rd_TIns (rd_LIns l0_3 x71_3) x77_4).f0), .int .i64 ((rd_TIns (rd_LIns l0_3 x71_3) x77_4).f1), .int .i64 ((rd_TIns (rd_LIns l0_3 x71_3) x77_4).f2), .int .i64 0, .string (⟨#[]⟩ : ByteArray), .slice none 0 0]) ?_ 3 _ rfl; (with_reducible repeat (first | refine blk_drewN ?_ _ | refine blk_drew ?_ | refine blk_alloc ?_ _)); refine blk_put (cs := #[.int .i64 ((rd_TIns (rd_LIns l0_3 x71_3) x77_4).f0), .int .i64 ((rd_TIns (rd_LIns l0_3 x71_3) x77_4).f1), .int .i64 0, .int .i64 0, .string (⟨#[]⟩ : ByteArray), .slice none 0 0]) ?_ 2 _ rfl; (with_reducible repeat (first | refine blk_drewN ?_ _ | refine blk_drew ?_ | refine blk_alloc ?_ _)); refine blk_put (cs := #[.int .i64 ((rd_TIns (rd_LIns l0_3 x71_3) x77_4).f0), .int .i64 0, .int .i64 0, .int .i64 0, .string (⟨#[]⟩ : ByteArray), .slice none 0 0]) ?_ 1 _ rfl; (with_reducible repeat (first | refine blk_drewN ?_ _ | refine blk_drew ?_ | refine blk_alloc ?_ _)); refine blk_put (cs := #[.int .i64 0, .int .i64 0, .int .i64 0, .int .i64 0, .string (⟨#[]⟩ : ByteArray), .slice none 0 0]) ?_ 0 _ rfl; (with_reducible repeat (first | refine blk_drewN ?_ _ | refine blk_drew ?_ | refine blk_alloc ?_ _)); exact BK261.out) hb); have n2_ := Aside0.mk (below_step (by repeat (first | (with_reducible first | exact HB.out | apply below_alloc | apply pw_below_drewN | apply below_drew1 | refine below_set ?_ GE256.out | refine below_set ?_ GE261.out) | exact HB.out)) hb); clear BK256; clear BK261; clear HB; have BK256 := n0_; have BK261 := n1_; have HB := n2_; clear n0_ n1_ n2_; (try clear hb); (try clear hb2); (try clear hk); (try clear hi)))
                   go_ret
                   exact ⟨by first | rfl | (simp [errW_none, errW_some] <;> rfl) | (simp [*, errW_none, errW_some] <;> rfl), by repeat (first | (with_reducible first | exact HB.out | apply below_alloc | apply pw_below_drewN | apply below_drew1 | refine below_set ?_ GE256.out | refine below_set ?_ GE261.out) | exact HB.out)⟩
                 ·rw [if_neg c32] at H
                  exact absurd H (by simp)
                ·rw [if_neg c31] at H
                 exact absurd H (by simp)
               ·rw [if_neg c30] at H
                have c30b0 : decide (x77_4 < ((rd_LIns l0_3 x71_3).length : Int)) = false := decide_eq_false c30
                clear c30
                have H' := Aside0.mk H
                clear H
                go_wp2
                go_roundg k4
                case measure => have := HJ3.out; have := HK2.out; have := HK3.out; have := HK4.out; omega
                case rel => exact ⟨(wrap64 (x71_3 + 1)), (by first | rfl | (simp; done) | (simp [*]; done)), H', ⟨by have := HJ3.out; have := HK2.out; have := HK3.out; have := HK4.out; omega⟩, ⟨by (with_reducible repeat (first | refine blk_drewN ?_ _ | refine blk_drew ?_ | refine blk_alloc ?_ _)); exact BK256.out⟩, ⟨by repeat (first | (with_reducible first | exact HB.out | apply below_alloc | apply pw_below_drewN | apply below_drew1 | refine below_set ?_ GE256.out) | exact HB.out)⟩⟩
            ·rw [if_neg c29] at H
             exact absurd H (by simp)
           ·rw [if_neg c28] at H
            exact absurd H (by simp)
          ·rw [if_neg c27] at H
           have c27b0 : decide (x71_3 < (l0_3.length : Int)) = false := decide_eq_false c27
           clear c27
           obtain rfl := Option.some.inj H
           go_wp2
           go_ret
           exact ⟨by first | rfl | (simp [errW_none, errW_some] <;> rfl) | (simp [*, errW_none, errW_some] <;> rfl), by repeat (first | (with_reducible first | exact HB.out | apply below_alloc | apply pw_below_drewN | apply below_drew1 | refine below_set ?_ GE256.out) | exact HB.out)⟩
 ·replace c3 := Bool.eq_false_iff.mpr c3
  subst c3
  have H1 : (some 70) = some r := by rw [if_neg (show ¬ (false = true) by decide)] at H; exact H
  clear H
  have H := H1
  clear H1
  obtain rfl := Option.some.inj H
  go_enter Tryd.func28, Tryd.ntmps28
  go_wp2_with (first | ((with_reducible refine gate_dst (N := 1) rfl ?_); (try (refine gate_guard (by rfl) ?_; dsimp only)); refine box_event ?hg (N := 1) ?hd (cs := #[.string a0_0, .int .i64 a0_1, .int .i64 a0_2, .slice A0_3 l0_3.length c0_3]) (t := 34) ?hr ?_; (case hd => rfl); (case hg => rfl); (case hr => first | (go_simp; done) | (go_simp; rfl)); intro gb256 hg w45 hbox hb; have n0_ := Aside0.mk (below_step (by repeat (first | (with_reducible first | exact HB.out | apply below_alloc | apply pw_below_drewN | apply below_drew1) | exact HB.out)) hb); have n1_ := Aside0.mk (hbox); have n2_ := Aside0.mk ((by rw [hg]; exact (below_size (by repeat (first | (with_reducible first | exact HB.out | apply below_alloc | apply pw_below_drewN | apply below_drew1) | exact HB.out))) : w.heap.size ≤ gb256)); have n3_ := Aside0.mk ((by rw [hg]; exact (below_size (by repeat (first | (with_reducible first | exact HB.out | apply below_alloc | apply pw_below_drewN | apply below_drew1) | exact HB.out))) : w.heap.size ≤ gb256)); clear HB; have HB := n0_; have BK256 := n1_; have GW256 := n2_; have GE256 := n3_; clear n0_ n1_ n2_ n3_; clear hb hbox hg; have hcz46_0 : w45.cell? ⟨gb256, 0, none⟩ = some (.string a0_0) := (blk_cell BK256.out 0).trans rfl; have hcz46_1 : w45.cell? ⟨gb256, 1, none⟩ = some (.int .i64 a0_1) := (blk_cell BK256.out 1).trans rfl; have hcz46_2 : w45.cell? ⟨gb256, 2, none⟩ = some (.int .i64 a0_2) := (blk_cell BK256.out 2).trans rfl; have hcz46_3 : w45.cell? ⟨gb256, 3, none⟩ = some (.slice A0_3 l0_3.length c0_3) := (blk_cell BK256.out 3).trans rfl; have hfz46_0 := blk_frozen BK256.out 0; have hfz46_1 := blk_frozen BK256.out 1; have hfz46_2 := blk_frozen BK256.out 2; have hfz46_3 := blk_frozen BK256.out 3) | ((with_reducible refine gate_callee (f := 25) rfl ?_); refine goesL_ (some 13) rfl rfl Tryd.func25 (by kernel_rfl) rfl #[.string a0_0] rfl (by (try simp only [List.map_toArray, List.map_cons, List.map_nil]); first | done | rfl | (simp only [List.length_drop, List.length_take]; rfl)) ?_; (with_reducible refine (ir_Name.calls a0_0 false _ A2.out).mono ?_); rintro e w47 ⟨rfl, hb⟩; refine ⟨_, rfl, ?_⟩; have n0_ := Aside0.mk (blk_below (g := gb256) (o := .cells #[.string a0_0, .int .i64 a0_1, .int .i64 a0_2, .slice A0_3 l0_3.length c0_3] 34 (0, 0)) (by (with_reducible repeat (first | refine blk_drewN ?_ _ | refine blk_drew ?_ | refine blk_alloc ?_ _)); exact BK256.out) hb); have n1_ := Aside0.mk (below_step (by repeat (first | (with_reducible first | exact HB.out | apply below_alloc | apply pw_below_drewN | apply below_drew1 | refine below_set ?_ GE256.out) | exact HB.out)) hb); clear BK256; clear HB; have BK256 := n0_; have HB := n1_; clear n0_ n1_; (try clear hb); (try clear hb2); (try clear hk); (try clear hi)))
  go_ret
  exact ⟨by first | rfl | (simp [errW_none, errW_some] <;> rfl) | (simp [*, errW_none, errW_some] <;> rfl), by repeat (first | (with_reducible first | exact HB.out | apply below_alloc | apply pw_below_drewN | apply below_drew1 | refine below_set ?_ GE256.out) | exact HB.out)⟩

end Go.Proofs.YtgmklfaknomakaaDoor.Q
namespace Go.Proofs.YtgmklfaknomakaaDoor.Q
open Go.RowKit Go.Proofs.YtgmklfaknomakaaDoorW.PrintWords Go.Proofs.YtgmklfaknomakaaDoorW.PrintLast Go.Proofs.YtgmklfaknomakaaDoorW.PrintMore
attribute [local go_sem] max2_int min2_int max_two min_two max_three min_three max_four min_four   -- for this text's walks alone
set_option linter.unusedVariables false
set_option linter.unusedSimpArgs false

/-! ### ir_Def: function 12 -/
def ir_Def.f (a0_0 : Int) (a0_1 : Int) (a0_2 : Int) (a0_3 : Int) (a0_4 : ByteArray) (l0_5 : List Int) : Option (Int) := (ir_shape.f a0_0).bind fun t134 => (if t134.toList = ([] : List UInt8) then (some (-1)) else (if 0 < (t134.size : Int) then (if (bt t134 0) = 114 then (some a0_1) else (some (-1))) else (none)))
set_option maxHeartbeats 8000000 in
set_option maxRecDepth 100000 in
theorem ir_Def.calls (a0_0 : Int) (a0_1 : Int) (a0_2 : Int) (a0_3 : Int) (a0_4 : ByteArray) (A0_5 : Option Addr) (c0_5 : Nat) (l0_5 : List Int) (r : Int) (w : World) (hL : LaidW w) (hr0_5 : Kd.C (Kd.int .i64) w A0_5 l0_5.length l0_5) (hc0_5 : l0_5.length ≤ c0_5) (h : ir_Def.f a0_0 a0_1 a0_2 a0_3 a0_4 l0_5 = some r) :
  Calls Tryd.prog 12 #[.agg #[.int .i64 a0_0, .int .i64 a0_1, .int .i64 a0_2, .int .i64 a0_3, .string a0_4, .slice A0_5 l0_5.length c0_5]] w fun e w' => e = .returned (.int .i64 r) ∧ Below w.heap.size w w' := by
 have hu24 := Tryd.underlying24
 have HR0_5 := Aside0.mk hr0_5
 have HC0_5 := Aside0.mk hc0_5
 clear hr0_5 hc0_5
 have HB := Aside0.mk (Below.refl w.heap.size w)
 have HLd := Aside0.mk hL
 clear hL
 have H : ((ir_shape.f a0_0).bind fun t134 => (if t134.toList = ([] : List UInt8) then (some (-1)) else (if 0 < (t134.size : Int) then (if (bt t134 0) = 114 then (some a0_1) else (some (-1))) else (none)))) = some r := h
 clear h
 replace H := Option.bind_eq_some_iff.mp H
 obtain ⟨t134, A20, H⟩ := H
 replace H : (if t134.toList = ([] : List UInt8) then (some (-1)) else (if 0 < (t134.size : Int) then (if (bt t134 0) = 114 then (some a0_1) else (some (-1))) else (none))) = some r := H
 have A2 := Aside0.mk A20
 clear A20
 by_cases c3 : t134.toList = ([] : List UInt8)
 ·rw [if_pos c3] at H
  have c3b0 : (t134.toList == ([] : List UInt8)) = true := beq_iff_eq.mpr c3
  have c3b1 : (t134.toList != ([] : List UInt8)) = false := bne_eq_false_iff_eq.mpr c3
  clear c3
  obtain rfl := Option.some.inj H
  go_enter Tryd.func12, Tryd.ntmps12
  go_wp2_with (first | ((with_reducible refine gate_dst (N := 1) rfl ?_); refine box_event ?hg (N := 1) ?hd (cs := #[.int .i64 a0_0, .int .i64 a0_1, .int .i64 a0_2, .int .i64 a0_3, .string a0_4, .slice A0_5 l0_5.length c0_5]) (t := 24) ?hr ?_; (case hd => rfl); (case hg => rfl); (case hr => first | (go_simp; done) | (go_simp; rfl)); intro gb133 hg w4 hbox hb; have n0_ := Aside0.mk (below_step (by repeat (first | (with_reducible first | exact HB.out | apply below_alloc | apply pw_below_drewN | apply below_drew1) | exact HB.out)) hb); have n1_ := Aside0.mk (hbox); have n2_ := Aside0.mk ((by rw [hg]; exact (below_size (by repeat (first | (with_reducible first | exact HB.out | apply below_alloc | apply pw_below_drewN | apply below_drew1) | exact HB.out))) : w.heap.size ≤ gb133)); have n3_ := Aside0.mk ((by rw [hg]; exact (below_size (by repeat (first | (with_reducible first | exact HB.out | apply below_alloc | apply pw_below_drewN | apply below_drew1) | exact HB.out))) : w.heap.size ≤ gb133)); clear HB; have HB := n0_; have BK133 := n1_; have GW133 := n2_; have GE133 := n3_; clear n0_ n1_ n2_ n3_; clear hb hbox hg; have hcz5_0 : w4.cell? ⟨gb133, 0, none⟩ = some (.int .i64 a0_0) := (blk_cell BK133.out 0).trans rfl; have hcz5_1 : w4.cell? ⟨gb133, 1, none⟩ = some (.int .i64 a0_1) := (blk_cell BK133.out 1).trans rfl; have hcz5_2 : w4.cell? ⟨gb133, 2, none⟩ = some (.int .i64 a0_2) := (blk_cell BK133.out 2).trans rfl; have hcz5_3 : w4.cell? ⟨gb133, 3, none⟩ = some (.int .i64 a0_3) := (blk_cell BK133.out 3).trans rfl; have hcz5_4 : w4.cell? ⟨gb133, 4, none⟩ = some (.string a0_4) := (blk_cell BK133.out 4).trans rfl; have hcz5_5 : w4.cell? ⟨gb133, 5, none⟩ = some (.slice A0_5 l0_5.length c0_5) := (blk_cell BK133.out 5).trans rfl; have hfz5_0 := blk_frozen BK133.out 0; have hfz5_1 := blk_frozen BK133.out 1; have hfz5_2 := blk_frozen BK133.out 2; have hfz5_3 := blk_frozen BK133.out 3; have hfz5_4 := blk_frozen BK133.out 4; have hfz5_5 := blk_frozen BK133.out 5) | ((with_reducible refine gate_callee (f := 30) rfl ?_); refine goesL_ (some 6) rfl rfl Tryd.func30 (by kernel_rfl) rfl #[.int .i64 a0_0] rfl (by (try simp only [List.map_toArray, List.map_cons, List.map_nil]); first | done | rfl | (simp only [List.length_drop, List.length_take]; rfl)) ?_; (with_reducible refine (ir_shape.calls a0_0 t134 _ A2.out (hL := ?side99)).mono ?_); (case side99 => exact LaidW.below HLd.out (by repeat (first | (with_reducible first | exact HB.out | apply below_alloc | apply pw_below_drewN | apply below_drew1 | refine below_set ?_ GE133.out) | exact HB.out))); rintro e w' ⟨rfl, ⟨nd, rfl⟩⟩; refine ⟨_, rfl, ?_⟩))
  go_ret
  exact ⟨by first | rfl | (simp [errW_none, errW_some] <;> rfl) | (simp [*, errW_none, errW_some] <;> rfl), by repeat (first | (with_reducible first | exact HB.out | apply below_alloc | apply pw_below_drewN | apply below_drew1 | refine below_set ?_ GE133.out) | exact HB.out)⟩
 ·rw [if_neg c3] at H
  have c3b0 : (t134.toList == ([] : List UInt8)) = false := beq_eq_false_iff_ne.mpr c3
  have c3b1 : (t134.toList != ([] : List UInt8)) = true := bne_iff_ne.mpr c3
  by_cases c6 : 0 < (t134.size : Int)
  ·rw [if_pos c6] at H
   have c6b0 : decide (0 < (t134.size : Int)) = true := decide_eq_true c6
   have c6b1 : decide (0 < t134.size) = true := decide_eq_true (by omega)
   clear c6
   by_cases c8 : (bt t134 0) = 114
   ·rw [if_pos c8] at H
    have c8b0 : ((bt t134 0) == 114) = true := beq_iff_eq.mpr c8
    have c8b1 : ((bt t134 0) != 114) = false := bne_eq_false_iff_eq.mpr c8
    clear c8
    obtain rfl := Option.some.inj H
    go_enter Tryd.func12, Tryd.ntmps12
    go_wp2_with (first | ((with_reducible refine gate_dst (N := 1) rfl ?_); refine box_event ?hg (N := 1) ?hd (cs := #[.int .i64 a0_0, .int .i64 a0_1, .int .i64 a0_2, .int .i64 a0_3, .string a0_4, .slice A0_5 l0_5.length c0_5]) (t := 24) ?hr ?_; (case hd => rfl); (case hg => rfl); (case hr => first | (go_simp; done) | (go_simp; rfl)); intro gb133 hg w9 hbox hb; have n0_ := Aside0.mk (below_step (by repeat (first | (with_reducible first | exact HB.out | apply below_alloc | apply pw_below_drewN | apply below_drew1) | exact HB.out)) hb); have n1_ := Aside0.mk (hbox); have n2_ := Aside0.mk ((by rw [hg]; exact (below_size (by repeat (first | (with_reducible first | exact HB.out | apply below_alloc | apply pw_below_drewN | apply below_drew1) | exact HB.out))) : w.heap.size ≤ gb133)); have n3_ := Aside0.mk ((by rw [hg]; exact (below_size (by repeat (first | (with_reducible first | exact HB.out | apply below_alloc | apply pw_below_drewN | apply below_drew1) | exact HB.out))) : w.heap.size ≤ gb133)); clear HB; have HB := n0_; have BK133 := n1_; have GW133 := n2_; have GE133 := n3_; clear n0_ n1_ n2_ n3_; clear hb hbox hg; have hcz10_0 : w9.cell? ⟨gb133, 0, none⟩ = some (.int .i64 a0_0) := (blk_cell BK133.out 0).trans rfl; have hcz10_1 : w9.cell? ⟨gb133, 1, none⟩ = some (.int .i64 a0_1) := (blk_cell BK133.out 1).trans rfl; have hcz10_2 : w9.cell? ⟨gb133, 2, none⟩ = some (.int .i64 a0_2) := (blk_cell BK133.out 2).trans rfl; have hcz10_3 : w9.cell? ⟨gb133, 3, none⟩ = some (.int .i64 a0_3) := (blk_cell BK133.out 3).trans rfl; have hcz10_4 : w9.cell? ⟨gb133, 4, none⟩ = some (.string a0_4) := (blk_cell BK133.out 4).trans rfl; have hcz10_5 : w9.cell? ⟨gb133, 5, none⟩ = some (.slice A0_5 l0_5.length c0_5) := (blk_cell BK133.out 5).trans rfl; have hfz10_0 := blk_frozen BK133.out 0; have hfz10_1 := blk_frozen BK133.out 1; have hfz10_2 := blk_frozen BK133.out 2; have hfz10_3 := blk_frozen BK133.out 3; have hfz10_4 := blk_frozen BK133.out 4; have hfz10_5 := blk_frozen BK133.out 5) | ((with_reducible refine gate_callee (f := 30) rfl ?_); refine goesL_ (some 6) rfl rfl Tryd.func30 (by kernel_rfl) rfl #[.int .i64 a0_0] rfl (by (try simp only [List.map_toArray, List.map_cons, List.map_nil]); first | done | rfl | (simp only [List.length_drop, List.length_take]; rfl)) ?_; (with_reducible refine (ir_shape.calls a0_0 t134 _ A2.out (hL := ?side99)).mono ?_); (case side99 => exact LaidW.below HLd.out (by repeat (first | (with_reducible first | exact HB.out | apply below_alloc | apply pw_below_drewN | apply below_drew1 | refine below_set ?_ GE133.out) | exact HB.out))); rintro e w' ⟨rfl, ⟨nd, rfl⟩⟩; refine ⟨_, rfl, ?_⟩; have p7 : 0 ≤ (0 : Int) := (by omega); have q7 : 0 < t134.size := (by have : (0 : Int) < (t134.size : Int) := of_decide_eq_true (by first | (with_reducible assumption) | assumption); omega); have hx7 : ∀ h : 0 < t134.size, ((t134[0]'h).toNat : Int) = bt t134 0 := bt_at t134 0; clear p7; have qi7 : (0 < (t134.size : Int)) = True := eq_true (of_decide_eq_true (by first | (with_reducible assumption) | assumption)); replace q7 := eq_true q7))
    go_ret
    exact ⟨by first | rfl | (simp [errW_none, errW_some] <;> rfl) | (simp [*, errW_none, errW_some] <;> rfl), by repeat (first | (with_reducible first | exact HB.out | apply below_alloc | apply pw_below_drewN | apply below_drew1 | refine below_set ?_ GE133.out) | exact HB.out)⟩
   ·rw [if_neg c8] at H
    have c8b0 : ((bt t134 0) == 114) = false := beq_eq_false_iff_ne.mpr c8
    have c8b1 : ((bt t134 0) != 114) = true := bne_iff_ne.mpr c8
    obtain rfl := Option.some.inj H
    go_enter Tryd.func12, Tryd.ntmps12
    go_wp2_with (first | ((with_reducible refine gate_dst (N := 1) rfl ?_); refine box_event ?hg (N := 1) ?hd (cs := #[.int .i64 a0_0, .int .i64 a0_1, .int .i64 a0_2, .int .i64 a0_3, .string a0_4, .slice A0_5 l0_5.length c0_5]) (t := 24) ?hr ?_; (case hd => rfl); (case hg => rfl); (case hr => first | (go_simp; done) | (go_simp; rfl)); intro gb133 hg w11 hbox hb; have n0_ := Aside0.mk (below_step (by repeat (first | (with_reducible first | exact HB.out | apply below_alloc | apply pw_below_drewN | apply below_drew1) | exact HB.out)) hb); have n1_ := Aside0.mk (hbox); have n2_ := Aside0.mk ((by rw [hg]; exact (below_size (by repeat (first | (with_reducible first | exact HB.out | apply below_alloc | apply pw_below_drewN | apply below_drew1) | exact HB.out))) : w.heap.size ≤ gb133)); have n3_ := Aside0.mk ((by rw [hg]; exact (below_size (by repeat (first | (with_reducible first | exact HB.out | apply below_alloc | apply pw_below_drewN | apply below_drew1) | exact HB.out))) : w.heap.size ≤ gb133)); clear HB; have HB := n0_; have BK133 := n1_; have GW133 := n2_; have GE133 := n3_; clear n0_ n1_ n2_ n3_; clear hb hbox hg; have hcz12_0 : w11.cell? ⟨gb133, 0, none⟩ = some (.int .i64 a0_0) := (blk_cell BK133.out 0).trans rfl; have hcz12_1 : w11.cell? ⟨gb133, 1, none⟩ = some (.int .i64 a0_1) := (blk_cell BK133.out 1).trans rfl; have hcz12_2 : w11.cell? ⟨gb133, 2, none⟩ = some (.int .i64 a0_2) := (blk_cell BK133.out 2).trans rfl; have hcz12_3 : w11.cell? ⟨gb133, 3, none⟩ = some (.int .i64 a0_3) := (blk_cell BK133.out 3).trans rfl; have hcz12_4 : w11.cell? ⟨gb133, 4, none⟩ = some (.string a0_4) := (blk_cell BK133.out 4).trans rfl; have hcz12_5 : w11.cell? ⟨gb133, 5, none⟩ = some (.slice A0_5 l0_5.length c0_5) := (blk_cell BK133.out 5).trans rfl; have hfz12_0 := blk_frozen BK133.out 0; have hfz12_1 := blk_frozen BK133.out 1; have hfz12_2 := blk_frozen BK133.out 2; have hfz12_3 := blk_frozen BK133.out 3; have hfz12_4 := blk_frozen BK133.out 4; have hfz12_5 := blk_frozen BK133.out 5) | ((with_reducible refine gate_callee (f := 30) rfl ?_); refine goesL_ (some 6) rfl rfl Tryd.func30 (by kernel_rfl) rfl #[.int .i64 a0_0] rfl (by (try simp only [List.map_toArray, List.map_cons, List.map_nil]); first | done | rfl | (simp only [List.length_drop, List.length_take]; rfl)) ?_; (with_reducible refine (ir_shape.calls a0_0 t134 _ A2.out (hL := ?side99)).mono ?_); (case side99 => exact LaidW.below HLd.out (by repeat (first | (with_reducible first | exact HB.out | apply below_alloc | apply pw_below_drewN | apply below_drew1 | refine below_set ?_ GE133.out) | exact HB.out))); rintro e w' ⟨rfl, ⟨nd, rfl⟩⟩; refine ⟨_, rfl, ?_⟩; have p7 : 0 ≤ (0 : Int) := (by omega); have q7 : 0 < t134.size := (by have : (0 : Int) < (t134.size : Int) := of_decide_eq_true (by first | (with_reducible assumption) | assumption); omega); have hx7 : ∀ h : 0 < t134.size, ((t134[0]'h).toNat : Int) = bt t134 0 := bt_at t134 0; clear p7; have qi7 : (0 < (t134.size : Int)) = True := eq_true (of_decide_eq_true (by first | (with_reducible assumption) | assumption)); replace q7 := eq_true q7))
    go_ret
    exact ⟨by first | rfl | (simp [errW_none, errW_some] <;> rfl) | (simp [*, errW_none, errW_some] <;> rfl), by repeat (first | (with_reducible first | exact HB.out | apply below_alloc | apply pw_below_drewN | apply below_drew1 | refine below_set ?_ GE133.out) | exact HB.out)⟩
  ·rw [if_neg c6] at H
   exact absurd H (by simp)

end Go.Proofs.YtgmklfaknomakaaDoor.Q
namespace Go.Proofs.YtgmklfaknomakaaDoor.Q
open Go.RowKit Go.Proofs.YtgmklfaknomakaaDoorW.PrintWords Go.Proofs.YtgmklfaknomakaaDoorW.PrintLast Go.Proofs.YtgmklfaknomakaaDoorW.PrintMore
attribute [local go_sem] max2_int min2_int max_two min_two max_three min_three max_four min_four   -- for this text's walks alone
set_option linter.unusedVariables false
set_option linter.unusedSimpArgs false

/-! ### ir_Uses: function 10 -/
def ir_Uses.j0 : Nat → List Int → ByteArray → Int → Int → Int → Int → ByteArray → List Int → Option (List Int)
 | 0, _, _, _, _, _, _, _, _ => none
 | k + 1, x3, x4, x104000, x104001, x104002, x104003, x104004, x104005 => if 2 < (x4.size : Int) then (if (bt x4 2) = 114 then (if x3.length < 17592186044416 then ((some (x3 ++ [x104003] : List Int)).bind fun y108 => (if x104000 = 11 then (if y108.length + x104005.length < 17592186044416 then (some (y108 ++ x104005)) else (none)) else (some y108))) else (none)) else (if x104000 = 11 then (if x3.length + x104005.length < 17592186044416 then (some (x3 ++ x104005)) else (none)) else (some x3))) else (none)
def ir_Uses.f (k : Nat) (a0_0 : Int) (a0_1 : Int) (a0_2 : Int) (a0_3 : Int) (a0_4 : ByteArray) (l0_5 : List Int) : Option (List Int) := (ir_shape.f a0_0).bind fun t104 => (if t104.toList = ([] : List UInt8) then (some ([] : List Int)) else (if 1 < (t104.size : Int) then (if (bt t104 1) = 114 then (if ([] : List Int).length < 17592186044416 then (ir_Uses.j0 k (([] : List Int) ++ [a0_2]) t104 a0_0 a0_1 a0_2 a0_3 a0_4 l0_5) else (none)) else (ir_Uses.j0 k ([] : List Int) t104 a0_0 a0_1 a0_2 a0_3 a0_4 l0_5)) else (none)))
theorem ir_Uses.mono_l : ∀ k, (∀ y0 y1 y2 y3 y4 y5 y6 y7, LeO (ir_Uses.j0 k y0 y1 y2 y3 y4 y5 y6 y7) (ir_Uses.j0 (k + 1) y0 y1 y2 y3 y4 y5 y6 y7))
 | 0 => fun _ _ _ _ _ _ _ _ r h => by simp [ir_Uses.j0] at h
 | k + 1 => by
  have ih0 := ir_Uses.mono_l k
  ·intro y0 y1 y2 y3 y4 y5 y6 y7
   unfold ir_Uses.j0
   repeat' first
   | (with_reducible exact ih0 _ _ _ _ _ _ _ _)
   | (with_reducible exact LeO.refl _)
   | (with_reducible exact LeO.none _)
   | (with_reducible refine LeO.ite ?_ ?_)
   | (with_reducible refine LeO.bind ?_ (fun _ => ?_))
   | exact ih0 _ _ _ _ _ _ _ _
   | exact LeO.none _
   | refine LeO.ite ?_ ?_
   | refine LeO.bind ?_ (fun _ => ?_)
theorem ir_Uses.mono : ∀ a0 a1 a2 a3 a4 a5 k, LeO (ir_Uses.f k a0 a1 a2 a3 a4 a5) (ir_Uses.f (k + 1) a0 a1 a2 a3 a4 a5) := by
 intro a0 a1 a2 a3 a4 a5 k
 have ih0 := ir_Uses.mono_l k
 unfold ir_Uses.f
 repeat' first
   | (with_reducible exact ih0 _ _ _ _ _ _ _ _)
   | (with_reducible exact LeO.refl _)
   | (with_reducible exact LeO.none _)
   | (with_reducible refine LeO.ite ?_ ?_)
   | (with_reducible refine LeO.bind ?_ (fun _ => ?_))
   | exact ih0 _ _ _ _ _ _ _ _
   | exact LeO.none _
   | refine LeO.ite ?_ ?_
   | refine LeO.bind ?_ (fun _ => ?_)
set_option maxHeartbeats 8000000 in
set_option maxRecDepth 100000 in
theorem ir_Uses.calls (k : Nat) (a0_0 : Int) (a0_1 : Int) (a0_2 : Int) (a0_3 : Int) (a0_4 : ByteArray) (A0_5 : Option Addr) (c0_5 : Nat) (l0_5 : List Int) (r : List Int) (w : World) (hL : LaidW w) (hr0_5 : Kd.C (Kd.int .i64) w A0_5 l0_5.length l0_5) (hc0_5 : l0_5.length ≤ c0_5) (h : ir_Uses.f k a0_0 a0_1 a0_2 a0_3 a0_4 l0_5 = some r) :
  Calls Tryd.prog 10 #[.agg #[.int .i64 a0_0, .int .i64 a0_1, .int .i64 a0_2, .int .i64 a0_3, .string a0_4, .slice A0_5 l0_5.length c0_5]] w fun e w' => ∃ v0_ : Value, e = .returned (v0_) ∧ Kd.R (Kd.int .i64) 3 w' w.heap.size (fun _ => True) v0_ r ∧ Below w.heap.size w w' := by
 have hu24 := Tryd.underlying24
 have HR0_5 := Aside0.mk hr0_5
 have HC0_5 := Aside0.mk hc0_5
 clear hr0_5 hc0_5
 have HB := Aside0.mk (Below.refl w.heap.size w)
 have HLd := Aside0.mk hL
 clear hL
 have H : ((ir_shape.f a0_0).bind fun t104 => (if t104.toList = ([] : List UInt8) then (some ([] : List Int)) else (if 1 < (t104.size : Int) then (if (bt t104 1) = 114 then (if ([] : List Int).length < 17592186044416 then (ir_Uses.j0 k (([] : List Int) ++ [a0_2]) t104 a0_0 a0_1 a0_2 a0_3 a0_4 l0_5) else (none)) else (ir_Uses.j0 k ([] : List Int) t104 a0_0 a0_1 a0_2 a0_3 a0_4 l0_5)) else (none)))) = some r := h
 clear h
 replace H := Option.bind_eq_some_iff.mp H
 obtain ⟨t104, A20, H⟩ := H
 replace H : (if t104.toList = ([] : List UInt8) then (some ([] : List Int)) else (if 1 < (t104.size : Int) then (if (bt t104 1) = 114 then (if ([] : List Int).length < 17592186044416 then (ir_Uses.j0 k (([] : List Int) ++ [a0_2]) t104 a0_0 a0_1 a0_2 a0_3 a0_4 l0_5) else (none)) else (ir_Uses.j0 k ([] : List Int) t104 a0_0 a0_1 a0_2 a0_3 a0_4 l0_5)) else (none))) = some r := H
 have A2 := Aside0.mk A20
 clear A20
 by_cases c3 : t104.toList = ([] : List UInt8)
 ·rw [if_pos c3] at H
  have c3b0 : (t104.toList == ([] : List UInt8)) = true := beq_iff_eq.mpr c3
  have c3b1 : (t104.toList != ([] : List UInt8)) = false := bne_eq_false_iff_eq.mpr c3
  clear c3
  obtain rfl := Option.some.inj H
  go_enter Tryd.func10, Tryd.ntmps10
  go_wp2_with (first | ((with_reducible refine gate_dst (N := 1) rfl ?_); refine box_event ?hg (N := 1) ?hd (cs := #[.int .i64 a0_0, .int .i64 a0_1, .int .i64 a0_2, .int .i64 a0_3, .string a0_4, .slice A0_5 l0_5.length c0_5]) (t := 24) ?hr ?_; (case hd => rfl); (case hg => rfl); (case hr => first | (go_simp; done) | (go_simp; rfl)); intro gb103 hg w4 hbox hb; have n0_ := Aside0.mk (below_step (by repeat (first | (with_reducible first | exact HB.out | apply below_alloc | apply pw_below_drewN | apply below_drew1) | exact HB.out)) hb); have n1_ := Aside0.mk (hbox); have n2_ := Aside0.mk ((by rw [hg]; exact (below_size (by repeat (first | (with_reducible first | exact HB.out | apply below_alloc | apply pw_below_drewN | apply below_drew1) | exact HB.out))) : w.heap.size ≤ gb103)); have n3_ := Aside0.mk ((by rw [hg]; exact (below_size (by repeat (first | (with_reducible first | exact HB.out | apply below_alloc | apply pw_below_drewN | apply below_drew1) | exact HB.out))) : w.heap.size ≤ gb103)); clear HB; have HB := n0_; have BK103 := n1_; have GW103 := n2_; have GE103 := n3_; clear n0_ n1_ n2_ n3_; clear hb hbox hg; have hcz5_0 : w4.cell? ⟨gb103, 0, none⟩ = some (.int .i64 a0_0) := (blk_cell BK103.out 0).trans rfl; have hcz5_1 : w4.cell? ⟨gb103, 1, none⟩ = some (.int .i64 a0_1) := (blk_cell BK103.out 1).trans rfl; have hcz5_2 : w4.cell? ⟨gb103, 2, none⟩ = some (.int .i64 a0_2) := (blk_cell BK103.out 2).trans rfl; have hcz5_3 : w4.cell? ⟨gb103, 3, none⟩ = some (.int .i64 a0_3) := (blk_cell BK103.out 3).trans rfl; have hcz5_4 : w4.cell? ⟨gb103, 4, none⟩ = some (.string a0_4) := (blk_cell BK103.out 4).trans rfl; have hcz5_5 : w4.cell? ⟨gb103, 5, none⟩ = some (.slice A0_5 l0_5.length c0_5) := (blk_cell BK103.out 5).trans rfl; have hfz5_0 := blk_frozen BK103.out 0; have hfz5_1 := blk_frozen BK103.out 1; have hfz5_2 := blk_frozen BK103.out 2; have hfz5_3 := blk_frozen BK103.out 3; have hfz5_4 := blk_frozen BK103.out 4; have hfz5_5 := blk_frozen BK103.out 5) | ((with_reducible refine gate_callee (f := 30) rfl ?_); refine goesL_ (some 7) rfl rfl Tryd.func30 (by kernel_rfl) rfl #[.int .i64 a0_0] rfl (by (try simp only [List.map_toArray, List.map_cons, List.map_nil]); first | done | rfl | (simp only [List.length_drop, List.length_take]; rfl)) ?_; (with_reducible refine (ir_shape.calls a0_0 t104 _ A2.out (hL := ?side99)).mono ?_); (case side99 => exact LaidW.below HLd.out (by repeat (first | (with_reducible first | exact HB.out | apply below_alloc | apply pw_below_drewN | apply below_drew1 | refine below_set ?_ GE103.out) | exact HB.out))); rintro e w' ⟨rfl, ⟨nd, rfl⟩⟩; refine ⟨_, rfl, ?_⟩))
  go_ret
  exact ⟨_, by first | rfl | (simp [errW_none, errW_some] <;> rfl) | (simp [*, errW_none, errW_some] <;> rfl), by first | exact Kd.R_nil _ _ _ _ _ | exact Kd.N_nil _ _ _ _ _ | exact Kd.V_nil _ _ _ _ _ | exact Kd.Q_nil _ _ _ _ _ | exact Kd.S_nil _ _ _ _ _, by repeat (first | (with_reducible first | exact HB.out | apply below_alloc | apply pw_below_drewN | apply below_drew1 | refine below_set ?_ GE103.out) | exact HB.out)⟩
 ·rw [if_neg c3] at H
  have c3b0 : (t104.toList == ([] : List UInt8)) = false := beq_eq_false_iff_ne.mpr c3
  have c3b1 : (t104.toList != ([] : List UInt8)) = true := bne_iff_ne.mpr c3
  by_cases c6 : 1 < (t104.size : Int)
  ·rw [if_pos c6] at H
   have c6b0 : decide (1 < (t104.size : Int)) = true := decide_eq_true c6
   have c6b1 : decide (1 < t104.size) = true := decide_eq_true (by omega)
   clear c6
   have HC8 := Aside0.mk H
   clear H
   go_enter Tryd.func10, Tryd.ntmps10
   go_upto_if 12 with (first | ((with_reducible refine gate_dst (N := 1) rfl ?_); refine box_event ?hg (N := 1) ?hd (cs := #[.int .i64 a0_0, .int .i64 a0_1, .int .i64 a0_2, .int .i64 a0_3, .string a0_4, .slice A0_5 l0_5.length c0_5]) (t := 24) ?hr ?_; (case hd => rfl); (case hg => rfl); (case hr => first | (go_simp; done) | (go_simp; rfl)); intro gb103 hg w9 hbox hb; have n0_ := Aside0.mk (below_step (by repeat (first | (with_reducible first | exact HB.out | apply below_alloc | apply pw_below_drewN | apply below_drew1) | exact HB.out)) hb); have n1_ := Aside0.mk (hbox); have n2_ := Aside0.mk ((by rw [hg]; exact (below_size (by repeat (first | (with_reducible first | exact HB.out | apply below_alloc | apply pw_below_drewN | apply below_drew1) | exact HB.out))) : w.heap.size ≤ gb103)); have n3_ := Aside0.mk ((by rw [hg]; exact (below_size (by repeat (first | (with_reducible first | exact HB.out | apply below_alloc | apply pw_below_drewN | apply below_drew1) | exact HB.out))) : w.heap.size ≤ gb103)); clear HB; have HB := n0_; have BK103 := n1_; have GW103 := n2_; have GE103 := n3_; clear n0_ n1_ n2_ n3_; clear hb hbox hg; have hcz10_0 : w9.cell? ⟨gb103, 0, none⟩ = some (.int .i64 a0_0) := (blk_cell BK103.out 0).trans rfl; have hcz10_1 : w9.cell? ⟨gb103, 1, none⟩ = some (.int .i64 a0_1) := (blk_cell BK103.out 1).trans rfl; have hcz10_2 : w9.cell? ⟨gb103, 2, none⟩ = some (.int .i64 a0_2) := (blk_cell BK103.out 2).trans rfl; have hcz10_3 : w9.cell? ⟨gb103, 3, none⟩ = some (.int .i64 a0_3) := (blk_cell BK103.out 3).trans rfl; have hcz10_4 : w9.cell? ⟨gb103, 4, none⟩ = some (.string a0_4) := (blk_cell BK103.out 4).trans rfl; have hcz10_5 : w9.cell? ⟨gb103, 5, none⟩ = some (.slice A0_5 l0_5.length c0_5) := (blk_cell BK103.out 5).trans rfl; have hfz10_0 := blk_frozen BK103.out 0; have hfz10_1 := blk_frozen BK103.out 1; have hfz10_2 := blk_frozen BK103.out 2; have hfz10_3 := blk_frozen BK103.out 3; have hfz10_4 := blk_frozen BK103.out 4; have hfz10_5 := blk_frozen BK103.out 5) | ((with_reducible refine gate_callee (f := 30) rfl ?_); refine goesL_ (some 7) rfl rfl Tryd.func30 (by kernel_rfl) rfl #[.int .i64 a0_0] rfl (by (try simp only [List.map_toArray, List.map_cons, List.map_nil]); first | done | rfl | (simp only [List.length_drop, List.length_take]; rfl)) ?_; (with_reducible refine (ir_shape.calls a0_0 t104 _ A2.out (hL := ?side99)).mono ?_); (case side99 => exact LaidW.below HLd.out (by repeat (first | (with_reducible first | exact HB.out | apply below_alloc | apply pw_below_drewN | apply below_drew1 | refine below_set ?_ GE103.out) | exact HB.out))); rintro e w' ⟨rfl, ⟨nd, rfl⟩⟩; refine ⟨_, rfl, ?_⟩; have p7 : 0 ≤ (1 : Int) := (by omega); have q7 : 1 < t104.size := (by have : (1 : Int) < (t104.size : Int) := of_decide_eq_true (by first | (with_reducible assumption) | assumption); omega); have hx7 : ∀ h : 1 < t104.size, ((t104[1]'h).toNat : Int) = bt t104 1 := bt_at t104 1; clear p7; have qi7 : (1 < (t104.size : Int)) = True := eq_true (of_decide_eq_true (by first | (with_reducible assumption) | assumption)); replace q7 := eq_true q7))
   (try simp only [Act.put, List.setIfInBounds_toArray, List.set_cons_zero, List.set_cons_succ])
   go_cut [3] (fun v3 wc => ∃ (kq : Nat) (x3_7 : List Int), Aside0 (ir_Uses.j0 kq x3_7 t104 a0_0 a0_1 a0_2 a0_3 a0_4 l0_5 = some r) ∧ Aside0 (kq ≤ k) ∧ Aside0 (Kd.R (Kd.int .i64) 3 wc w.heap.size (fun _ => True) v3 x3_7) ∧ Aside0 (wc.heap[gb103]? = some (.cells #[.int .i64 a0_0, .int .i64 a0_1, .int .i64 a0_2, .int .i64 a0_3, .string a0_4, (.slice A0_5 l0_5.length c0_5)] 24 (0, 0))) ∧ Aside0 (Below w.heap.size w wc))
   case first =>
    have H := HC8.out
    clear HC8
    by_cases c11 : (bt t104 1) = 114
    ·rw [if_pos c11] at H
     have c11b0 : ((bt t104 1) == 114) = true := beq_iff_eq.mpr c11
     have c11b1 : ((bt t104 1) != 114) = false := bne_eq_false_iff_eq.mpr c11
     clear c11
     (first | rw [c11b0] | (simp only [i64_w, i32_w]; rw [c11b0]) | skip)
     by_cases c12 : ([] : List Int).length < 17592186044416
     ·rw [if_pos c12] at H
      have LMc12 := Aside0.mk c12
      clear c12
      obtain ⟨y105, hy105⟩ : ∃ y_ : List Int, y_ = (([] : List Int) ++ [a0_2]) := ⟨_, rfl⟩
      replace H : (ir_Uses.j0 k y105 t104 a0_0 a0_1 a0_2 a0_3 a0_4 l0_5) = some r := by first | (rw [hy105]; with_reducible exact H) | (have H2_ := (Option.bind_some _ _).symm.trans H; rw [hy105]; with_reducible exact H2_) | (have H2_ := (Option.bind_some _ _).symm.trans H; with_reducible exact H2_) | with_reducible exact H | (rw [hy105]; exact H) | exact H
      have Ny105 := Aside0.mk hy105
      clear hy105
      have H' := Aside0.mk H
      clear H
      have hcz13_0 : w9.cell? ⟨gb103, 0, none⟩ = some (.int .i64 a0_0) := (blk_cell BK103.out 0).trans rfl
      have hcz13_1 : w9.cell? ⟨gb103, 1, none⟩ = some (.int .i64 a0_1) := (blk_cell BK103.out 1).trans rfl
      have hcz13_2 : w9.cell? ⟨gb103, 2, none⟩ = some (.int .i64 a0_2) := (blk_cell BK103.out 2).trans rfl
      have hcz13_3 : w9.cell? ⟨gb103, 3, none⟩ = some (.int .i64 a0_3) := (blk_cell BK103.out 3).trans rfl
      have hcz13_4 : w9.cell? ⟨gb103, 4, none⟩ = some (.string a0_4) := (blk_cell BK103.out 4).trans rfl
      have hcz13_5 : w9.cell? ⟨gb103, 5, none⟩ = some (.slice A0_5 l0_5.length c0_5) := (blk_cell BK103.out 5).trans rfl
      have hfz13_0 := blk_frozen BK103.out 0
      have hfz13_1 := blk_frozen BK103.out 1
      have hfz13_2 := blk_frozen BK103.out 2
      have hfz13_3 := blk_frozen BK103.out 3
      have hfz13_4 := blk_frozen BK103.out 4
      have hfz13_5 := blk_frozen BK103.out 5
      go_wp2_with (first | ((with_reducible refine gate_builtin (b := .append) (xs := #[.tmp 13, .tmp 16]) rfl ?_); at_builtin; refine Kd.R_append (Kd.int .i64) (w0 := w) w.heap.size rfl (.tmp 13) (.tmp 16) 22 3 (.int .i64 0) 8 rfl Tryd.underlying22 info3 rfl (by decide) (by omega) (.slice none 0 0) ([] : List Int) a0_2 [.int .i64 a0_2] (fun _ => True) (fun _ => False) rfl rfl ?aP (fun _ hk => hk.elim) ?aF ?aO ?aB ?aS ?aL ?_; (case aP => exact rfl); (case aB => exact (by repeat (first | (with_reducible first | exact HB.out | apply below_alloc | apply pw_below_drewN | apply below_drew1 | refine below_set ?_ GE103.out) | exact HB.out))); (case aF => exact (fun _ _ => trivial)); (case aO => exact ((Kd.R_nil _ _ _ _ (fun _ => True)))); (case aS => exact (below_size (by repeat (first | (with_reducible first | exact HB.out | apply below_alloc | apply pw_below_drewN | apply below_drew1 | refine below_set ?_ GE103.out) | exact HB.out)))); (case aL => have := LMc12.out; omega); intro v106 w14 ho hb hg hat; rw [← Ny105.out] at ho; have n0_ := Aside0.mk (blk_grown (g := gb103) (o := .cells #[.int .i64 a0_0, .int .i64 a0_1, .int .i64 a0_2, .int .i64 a0_3, .string a0_4, .slice A0_5 l0_5.length c0_5] 24 (0, 0)) (by (with_reducible repeat (first | refine blk_drewN ?_ _ | refine blk_drew ?_ | refine blk_alloc ?_ _)); exact BK103.out) hg (by simp [Value.ownBlock])); have n1_ := Aside0.mk (hb); have n2_ := Aside0.mk (ho); clear BK103; clear HB; have BK103 := n0_; have HB := n1_; have HO107 := n2_; clear n0_ n1_ n2_; clear ho hb hg hat))
      go_meet
      case rel => exact ⟨_, (y105), H', ⟨by first | omega | exact Nat.le_refl _⟩, ⟨by (with_reducible repeat (first | apply Kd.R_alloc | apply Kd.R_drewN | apply Kd.R_drew)); exact HO107.out⟩, ⟨by (with_reducible repeat (first | refine blk_drewN ?_ _ | refine blk_drew ?_ | refine blk_alloc ?_ _)); exact BK103.out⟩, ⟨by repeat (first | (with_reducible first | exact HB.out | apply below_alloc | apply pw_below_drewN | apply below_drew1 | refine below_set ?_ GE103.out) | exact HB.out)⟩⟩
     ·rw [if_neg c12] at H
      exact absurd H (by simp)
    ·rw [if_neg c11] at H
     have c11b0 : ((bt t104 1) == 114) = false := beq_eq_false_iff_ne.mpr c11
     have c11b1 : ((bt t104 1) != 114) = true := bne_iff_ne.mpr c11
     (first | rw [c11b0] | (simp only [i64_w, i32_w]; rw [c11b0]) | skip)
     have H' := Aside0.mk H
     clear H
     go_wp2
     go_meet
     case rel => exact ⟨_, (([] : List Int)), H', ⟨by first | omega | exact Nat.le_refl _⟩, ⟨by first | exact Kd.R_nil _ _ _ _ _ | exact Kd.N_nil _ _ _ _ _ | exact Kd.V_nil _ _ _ _ _ | exact Kd.Q_nil _ _ _ _ _ | exact Kd.S_nil _ _ _ _ _⟩, ⟨by (with_reducible repeat (first | refine blk_drewN ?_ _ | refine blk_drew ?_ | refine blk_alloc ?_ _)); exact BK103.out⟩, ⟨by repeat (first | (with_reducible first | exact HB.out | apply below_alloc | apply pw_below_drewN | apply below_drew1 | refine below_set ?_ GE103.out) | exact HB.out)⟩⟩
   case rest =>
    clear HC8
    try clear c1
    try clear p2
    try clear c3
    try clear c3b0
    try clear c3b1
    try clear c6
    try clear c6b0
    try clear c6b1
    try clear p7
    try clear q7
    try clear hx7
    try clear qi7
    try clear c10
    try clear c11
    try clear c11b0
    try clear c11b1
    try clear c12
    try clear hcz10_0
    try clear hcz10_1
    try clear hcz10_2
    try clear hcz10_3
    try clear hcz10_4
    try clear hcz10_5
    try clear hcz13_0
    try clear hcz13_1
    try clear hcz13_2
    try clear hcz13_3
    try clear hcz13_4
    try clear hcz13_5
    try clear hcz5_0
    try clear hcz5_1
    try clear hcz5_2
    try clear hcz5_3
    try clear hcz5_4
    try clear hcz5_5
    try clear hfz10_0
    try clear hfz10_1
    try clear hfz10_2
    try clear hfz10_3
    try clear hfz10_4
    try clear hfz10_5
    try clear hfz13_0
    try clear hfz13_1
    try clear hfz13_2
    try clear hfz13_3
    try clear hfz13_4
    try clear hfz13_5
    try clear hfz5_0
    try clear hfz5_1
    try clear hfz5_2
    try clear hfz5_3
    try clear hfz5_4
    try clear hfz5_5
    try clear p7
    try clear q7
    obtain ⟨kq, x3_7, HA, HJ7, HO_3, BK103, HB⟩ := hcut
    cases kq with
    | zero => exact absurd HA.out (by simp [ir_Uses.j0])
    | succ kj7 =>
     have H := HA.out
     clear HA
     simp only [ir_Uses.j0] at H
     by_cases c15 : 2 < (t104.size : Int)
     ·rw [if_pos c15] at H
      have c15b0 : decide (2 < (t104.size : Int)) = true := decide_eq_true c15
      have c15b1 : decide (2 < t104.size) = true := decide_eq_true (by omega)
      clear c15
      by_cases c17 : (bt t104 2) = 114
      ·rw [if_pos c17] at H
       have c17b0 : ((bt t104 2) == 114) = true := beq_iff_eq.mpr c17
       have c17b1 : ((bt t104 2) != 114) = false := bne_eq_false_iff_eq.mpr c17
       clear c17
       by_cases c18 : x3_7.length < 17592186044416
       ·rw [if_pos c18] at H
        have LMc18 := Aside0.mk c18
        clear c18
        obtain ⟨y108, hy108⟩ : ∃ y_ : List Int, y_ = (x3_7 ++ [a0_3]) := ⟨_, rfl⟩
        replace H : (if a0_0 = 11 then (if y108.length + l0_5.length < 17592186044416 then (some (y108 ++ l0_5)) else (none)) else (some y108)) = some r := by first | (rw [hy108]; with_reducible exact H) | (have H2_ := (Option.bind_some _ _).symm.trans H; rw [hy108]; with_reducible exact H2_) | (have H2_ := (Option.bind_some _ _).symm.trans H; with_reducible exact H2_) | with_reducible exact H | (rw [hy108]; exact H) | exact H
        have Ny108 := Aside0.mk hy108
        clear hy108
        by_cases c19 : a0_0 = 11
        ·rw [if_pos c19] at H
         have c19b0 : (a0_0 == 11) = true := beq_iff_eq.mpr c19
         have c19b1 : (a0_0 != 11) = false := bne_eq_false_iff_eq.mpr c19
         clear c19
         by_cases c20 : y108.length + l0_5.length < 17592186044416
         ·rw [if_pos c20] at H
          have LMc20 := Aside0.mk c20
          clear c20
          obtain ⟨y111, hy111⟩ : ∃ y_ : List Int, y_ = (y108 ++ l0_5) := ⟨_, rfl⟩
          replace H : (some y111) = some r := by first | (rw [hy111]; with_reducible exact H) | (have H2_ := (Option.bind_some _ _).symm.trans H; rw [hy111]; with_reducible exact H2_) | (have H2_ := (Option.bind_some _ _).symm.trans H; with_reducible exact H2_) | with_reducible exact H | (rw [hy111]; exact H) | exact H
          have Ny111 := Aside0.mk hy111
          clear hy111
          obtain rfl := Option.some.inj H
          have p16 : 0 ≤ (2 : Int) := (by omega)
          have q16 : 2 < t104.size := (by have : (2 : Int) < (t104.size : Int) := of_decide_eq_true (by first | (with_reducible assumption) | assumption); omega)
          have hx16 : ∀ h : 2 < t104.size, ((t104[2]'h).toNat : Int) = bt t104 2 := bt_at t104 2
          clear p16
          have qi16 : (2 < (t104.size : Int)) = True := eq_true (of_decide_eq_true (by first | (with_reducible assumption) | assumption))
          replace q16 := eq_true q16
          have hcz21_0 : wc.cell? ⟨gb103, 0, none⟩ = some (.int .i64 a0_0) := (blk_cell BK103.out 0).trans rfl
          have hcz21_1 : wc.cell? ⟨gb103, 1, none⟩ = some (.int .i64 a0_1) := (blk_cell BK103.out 1).trans rfl
          have hcz21_2 : wc.cell? ⟨gb103, 2, none⟩ = some (.int .i64 a0_2) := (blk_cell BK103.out 2).trans rfl
          have hcz21_3 : wc.cell? ⟨gb103, 3, none⟩ = some (.int .i64 a0_3) := (blk_cell BK103.out 3).trans rfl
          have hcz21_4 : wc.cell? ⟨gb103, 4, none⟩ = some (.string a0_4) := (blk_cell BK103.out 4).trans rfl
          have hcz21_5 : wc.cell? ⟨gb103, 5, none⟩ = some (.slice A0_5 l0_5.length c0_5) := (blk_cell BK103.out 5).trans rfl
          have hfz21_0 := blk_frozen BK103.out 0
          have hfz21_1 := blk_frozen BK103.out 1
          have hfz21_2 := blk_frozen BK103.out 2
          have hfz21_3 := blk_frozen BK103.out 3
          have hfz21_4 := blk_frozen BK103.out 4
          have hfz21_5 := blk_frozen BK103.out 5
          go_wp2_with (first | ((with_reducible refine gate_builtin (b := .append) (xs := #[.tmp 21, .tmp 24]) rfl ?_); at_builtin; refine Kd.R_append (Kd.int .i64) (w0 := w) w.heap.size rfl (.tmp 21) (.tmp 24) 22 3 (.int .i64 0) 8 rfl Tryd.underlying22 info3 rfl (by decide) (by omega) u3 x3_7 a0_3 [.int .i64 a0_3] (fun _ => True) (fun _ => False) rfl rfl ?aP (fun _ hk => hk.elim) ?aF ?aO ?aB ?aS ?aL ?_; (case aP => exact rfl); (case aB => exact (by repeat (first | (with_reducible first | exact HB.out | apply below_alloc | apply pw_below_drewN | apply below_drew1 | refine below_set ?_ GE103.out) | exact HB.out))); (case aF => exact (fun _ _ => trivial)); (case aO => exact (by (with_reducible repeat (first | apply Kd.R_alloc | apply Kd.R_drewN | apply Kd.R_drew)); exact HO_3.out)); (case aS => exact (below_size (by repeat (first | (with_reducible first | exact HB.out | apply below_alloc | apply pw_below_drewN | apply below_drew1 | refine below_set ?_ GE103.out) | exact HB.out)))); (case aL => have := LMc18.out; omega); intro v109 w22 ho hb hg hat; rw [← Ny108.out] at ho; have n0_ := Aside0.mk (blk_grown (g := gb103) (o := .cells #[.int .i64 a0_0, .int .i64 a0_1, .int .i64 a0_2, .int .i64 a0_3, .string a0_4, .slice A0_5 l0_5.length c0_5] 24 (0, 0)) (by (with_reducible repeat (first | refine blk_drewN ?_ _ | refine blk_drew ?_ | refine blk_alloc ?_ _)); exact BK103.out) hg (Kd.R_ne HO_3.out BK103.out (by decide))); have n1_ := Aside0.mk (hb); have n2_ := Aside0.mk (ho); clear BK103; clear HB; clear HO_3; have BK103 := n0_; have HB := n1_; have HO110 := n2_; clear n0_ n1_ n2_; clear ho hb hg hat; have hcz23_0 : w22.cell? ⟨gb103, 0, none⟩ = some (.int .i64 a0_0) := (blk_cell BK103.out 0).trans rfl; have hcz23_1 : w22.cell? ⟨gb103, 1, none⟩ = some (.int .i64 a0_1) := (blk_cell BK103.out 1).trans rfl; have hcz23_2 : w22.cell? ⟨gb103, 2, none⟩ = some (.int .i64 a0_2) := (blk_cell BK103.out 2).trans rfl; have hcz23_3 : w22.cell? ⟨gb103, 3, none⟩ = some (.int .i64 a0_3) := (blk_cell BK103.out 3).trans rfl; have hcz23_4 : w22.cell? ⟨gb103, 4, none⟩ = some (.string a0_4) := (blk_cell BK103.out 4).trans rfl; have hcz23_5 : w22.cell? ⟨gb103, 5, none⟩ = some (.slice A0_5 l0_5.length c0_5) := (blk_cell BK103.out 5).trans rfl; have hfz23_0 := blk_frozen BK103.out 0; have hfz23_1 := blk_frozen BK103.out 1; have hfz23_2 := blk_frozen BK103.out 2; have hfz23_3 := blk_frozen BK103.out 3; have hfz23_4 := blk_frozen BK103.out 4; have hfz23_5 := blk_frozen BK103.out 5) | ((with_reducible refine gate_builtin (b := .append) (xs := #[.tmp 29, .tmp 31]) rfl ?_); at_builtin; refine Kd.R_append_rows (Kd.int .i64) (w0 := w) w.heap.size rfl (.tmp 29) (.tmp 31) 22 3 (.int .i64 0) 8 rfl Tryd.underlying22 info3 rfl (by decide) (by omega) v109 y108 l0_5 _ _ _ (fun _ => True) (fun _ => False) rfl rfl ?aO ?aR (fun _ _ h => h) (fun _ h => h.elim) ?aF ?aB ?aS ?aL ?_; (case aR => repeat (first | exact (Kd.C_below HR0_5.out HB.out) | (with_reducible refine Kd.C_alloc ?_ _) | (with_reducible refine Kd.C_drewN ?_ _) | (with_reducible refine Kd.C_drew ?_))); (case aB => exact (by repeat (first | (with_reducible first | exact HB.out | apply below_alloc | apply pw_below_drewN | apply below_drew1 | refine below_set ?_ GE103.out) | exact HB.out))); (case aF => exact (fun _ _ => trivial)); (case aO => exact (by (with_reducible repeat (first | apply Kd.R_alloc | apply Kd.R_drewN | apply Kd.R_drew)); exact HO110.out)); (case aS => exact (below_size (by repeat (first | (with_reducible first | exact HB.out | apply below_alloc | apply pw_below_drewN | apply below_drew1 | refine below_set ?_ GE103.out) | exact HB.out)))); (case aL => have := LMc20.out; omega); intro v112 w24 ho hb hg hat; rw [← Ny111.out] at ho; have n0_ := Aside0.mk (blk_grown (g := gb103) (o := .cells #[.int .i64 a0_0, .int .i64 a0_1, .int .i64 a0_2, .int .i64 a0_3, .string a0_4, .slice A0_5 l0_5.length c0_5] 24 (0, 0)) (by (with_reducible repeat (first | refine blk_drewN ?_ _ | refine blk_drew ?_ | refine blk_alloc ?_ _)); exact BK103.out) hg (Kd.R_ne HO110.out BK103.out (by decide))); have n1_ := Aside0.mk (hb); have n2_ := Aside0.mk (ho); clear BK103; clear HB; clear HO110; have BK103 := n0_; have HB := n1_; have HO113 := n2_; clear n0_ n1_ n2_; clear ho hb hg hat))
          go_ret
          exact ⟨_, by first | rfl | (simp [errW_none, errW_some] <;> rfl) | (simp [*, errW_none, errW_some] <;> rfl), by (with_reducible repeat (first | apply Kd.R_alloc | apply Kd.R_drewN | apply Kd.R_drew)); exact HO113.out, by repeat (first | (with_reducible first | exact HB.out | apply below_alloc | apply pw_below_drewN | apply below_drew1 | refine below_set ?_ GE103.out) | exact HB.out)⟩
         ·rw [if_neg c20] at H
          exact absurd H (by simp)
        ·rw [if_neg c19] at H
         have c19b0 : (a0_0 == 11) = false := beq_eq_false_iff_ne.mpr c19
         have c19b1 : (a0_0 != 11) = true := bne_iff_ne.mpr c19
         obtain rfl := Option.some.inj H
         have p16 : 0 ≤ (2 : Int) := (by omega)
         have q16 : 2 < t104.size := (by have : (2 : Int) < (t104.size : Int) := of_decide_eq_true (by first | (with_reducible assumption) | assumption); omega)
         have hx16 : ∀ h : 2 < t104.size, ((t104[2]'h).toNat : Int) = bt t104 2 := bt_at t104 2
         clear p16
         have qi16 : (2 < (t104.size : Int)) = True := eq_true (of_decide_eq_true (by first | (with_reducible assumption) | assumption))
         replace q16 := eq_true q16
         have hcz25_0 : wc.cell? ⟨gb103, 0, none⟩ = some (.int .i64 a0_0) := (blk_cell BK103.out 0).trans rfl
         have hcz25_1 : wc.cell? ⟨gb103, 1, none⟩ = some (.int .i64 a0_1) := (blk_cell BK103.out 1).trans rfl
         have hcz25_2 : wc.cell? ⟨gb103, 2, none⟩ = some (.int .i64 a0_2) := (blk_cell BK103.out 2).trans rfl
         have hcz25_3 : wc.cell? ⟨gb103, 3, none⟩ = some (.int .i64 a0_3) := (blk_cell BK103.out 3).trans rfl
         have hcz25_4 : wc.cell? ⟨gb103, 4, none⟩ = some (.string a0_4) := (blk_cell BK103.out 4).trans rfl
         have hcz25_5 : wc.cell? ⟨gb103, 5, none⟩ = some (.slice A0_5 l0_5.length c0_5) := (blk_cell BK103.out 5).trans rfl
         have hfz25_0 := blk_frozen BK103.out 0
         have hfz25_1 := blk_frozen BK103.out 1
         have hfz25_2 := blk_frozen BK103.out 2
         have hfz25_3 := blk_frozen BK103.out 3
         have hfz25_4 := blk_frozen BK103.out 4
         have hfz25_5 := blk_frozen BK103.out 5
         go_wp2_with (first | ((with_reducible refine gate_builtin (b := .append) (xs := #[.tmp 21, .tmp 24]) rfl ?_); at_builtin; refine Kd.R_append (Kd.int .i64) (w0 := w) w.heap.size rfl (.tmp 21) (.tmp 24) 22 3 (.int .i64 0) 8 rfl Tryd.underlying22 info3 rfl (by decide) (by omega) u3 x3_7 a0_3 [.int .i64 a0_3] (fun _ => True) (fun _ => False) rfl rfl ?aP (fun _ hk => hk.elim) ?aF ?aO ?aB ?aS ?aL ?_; (case aP => exact rfl); (case aB => exact (by repeat (first | (with_reducible first | exact HB.out | apply below_alloc | apply pw_below_drewN | apply below_drew1 | refine below_set ?_ GE103.out) | exact HB.out))); (case aF => exact (fun _ _ => trivial)); (case aO => exact (by (with_reducible repeat (first | apply Kd.R_alloc | apply Kd.R_drewN | apply Kd.R_drew)); exact HO_3.out)); (case aS => exact (below_size (by repeat (first | (with_reducible first | exact HB.out | apply below_alloc | apply pw_below_drewN | apply below_drew1 | refine below_set ?_ GE103.out) | exact HB.out)))); (case aL => have := LMc18.out; omega); intro v109 w26 ho hb hg hat; rw [← Ny108.out] at ho; have n0_ := Aside0.mk (blk_grown (g := gb103) (o := .cells #[.int .i64 a0_0, .int .i64 a0_1, .int .i64 a0_2, .int .i64 a0_3, .string a0_4, .slice A0_5 l0_5.length c0_5] 24 (0, 0)) (by (with_reducible repeat (first | refine blk_drewN ?_ _ | refine blk_drew ?_ | refine blk_alloc ?_ _)); exact BK103.out) hg (Kd.R_ne HO_3.out BK103.out (by decide))); have n1_ := Aside0.mk (hb); have n2_ := Aside0.mk (ho); clear BK103; clear HB; clear HO_3; have BK103 := n0_; have HB := n1_; have HO110 := n2_; clear n0_ n1_ n2_; clear ho hb hg hat; have hcz27_0 : w26.cell? ⟨gb103, 0, none⟩ = some (.int .i64 a0_0) := (blk_cell BK103.out 0).trans rfl; have hcz27_1 : w26.cell? ⟨gb103, 1, none⟩ = some (.int .i64 a0_1) := (blk_cell BK103.out 1).trans rfl; have hcz27_2 : w26.cell? ⟨gb103, 2, none⟩ = some (.int .i64 a0_2) := (blk_cell BK103.out 2).trans rfl; have hcz27_3 : w26.cell? ⟨gb103, 3, none⟩ = some (.int .i64 a0_3) := (blk_cell BK103.out 3).trans rfl; have hcz27_4 : w26.cell? ⟨gb103, 4, none⟩ = some (.string a0_4) := (blk_cell BK103.out 4).trans rfl; have hcz27_5 : w26.cell? ⟨gb103, 5, none⟩ = some (.slice A0_5 l0_5.length c0_5) := (blk_cell BK103.out 5).trans rfl; have hfz27_0 := blk_frozen BK103.out 0; have hfz27_1 := blk_frozen BK103.out 1; have hfz27_2 := blk_frozen BK103.out 2; have hfz27_3 := blk_frozen BK103.out 3; have hfz27_4 := blk_frozen BK103.out 4; have hfz27_5 := blk_frozen BK103.out 5))
         go_ret
         exact ⟨_, by first | rfl | (simp [errW_none, errW_some] <;> rfl) | (simp [*, errW_none, errW_some] <;> rfl), by (with_reducible repeat (first | apply Kd.R_alloc | apply Kd.R_drewN | apply Kd.R_drew)); exact HO110.out, by repeat (first | (with_reducible first | exact HB.out | apply below_alloc | apply pw_below_drewN | apply below_drew1 | refine below_set ?_ GE103.out) | exact HB.out)⟩
       ·rw [if_neg c18] at H
        exact absurd H (by simp)
      ·rw [if_neg c17] at H
       have c17b0 : ((bt t104 2) == 114) = false := beq_eq_false_iff_ne.mpr c17
       have c17b1 : ((bt t104 2) != 114) = true := bne_iff_ne.mpr c17
       by_cases c28 : a0_0 = 11
       ·rw [if_pos c28] at H
        have c28b0 : (a0_0 == 11) = true := beq_iff_eq.mpr c28
        have c28b1 : (a0_0 != 11) = false := bne_eq_false_iff_eq.mpr c28
        clear c28
        by_cases c29 : x3_7.length + l0_5.length < 17592186044416
        ·rw [if_pos c29] at H
         have LMc29 := Aside0.mk c29
         clear c29
         obtain ⟨y114, hy114⟩ : ∃ y_ : List Int, y_ = (x3_7 ++ l0_5) := ⟨_, rfl⟩
         replace H : (some y114) = some r := by first | (rw [hy114]; with_reducible exact H) | (have H2_ := (Option.bind_some _ _).symm.trans H; rw [hy114]; with_reducible exact H2_) | (have H2_ := (Option.bind_some _ _).symm.trans H; with_reducible exact H2_) | with_reducible exact H | (rw [hy114]; exact H) | exact H
         have Ny114 := Aside0.mk hy114
         clear hy114
         obtain rfl := Option.some.inj H
         have p16 : 0 ≤ (2 : Int) := (by omega)
         have q16 : 2 < t104.size := (by have : (2 : Int) < (t104.size : Int) := of_decide_eq_true (by first | (with_reducible assumption) | assumption); omega)
         have hx16 : ∀ h : 2 < t104.size, ((t104[2]'h).toNat : Int) = bt t104 2 := bt_at t104 2
         clear p16
         have qi16 : (2 < (t104.size : Int)) = True := eq_true (of_decide_eq_true (by first | (with_reducible assumption) | assumption))
         replace q16 := eq_true q16
         have hcz30_0 : wc.cell? ⟨gb103, 0, none⟩ = some (.int .i64 a0_0) := (blk_cell BK103.out 0).trans rfl
         have hcz30_1 : wc.cell? ⟨gb103, 1, none⟩ = some (.int .i64 a0_1) := (blk_cell BK103.out 1).trans rfl
         have hcz30_2 : wc.cell? ⟨gb103, 2, none⟩ = some (.int .i64 a0_2) := (blk_cell BK103.out 2).trans rfl
         have hcz30_3 : wc.cell? ⟨gb103, 3, none⟩ = some (.int .i64 a0_3) := (blk_cell BK103.out 3).trans rfl
         have hcz30_4 : wc.cell? ⟨gb103, 4, none⟩ = some (.string a0_4) := (blk_cell BK103.out 4).trans rfl
         have hcz30_5 : wc.cell? ⟨gb103, 5, none⟩ = some (.slice A0_5 l0_5.length c0_5) := (blk_cell BK103.out 5).trans rfl
         have hfz30_0 := blk_frozen BK103.out 0
         have hfz30_1 := blk_frozen BK103.out 1
         have hfz30_2 := blk_frozen BK103.out 2
         have hfz30_3 := blk_frozen BK103.out 3
         have hfz30_4 := blk_frozen BK103.out 4
         have hfz30_5 := blk_frozen BK103.out 5
         go_wp2_with (first | ((with_reducible refine gate_builtin (b := .append) (xs := #[.tmp 29, .tmp 31]) rfl ?_); at_builtin; refine Kd.R_append_rows (Kd.int .i64) (w0 := w) w.heap.size rfl (.tmp 29) (.tmp 31) 22 3 (.int .i64 0) 8 rfl Tryd.underlying22 info3 rfl (by decide) (by omega) u3 x3_7 l0_5 _ _ _ (fun _ => True) (fun _ => False) rfl rfl ?aO ?aR (fun _ _ h => h) (fun _ h => h.elim) ?aF ?aB ?aS ?aL ?_; (case aR => repeat (first | exact (Kd.C_below HR0_5.out HB.out) | (with_reducible refine Kd.C_alloc ?_ _) | (with_reducible refine Kd.C_drewN ?_ _) | (with_reducible refine Kd.C_drew ?_))); (case aB => exact (by repeat (first | (with_reducible first | exact HB.out | apply below_alloc | apply pw_below_drewN | apply below_drew1 | refine below_set ?_ GE103.out) | exact HB.out))); (case aF => exact (fun _ _ => trivial)); (case aO => exact (by (with_reducible repeat (first | apply Kd.R_alloc | apply Kd.R_drewN | apply Kd.R_drew)); exact HO_3.out)); (case aS => exact (below_size (by repeat (first | (with_reducible first | exact HB.out | apply below_alloc | apply pw_below_drewN | apply below_drew1 | refine below_set ?_ GE103.out) | exact HB.out)))); (case aL => have := LMc29.out; omega); intro v115 w31 ho hb hg hat; rw [← Ny114.out] at ho; have n0_ := Aside0.mk (blk_grown (g := gb103) (o := .cells #[.int .i64 a0_0, .int .i64 a0_1, .int .i64 a0_2, .int .i64 a0_3, .string a0_4, .slice A0_5 l0_5.length c0_5] 24 (0, 0)) (by (with_reducible repeat (first | refine blk_drewN ?_ _ | refine blk_drew ?_ | refine blk_alloc ?_ _)); exact BK103.out) hg (Kd.R_ne HO_3.out BK103.out (by decide))); have n1_ := Aside0.mk (hb); have n2_ := Aside0.mk (ho); clear BK103; clear HB; clear HO_3; have BK103 := n0_; have HB := n1_; have HO116 := n2_; clear n0_ n1_ n2_; clear ho hb hg hat))
         go_ret
         exact ⟨_, by first | rfl | (simp [errW_none, errW_some] <;> rfl) | (simp [*, errW_none, errW_some] <;> rfl), by (with_reducible repeat (first | apply Kd.R_alloc | apply Kd.R_drewN | apply Kd.R_drew)); exact HO116.out, by repeat (first | (with_reducible first | exact HB.out | apply below_alloc | apply pw_below_drewN | apply below_drew1 | refine below_set ?_ GE103.out) | exact HB.out)⟩
        ·rw [if_neg c29] at H
         exact absurd H (by simp)
       ·rw [if_neg c28] at H
        have c28b0 : (a0_0 == 11) = false := beq_eq_false_iff_ne.mpr c28
        have c28b1 : (a0_0 != 11) = true := bne_iff_ne.mpr c28
        obtain rfl := Option.some.inj H
        have p16 : 0 ≤ (2 : Int) := (by omega)
        have q16 : 2 < t104.size := (by have : (2 : Int) < (t104.size : Int) := of_decide_eq_true (by first | (with_reducible assumption) | assumption); omega)
        have hx16 : ∀ h : 2 < t104.size, ((t104[2]'h).toNat : Int) = bt t104 2 := bt_at t104 2
        clear p16
        have qi16 : (2 < (t104.size : Int)) = True := eq_true (of_decide_eq_true (by first | (with_reducible assumption) | assumption))
        replace q16 := eq_true q16
        have hcz32_0 : wc.cell? ⟨gb103, 0, none⟩ = some (.int .i64 a0_0) := (blk_cell BK103.out 0).trans rfl
        have hcz32_1 : wc.cell? ⟨gb103, 1, none⟩ = some (.int .i64 a0_1) := (blk_cell BK103.out 1).trans rfl
        have hcz32_2 : wc.cell? ⟨gb103, 2, none⟩ = some (.int .i64 a0_2) := (blk_cell BK103.out 2).trans rfl
        have hcz32_3 : wc.cell? ⟨gb103, 3, none⟩ = some (.int .i64 a0_3) := (blk_cell BK103.out 3).trans rfl
        have hcz32_4 : wc.cell? ⟨gb103, 4, none⟩ = some (.string a0_4) := (blk_cell BK103.out 4).trans rfl
        have hcz32_5 : wc.cell? ⟨gb103, 5, none⟩ = some (.slice A0_5 l0_5.length c0_5) := (blk_cell BK103.out 5).trans rfl
        have hfz32_0 := blk_frozen BK103.out 0
        have hfz32_1 := blk_frozen BK103.out 1
        have hfz32_2 := blk_frozen BK103.out 2
        have hfz32_3 := blk_frozen BK103.out 3
        have hfz32_4 := blk_frozen BK103.out 4
        have hfz32_5 := blk_frozen BK103.out 5
        go_wp2
        go_ret
        exact ⟨_, by first | rfl | (simp [errW_none, errW_some] <;> rfl) | (simp [*, errW_none, errW_some] <;> rfl), by (with_reducible repeat (first | apply Kd.R_alloc | apply Kd.R_drewN | apply Kd.R_drew)); exact HO_3.out, by repeat (first | (with_reducible first | exact HB.out | apply below_alloc | apply pw_below_drewN | apply below_drew1 | refine below_set ?_ GE103.out) | exact HB.out)⟩
     ·rw [if_neg c15] at H
      exact absurd H (by simp)
  ·rw [if_neg c6] at H
   exact absurd H (by simp)

end Go.Proofs.YtgmklfaknomakaaDoor.Q
