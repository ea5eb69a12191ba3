/- Lean functions that answer as the Go functions named below do, and the proofs of that. Written by a program out of the translation. -/
import Derived.Test.YtbipipbfiekbgaaDoorProg
import Derived.Below
import Derived.Deep.Draws
import Derived.Deep.AppendLies
import Derived.Maps.AppendAt
import Derived.OwnWalk
import Derived.Laws.BytesArg
import Derived.Laws.MakeOwn
import Derived.Laws.OwnMore
import Derived.Deep.OwnRows
import Derived.Tactics
import Derived.Lib.ConvBytes
import Derived.Laws.Slices
import Derived.WalkKit
import Derived.KernelRfl
import Derived.RowKit3
import Derived.Deep.LoopGhost
import Derived.Deep.QuietTactic
import Derived.BigQuiet
import Derived.WideLaws
import Derived.Deep.DeepCutAuto
import Derived.Deep.CutBlock
import Derived.Deep.RegionHeld3
import Derived.Laws.Rows
import Derived.Lib.AppendStr
import Derived.ArgAppend
import Derived.Laws.IdiomCopy
import Derived.OrdersHeld
import Derived.Laws.BitsLemmas
import Derived.RowKit
import Derived.Test.YtbipipbfiekbgaaDoorWWords
import Derived.Test.YtbipipbfiekbgaaDoorWLast
import Derived.Test.YtbipipbfiekbgaaDoorWTab
import Derived.Test.YtbipipbfiekbgaaDoorWFour
import Derived.Test.YtbipipbfiekbgaaDoorWQPut
import Derived.Test.YtbipipbfiekbgaaDoorWApart
import Derived.Test.YtbipipbfiekbgaaDoorWArr
import Derived.Test.YtbipipbfiekbgaaDoorWZeros
import Derived.Test.YtbipipbfiekbgaaDoorWFoot
import Derived.Test.YtbipipbfiekbgaaDoorWKept
import Derived.Test.YtbipipbfiekbgaaDoorWShare
import Derived.Test.YtbipipbfiekbgaaDoorWN
import Derived.Test.YtbipipbfiekbgaaDoorWFootNe
import Derived.Test.YtbipipbfiekbgaaDoorWAt
import Derived.Test.YtbipipbfiekbgaaDoorWEqStruct
import Derived.Test.YtbipipbfiekbgaaDoorWRepsOne
import Derived.Test.YtbipipbfiekbgaaDoorWInv
import Derived.Test.YtbipipbfiekbgaaDoorWInvWords
import Derived.Test.YtbipipbfiekbgaaDoorWGuard
import Derived.Test.YtbipipbfiekbgaaDoorWNEv
import Derived.Test.YtbipipbfiekbgaaDoorWMore
namespace Go.Proofs.YtbipipbfiekbgaaDoor.Q
open Go.RowKit Go.Proofs.YtbipipbfiekbgaaDoorW.PrintWords Go.Proofs.YtbipipbfiekbgaaDoorW.PrintLast Go.Proofs.YtbipipbfiekbgaaDoorW.PrintMore
attribute [local go_sem] max2_int min2_int max_two min_two max_three min_three max_four min_four   -- for this text's walks alone
set_option linter.unusedVariables false
set_option linter.unusedSimpArgs false



def errW : Option Int → Value
 | none => .nilIface
 | some c => .iface 0 (.int .i64 c)
theorem errW_none : errW none = .nilIface := rfl
theorem errW_some (c : Int) : errW (some c) = .iface 0 (.int .i64 c) := rfl

theorem info3 : (Tryd.prog.info? 3).map (fun i => (i.zero, i.size, i.bytes)) = some (some (.int .i64 0), 1, 8) := by kernel_rfl
theorem info9 : (Tryd.prog.info? 9).map (fun i => (i.zero, i.size, i.bytes)) = some (some (.string ⟨#[]⟩), 1, 16) := by kernel_rfl
theorem info28 : (Tryd.prog.info? 28).map (fun i => (i.zero, i.size, i.bytes)) = some (some (.slice none 0 0), 1, 24) := by kernel_rfl
theorem info31 : (Tryd.prog.info? 31).map (fun i => (i.zero, i.size, i.bytes)) = some (some (.agg #[(.int .i64 0), (.int .i64 0), (.int .i64 0), (.int .i64 0), (.string ⟨#[]⟩), (.slice none 0 0)]), 6, 72) := by kernel_rfl
-- the values' own types
def rd_LInt (xs : List (List Int)) (i : Int) : (List Int) := xs.getD i.toNat ([] : List Int)
theorem at_LInt {w : World} {A : Option Addr} {n : Nat} {xs : List (List Int)} (h : Kd.C (Kd.slice 3 (Kd.int .i64)) w A n xs) (i : Int) (h0 : 0 ≤ i) (h1 : i < n) : ∃ ad A0 c0, A = some ad ∧ w.cell? (ad.add i.toNat) = some (.slice A0 (rd_LInt xs i).length c0) ∧ (rd_LInt xs i).length ≤ c0 ∧ (Kd.int .i64).C w A0 (rd_LInt xs i).length (rd_LInt xs i) := by
 obtain ⟨ad, c, e, _, hK, hc0⟩ := Kd.C_get h ([] : List Int) i h0 h1
 have hc : ∀ j u, c[j]? = some u → w.cell? (ad.add (i.toNat * 1 + j)) = some u := hc0
 obtain ⟨A0, c0, rfl, l0, g0⟩ := hK
 exact ⟨ad, A0, c0, e, by have hq := hc 0 _ rfl; rwa [Nat.mul_one, Nat.add_zero] at hq, l0, g0⟩

/-! #### struct type 31 -/
structure SIns where
 f0 : Int
 f1 : Int
 f2 : Int
 f3 : Int
 f4 : ByteArray
 f5 : (List Int)
def zIns : SIns := ⟨(0 : Int), (0 : Int), (0 : Int), (0 : Int), (⟨#[]⟩ : ByteArray), ([] : List Int)⟩
def kIns : Kd SIns := Kd.iso (Kd.pair (Kd.int .i64) (Kd.pair (Kd.int .i64) (Kd.pair (Kd.int .i64) (Kd.pair (Kd.int .i64) (Kd.pair Kd.string (Kd.slice 3 (Kd.int .i64))))))) (fun x : SIns => (x.f0, x.f1, x.f2, x.f3, x.f4, x.f5))
theorem kIns_heap : Kd.Heap kIns := Kd.heap_iso _ (Kd.heap_pair (Kd.heap_int .i64) (Kd.heap_pair (Kd.heap_int .i64) (Kd.heap_pair (Kd.heap_int .i64) (Kd.heap_pair (Kd.heap_int .i64) (Kd.heap_pair Kd.heap_string (Kd.heap_slice 3 (Kd.heap_int .i64)))))))
theorem kIns_open {w : World} {x : SIns} {cs : List Value} (h : kIns.K w x cs) : ∃ A5 c5, cs = [.int .i64 x.f0, .int .i64 x.f1, .int .i64 x.f2, .int .i64 x.f3, .string x.f4, .slice A5 x.f5.length c5] ∧ x.f5.length ≤ c5 ∧ (Kd.int .i64).C w A5 x.f5.length x.f5 := by
 obtain ⟨_, _, rfl, rfl, ⟨_, _, rfl, rfl, ⟨_, _, rfl, rfl, ⟨_, _, rfl, rfl, ⟨_, _, rfl, rfl, ⟨A5, c5, rfl, l5, g5⟩⟩⟩⟩⟩⟩ := h
 exact ⟨A5, c5, rfl, l5, g5⟩
theorem kIns_openM {w : World} {base : Nat} {ok : Nat → Prop} {x : SIns} {cs : List Value} (h : kIns.M w base ok x cs) : ∃ v5, cs = [.int .i64 x.f0, .int .i64 x.f1, .int .i64 x.f2, .int .i64 x.f3, .string x.f4, v5] ∧ (Kd.int .i64).R 3 w base ok v5 x.f5 := by
 obtain ⟨_, _, rfl, rfl, ⟨_, _, rfl, rfl, ⟨_, _, rfl, rfl, ⟨_, _, rfl, rfl, ⟨_, _, rfl, rfl, ⟨v5, rfl, g5⟩⟩⟩⟩⟩⟩ := h
 exact ⟨v5, rfl, g5⟩
theorem kIns_mk (w : World) (x : SIns) {A5 : Option Addr} {c5 : Nat} (l5 : x.f5.length ≤ c5) (g5 : (Kd.int .i64).C w A5 x.f5.length x.f5) : kIns.K w x [.int .i64 x.f0, .int .i64 x.f1, .int .i64 x.f2, .int .i64 x.f3, .string x.f4, .slice A5 x.f5.length c5] := ⟨[.int .i64 x.f0], [.int .i64 x.f1, .int .i64 x.f2, .int .i64 x.f3, .string x.f4, .slice A5 x.f5.length c5], rfl, rfl, ⟨[.int .i64 x.f1], [.int .i64 x.f2, .int .i64 x.f3, .string x.f4, .slice A5 x.f5.length c5], rfl, rfl, ⟨[.int .i64 x.f2], [.int .i64 x.f3, .string x.f4, .slice A5 x.f5.length c5], rfl, rfl, ⟨[.int .i64 x.f3], [.string x.f4, .slice A5 x.f5.length c5], rfl, rfl, ⟨[.string x.f4], [.slice A5 x.f5.length c5], rfl, rfl, ⟨A5, c5, rfl, l5, g5⟩⟩⟩⟩⟩⟩
theorem kIns_mkM (w : World) (base : Nat) (ok : Nat → Prop) (x : SIns) {v5 : Value} (g5 : (Kd.int .i64).R 3 w base ok v5 x.f5) : kIns.M w base ok x [.int .i64 x.f0, .int .i64 x.f1, .int .i64 x.f2, .int .i64 x.f3, .string x.f4, v5] := ⟨[.int .i64 x.f0], [.int .i64 x.f1, .int .i64 x.f2, .int .i64 x.f3, .string x.f4, v5], rfl, rfl, ⟨[.int .i64 x.f1], [.int .i64 x.f2, .int .i64 x.f3, .string x.f4, v5], rfl, rfl, ⟨[.int .i64 x.f2], [.int .i64 x.f3, .string x.f4, v5], rfl, rfl, ⟨[.int .i64 x.f3], [.string x.f4, v5], rfl, rfl, ⟨[.string x.f4], [v5], rfl, rfl, ⟨v5, rfl, g5⟩⟩⟩⟩⟩⟩
theorem kIns_openF {W : World} {ok : Nat → Prop} {x : SIns} {cs : List Value} (h : Kd.FK kIns W ok x cs) : ∃ A5 c5, cs = [.int .i64 x.f0, .int .i64 x.f1, .int .i64 x.f2, .int .i64 x.f3, .string x.f4, .slice A5 x.f5.length c5] ∧ x.f5.length ≤ c5 ∧ Kd.F (Kd.int .i64) W ok A5 x.f5.length x.f5 := by
 obtain ⟨A5, c5, rfl, l5, _⟩ := kIns_open (Kd.FK_now h)
 exact ⟨A5, c5, rfl, l5, (fun W' hW => by obtain ⟨A5_, c5_, he, l5_, g5_⟩ := kIns_open (h W' hW); injection (Option.some.inj (show some (Value.slice A5 x.f5.length c5) = some (Value.slice A5_ x.f5.length c5_) from congrArg (fun l => l[5]?) he)) with ha_ _ _; rw [ha_]; exact g5_)⟩
theorem kIns_mkF (W : World) (ok : Nat → Prop) (x : SIns) {A5 : Option Addr} {c5 : Nat} (l5 : x.f5.length ≤ c5) (g5 : Kd.F (Kd.int .i64) W ok A5 x.f5.length x.f5) : Kd.FK kIns W ok x [.int .i64 x.f0, .int .i64 x.f1, .int .i64 x.f2, .int .i64 x.f3, .string x.f4, .slice A5 x.f5.length c5] := fun W2 hW => kIns_mk W2 x l5 (g5 W2 hW)
def rd_TIns (xs : List SIns) (i : Int) : SIns := xs.getD i.toNat zIns
theorem at_TIns {w : World} {A : Option Addr} {n : Nat} {xs : List SIns} (h : Kd.C kIns w A n xs) (i : Int) (h0 : 0 ≤ i) (h1 : i < n) : ∃ ad A5 c5, A = some ad ∧ w.cell? (ad.add (i.toNat * 6)) = some (.int .i64 (rd_TIns xs i).f0) ∧ w.cell? ⟨(ad.add (i.toNat * 6)).block, (ad.add (i.toNat * 6)).off + 1, none⟩ = some (.int .i64 (rd_TIns xs i).f1) ∧ w.cell? ⟨(ad.add (i.toNat * 6)).block, (ad.add (i.toNat * 6)).off + 2, none⟩ = some (.int .i64 (rd_TIns xs i).f2) ∧ w.cell? ⟨(ad.add (i.toNat * 6)).block, (ad.add (i.toNat * 6)).off + 3, none⟩ = some (.int .i64 (rd_TIns xs i).f3) ∧ w.cell? ⟨(ad.add (i.toNat * 6)).block, (ad.add (i.toNat * 6)).off + 4, none⟩ = some (.string (rd_TIns xs i).f4) ∧ w.cell? ⟨(ad.add (i.toNat * 6)).block, (ad.add (i.toNat * 6)).off + 5, none⟩ = some (.slice A5 (rd_TIns xs i).f5.length c5) ∧ (rd_TIns xs i).f5.length ≤ c5 ∧ (Kd.int .i64).C w A5 (rd_TIns xs i).f5.length (rd_TIns xs i).f5 := by
 obtain ⟨ad, c, e, _, hK, hc0⟩ := Kd.C_get h zIns i h0 h1
 have hc : ∀ j u, c[j]? = some u → w.cell? (ad.add (i.toNat * 6 + j)) = some u := hc0
 obtain ⟨A5, c5, rfl, l5, g5⟩ := kIns_open hK
 exact ⟨ad, A5, c5, e, hc 0 _ rfl, by rw [← add_field _ _ 1 (by omega)]; exact hc 1 _ rfl, by rw [← add_field _ _ 2 (by omega)]; exact hc 2 _ rfl, by rw [← add_field _ _ 3 (by omega)]; exact hc 3 _ rfl, by rw [← add_field _ _ 4 (by omega)]; exact hc 4 _ rfl, by rw [← add_field _ _ 5 (by omega)]; exact hc 5 _ rfl, l5, g5⟩

def rd_LIns (xs : List (List SIns)) (i : Int) : (List SIns) := xs.getD i.toNat ([] : List SIns)
theorem at_LIns {w : World} {A : Option Addr} {n : Nat} {xs : List (List SIns)} (h : Kd.C (Kd.slice 31 kIns) w A n xs) (i : Int) (h0 : 0 ≤ i) (h1 : i < n) : ∃ ad A0 c0, A = some ad ∧ w.cell? (ad.add i.toNat) = some (.slice A0 (rd_LIns xs i).length c0) ∧ (rd_LIns xs i).length ≤ c0 ∧ kIns.C w A0 (rd_LIns xs i).length (rd_LIns xs i) := by
 obtain ⟨ad, c, e, _, hK, hc0⟩ := Kd.C_get h ([] : List SIns) i h0 h1
 have hc : ∀ j u, c[j]? = some u → w.cell? (ad.add (i.toNat * 1 + j)) = some u := hc0
 obtain ⟨A0, c0, rfl, l0, g0⟩ := hK
 exact ⟨ad, A0, c0, e, by have hq := hc 0 _ rfl; rwa [Nat.mul_one, Nat.add_zero] at hq, l0, g0⟩

def rd_LLIns (xs : List (List (List SIns))) (i : Int) : (List (List SIns)) := xs.getD i.toNat ([] : List (List SIns))
theorem at_LLIns {w : World} {A : Option Addr} {n : Nat} {xs : List (List (List SIns))} (h : Kd.C (Kd.slice 28 (Kd.slice 31 kIns)) w A n xs) (i : Int) (h0 : 0 ≤ i) (h1 : i < n) : ∃ ad A0 c0, A = some ad ∧ w.cell? (ad.add i.toNat) = some (.slice A0 (rd_LLIns xs i).length c0) ∧ (rd_LLIns xs i).length ≤ c0 ∧ (Kd.slice 31 kIns).C w A0 (rd_LLIns xs i).length (rd_LLIns xs i) := by
 obtain ⟨ad, c, e, _, hK, hc0⟩ := Kd.C_get h ([] : List (List SIns)) i h0 h1
 have hc : ∀ j u, c[j]? = some u → w.cell? (ad.add (i.toNat * 1 + j)) = some u := hc0
 obtain ⟨A0, c0, rfl, l0, g0⟩ := hK
 exact ⟨ad, A0, c0, e, by have hq := hc 0 _ rfl; rwa [Nat.mul_one, Nat.add_zero] at hq, l0, g0⟩

/-! #### struct type 34 -/
structure SFunc where
 f0 : ByteArray
 f1 : Int
 f2 : Int
 f3 : (List (List SIns))
def zFunc : SFunc := ⟨(⟨#[]⟩ : ByteArray), (0 : Int), (0 : Int), ([] : List (List SIns))⟩
def kFunc : Kd SFunc := Kd.iso (Kd.pair Kd.string (Kd.pair (Kd.int .i64) (Kd.pair (Kd.int .i64) (Kd.slice 28 (Kd.slice 31 kIns))))) (fun x : SFunc => (x.f0, x.f1, x.f2, x.f3))
theorem kFunc_heap : Kd.Heap kFunc := Kd.heap_iso _ (Kd.heap_pair Kd.heap_string (Kd.heap_pair (Kd.heap_int .i64) (Kd.heap_pair (Kd.heap_int .i64) (Kd.heap_slice 28 (Kd.heap_slice 31 kIns_heap)))))
theorem kFunc_open {w : World} {x : SFunc} {cs : List Value} (h : kFunc.K w x cs) : ∃ A3 c3, cs = [.string x.f0, .int .i64 x.f1, .int .i64 x.f2, .slice A3 x.f3.length c3] ∧ x.f3.length ≤ c3 ∧ (Kd.slice 31 kIns).C w A3 x.f3.length x.f3 := by
 obtain ⟨_, _, rfl, rfl, ⟨_, _, rfl, rfl, ⟨_, _, rfl, rfl, ⟨A3, c3, rfl, l3, g3⟩⟩⟩⟩ := h
 exact ⟨A3, c3, rfl, l3, g3⟩
theorem kFunc_openM {w : World} {base : Nat} {ok : Nat → Prop} {x : SFunc} {cs : List Value} (h : kFunc.M w base ok x cs) : ∃ v3, cs = [.string x.f0, .int .i64 x.f1, .int .i64 x.f2, v3] ∧ (Kd.slice 31 kIns).R 28 w base ok v3 x.f3 := by
 obtain ⟨_, _, rfl, rfl, ⟨_, _, rfl, rfl, ⟨_, _, rfl, rfl, ⟨v3, rfl, g3⟩⟩⟩⟩ := h
 exact ⟨v3, rfl, g3⟩
theorem kFunc_mk (w : World) (x : SFunc) {A3 : Option Addr} {c3 : Nat} (l3 : x.f3.length ≤ c3) (g3 : (Kd.slice 31 kIns).C w A3 x.f3.length x.f3) : kFunc.K w x [.string x.f0, .int .i64 x.f1, .int .i64 x.f2, .slice A3 x.f3.length c3] := ⟨[.string x.f0], [.int .i64 x.f1, .int .i64 x.f2, .slice A3 x.f3.length c3], rfl, rfl, ⟨[.int .i64 x.f1], [.int .i64 x.f2, .slice A3 x.f3.length c3], rfl, rfl, ⟨[.int .i64 x.f2], [.slice A3 x.f3.length c3], rfl, rfl, ⟨A3, c3, rfl, l3, g3⟩⟩⟩⟩
theorem kFunc_mkM (w : World) (base : Nat) (ok : Nat → Prop) (x : SFunc) {v3 : Value} (g3 : (Kd.slice 31 kIns).R 28 w base ok v3 x.f3) : kFunc.M w base ok x [.string x.f0, .int .i64 x.f1, .int .i64 x.f2, v3] := ⟨[.string x.f0], [.int .i64 x.f1, .int .i64 x.f2, v3], rfl, rfl, ⟨[.int .i64 x.f1], [.int .i64 x.f2, v3], rfl, rfl, ⟨[.int .i64 x.f2], [v3], rfl, rfl, ⟨v3, rfl, g3⟩⟩⟩⟩
theorem kFunc_openF {W : World} {ok : Nat → Prop} {x : SFunc} {cs : List Value} (h : Kd.FK kFunc W ok x cs) : ∃ A3 c3, cs = [.string x.f0, .int .i64 x.f1, .int .i64 x.f2, .slice A3 x.f3.length c3] ∧ x.f3.length ≤ c3 ∧ Kd.F (Kd.slice 31 kIns) W ok A3 x.f3.length x.f3 := by
 obtain ⟨A3, c3, rfl, l3, _⟩ := kFunc_open (Kd.FK_now h)
 exact ⟨A3, c3, rfl, l3, (fun W' hW => by obtain ⟨A3_, c3_, he, l3_, g3_⟩ := kFunc_open (h W' hW); injection (Option.some.inj (show some (Value.slice A3 x.f3.length c3) = some (Value.slice A3_ x.f3.length c3_) from congrArg (fun l => l[3]?) he)) with ha_ _ _; rw [ha_]; exact g3_)⟩
theorem kFunc_mkF (W : World) (ok : Nat → Prop) (x : SFunc) {A3 : Option Addr} {c3 : Nat} (l3 : x.f3.length ≤ c3) (g3 : Kd.F (Kd.slice 31 kIns) W ok A3 x.f3.length x.f3) : Kd.FK kFunc W ok x [.string x.f0, .int .i64 x.f1, .int .i64 x.f2, .slice A3 x.f3.length c3] := fun W2 hW => kFunc_mk W2 x l3 (g3 W2 hW)
def rd_TFunc (xs : List SFunc) (i : Int) : SFunc := xs.getD i.toNat zFunc
theorem at_TFunc {w : World} {A : Option Addr} {n : Nat} {xs : List SFunc} (h : Kd.C kFunc w A n xs) (i : Int) (h0 : 0 ≤ i) (h1 : i < n) : ∃ ad A3 c3, A = some ad ∧ w.cell? (ad.add (i.toNat * 4)) = some (.string (rd_TFunc xs i).f0) ∧ w.cell? ⟨(ad.add (i.toNat * 4)).block, (ad.add (i.toNat * 4)).off + 1, none⟩ = some (.int .i64 (rd_TFunc xs i).f1) ∧ w.cell? ⟨(ad.add (i.toNat * 4)).block, (ad.add (i.toNat * 4)).off + 2, none⟩ = some (.int .i64 (rd_TFunc xs i).f2) ∧ w.cell? ⟨(ad.add (i.toNat * 4)).block, (ad.add (i.toNat * 4)).off + 3, none⟩ = some (.slice A3 (rd_TFunc xs i).f3.length c3) ∧ (rd_TFunc xs i).f3.length ≤ c3 ∧ (Kd.slice 31 kIns).C w A3 (rd_TFunc xs i).f3.length (rd_TFunc xs i).f3 := by
 obtain ⟨ad, c, e, _, hK, hc0⟩ := Kd.C_get h zFunc i h0 h1
 have hc : ∀ j u, c[j]? = some u → w.cell? (ad.add (i.toNat * 4 + j)) = some u := hc0
 obtain ⟨A3, c3, rfl, l3, g3⟩ := kFunc_open hK
 exact ⟨ad, A3, c3, e, hc 0 _ rfl, by rw [← add_field _ _ 1 (by omega)]; exact hc 1 _ rfl, by rw [← add_field _ _ 2 (by omega)]; exact hc 2 _ rfl, by rw [← add_field _ _ 3 (by omega)]; exact hc 3 _ rfl, l3, g3⟩

/-! #### struct type 24 -/
structure SCode where
 f0 : ByteArray
 f1 : Int
 f2 : Int
 f3 : Int
 f4 : (List (List SIns))
def zCode : SCode := ⟨(⟨#[]⟩ : ByteArray), (0 : Int), (0 : Int), (0 : Int), ([] : List (List SIns))⟩
def kCode : Kd SCode := Kd.iso (Kd.pair Kd.string (Kd.pair (Kd.int .i64) (Kd.pair (Kd.int .i64) (Kd.pair (Kd.int .i64) (Kd.slice 28 (Kd.slice 31 kIns)))))) (fun x : SCode => (x.f0, x.f1, x.f2, x.f3, x.f4))
theorem kCode_heap : Kd.Heap kCode := Kd.heap_iso _ (Kd.heap_pair Kd.heap_string (Kd.heap_pair (Kd.heap_int .i64) (Kd.heap_pair (Kd.heap_int .i64) (Kd.heap_pair (Kd.heap_int .i64) (Kd.heap_slice 28 (Kd.heap_slice 31 kIns_heap))))))
theorem kCode_open {w : World} {x : SCode} {cs : List Value} (h : kCode.K w x cs) : ∃ A4 c4, cs = [.string x.f0, .int .i64 x.f1, .int .i64 x.f2, .int .i64 x.f3, .slice A4 x.f4.length c4] ∧ x.f4.length ≤ c4 ∧ (Kd.slice 31 kIns).C w A4 x.f4.length x.f4 := by
 obtain ⟨_, _, rfl, rfl, ⟨_, _, rfl, rfl, ⟨_, _, rfl, rfl, ⟨_, _, rfl, rfl, ⟨A4, c4, rfl, l4, g4⟩⟩⟩⟩⟩ := h
 exact ⟨A4, c4, rfl, l4, g4⟩
theorem kCode_openM {w : World} {base : Nat} {ok : Nat → Prop} {x : SCode} {cs : List Value} (h : kCode.M w base ok x cs) : ∃ v4, cs = [.string x.f0, .int .i64 x.f1, .int .i64 x.f2, .int .i64 x.f3, v4] ∧ (Kd.slice 31 kIns).R 28 w base ok v4 x.f4 := by
 obtain ⟨_, _, rfl, rfl, ⟨_, _, rfl, rfl, ⟨_, _, rfl, rfl, ⟨_, _, rfl, rfl, ⟨v4, rfl, g4⟩⟩⟩⟩⟩ := h
 exact ⟨v4, rfl, g4⟩
theorem kCode_mk (w : World) (x : SCode) {A4 : Option Addr} {c4 : Nat} (l4 : x.f4.length ≤ c4) (g4 : (Kd.slice 31 kIns).C w A4 x.f4.length x.f4) : kCode.K w x [.string x.f0, .int .i64 x.f1, .int .i64 x.f2, .int .i64 x.f3, .slice A4 x.f4.length c4] := ⟨[.string x.f0], [.int .i64 x.f1, .int .i64 x.f2, .int .i64 x.f3, .slice A4 x.f4.length c4], rfl, rfl, ⟨[.int .i64 x.f1], [.int .i64 x.f2, .int .i64 x.f3, .slice A4 x.f4.length c4], rfl, rfl, ⟨[.int .i64 x.f2], [.int .i64 x.f3, .slice A4 x.f4.length c4], rfl, rfl, ⟨[.int .i64 x.f3], [.slice A4 x.f4.length c4], rfl, rfl, ⟨A4, c4, rfl, l4, g4⟩⟩⟩⟩⟩
theorem kCode_mkM (w : World) (base : Nat) (ok : Nat → Prop) (x : SCode) {v4 : Value} (g4 : (Kd.slice 31 kIns).R 28 w base ok v4 x.f4) : kCode.M w base ok x [.string x.f0, .int .i64 x.f1, .int .i64 x.f2, .int .i64 x.f3, v4] := ⟨[.string x.f0], [.int .i64 x.f1, .int .i64 x.f2, .int .i64 x.f3, v4], rfl, rfl, ⟨[.int .i64 x.f1], [.int .i64 x.f2, .int .i64 x.f3, v4], rfl, rfl, ⟨[.int .i64 x.f2], [.int .i64 x.f3, v4], rfl, rfl, ⟨[.int .i64 x.f3], [v4], rfl, rfl, ⟨v4, rfl, g4⟩⟩⟩⟩⟩
theorem kCode_openF {W : World} {ok : Nat → Prop} {x : SCode} {cs : List Value} (h : Kd.FK kCode W ok x cs) : ∃ A4 c4, cs = [.string x.f0, .int .i64 x.f1, .int .i64 x.f2, .int .i64 x.f3, .slice A4 x.f4.length c4] ∧ x.f4.length ≤ c4 ∧ Kd.F (Kd.slice 31 kIns) W ok A4 x.f4.length x.f4 := by
 obtain ⟨A4, c4, rfl, l4, _⟩ := kCode_open (Kd.FK_now h)
 exact ⟨A4, c4, rfl, l4, (fun W' hW => by obtain ⟨A4_, c4_, he, l4_, g4_⟩ := kCode_open (h W' hW); injection (Option.some.inj (show some (Value.slice A4 x.f4.length c4) = some (Value.slice A4_ x.f4.length c4_) from congrArg (fun l => l[4]?) he)) with ha_ _ _; rw [ha_]; exact g4_)⟩
theorem kCode_mkF (W : World) (ok : Nat → Prop) (x : SCode) {A4 : Option Addr} {c4 : Nat} (l4 : x.f4.length ≤ c4) (g4 : Kd.F (Kd.slice 31 kIns) W ok A4 x.f4.length x.f4) : Kd.FK kCode W ok x [.string x.f0, .int .i64 x.f1, .int .i64 x.f2, .int .i64 x.f3, .slice A4 x.f4.length c4] := fun W2 hW => kCode_mk W2 x l4 (g4 W2 hW)
def rd_TCode (xs : List SCode) (i : Int) : SCode := xs.getD i.toNat zCode
theorem at_TCode {w : World} {A : Option Addr} {n : Nat} {xs : List SCode} (h : Kd.C kCode w A n xs) (i : Int) (h0 : 0 ≤ i) (h1 : i < n) : ∃ ad A4 c4, A = some ad ∧ w.cell? (ad.add (i.toNat * 5)) = some (.string (rd_TCode xs i).f0) ∧ w.cell? ⟨(ad.add (i.toNat * 5)).block, (ad.add (i.toNat * 5)).off + 1, none⟩ = some (.int .i64 (rd_TCode xs i).f1) ∧ w.cell? ⟨(ad.add (i.toNat * 5)).block, (ad.add (i.toNat * 5)).off + 2, none⟩ = some (.int .i64 (rd_TCode xs i).f2) ∧ w.cell? ⟨(ad.add (i.toNat * 5)).block, (ad.add (i.toNat * 5)).off + 3, none⟩ = some (.int .i64 (rd_TCode xs i).f3) ∧ w.cell? ⟨(ad.add (i.toNat * 5)).block, (ad.add (i.toNat * 5)).off + 4, none⟩ = some (.slice A4 (rd_TCode xs i).f4.length c4) ∧ (rd_TCode xs i).f4.length ≤ c4 ∧ (Kd.slice 31 kIns).C w A4 (rd_TCode xs i).f4.length (rd_TCode xs i).f4 := by
 obtain ⟨ad, c, e, _, hK, hc0⟩ := Kd.C_get h zCode i h0 h1
 have hc : ∀ j u, c[j]? = some u → w.cell? (ad.add (i.toNat * 5 + j)) = some u := hc0
 obtain ⟨A4, c4, rfl, l4, g4⟩ := kCode_open hK
 exact ⟨ad, A4, c4, e, hc 0 _ rfl, by rw [← add_field _ _ 1 (by omega)]; exact hc 1 _ rfl, by rw [← add_field _ _ 2 (by omega)]; exact hc 2 _ rfl, by rw [← add_field _ _ 3 (by omega)]; exact hc 3 _ rfl, by rw [← add_field _ _ 4 (by omega)]; exact hc 4 _ rfl, l4, g4⟩

end Go.Proofs.YtbipipbfiekbgaaDoor.Q
