/-
  What the table of instructions' shapes holds where a row lists it, as a fact of the world that stays; and ir.shape, which reads it.
-/
import Derived.Test.YtbipipbfiekbgaaDoorQ0
import Derived.Lib.LaidU8
import Derived.OpenShut
namespace Go.Proofs.YtbipipbfiekbgaaDoor.Q
open Go.RowKit Go.Proofs.YtbipipbfiekbgaaDoorW.PrintWords Go.Proofs.YtbipipbfiekbgaaDoorW.PrintLast Go.Proofs.YtbipipbfiekbgaaDoorW.PrintMore
set_option linter.unusedVariables false

def shapesT : List ByteArray := [⟨#[]⟩, ⟨#[114, 110, 32]⟩, ⟨#[114, 114, 32]⟩, ⟨#[114, 114, 114]⟩, ⟨#[114, 114, 114]⟩, ⟨#[114, 114, 114]⟩, ⟨#[114, 114, 114]⟩, ⟨#[114, 114, 114]⟩, ⟨#[114, 114, 32]⟩, ⟨#[32, 114, 114]⟩, ⟨#[32, 114, 32]⟩, ⟨#[114, 32, 32]⟩, ⟨#[32, 116, 32]⟩, ⟨#[116, 114, 116]⟩, ⟨#[32, 114, 32]⟩]
def shapesD : DataW Unit := .agg (shapesT.map fun s => .lit (.string s.data.toList))
/-- The table's cells. -/
def LaidW (w : World) : Prop := ∀ i, i < 15 → w.cell? ⟨0, i, none⟩ = some (.string (shapesT.getD i ⟨#[]⟩))
theorem LaidW.below {w w1 : World} (h : LaidW w) (hb : Below w.heap.size w w1) : LaidW w1 := fun i hi => pw_cell_below hb (h i hi)
theorem LaidW.alloc {w : World} (h : LaidW w) (o : Obj) : LaidW (w.alloc o) := h.below (below_alloc (Below.refl _ _) o)
theorem LaidW.drewN {w : World} (h : LaidW w) (n : Nat) : LaidW (w.drewN n) := h
theorem LaidW.drew {w : World} (h : LaidW w) : LaidW w.drew := h
theorem LaidW.of_reads {w : World} (h : Lib.VarReads Tryd.prog w "cubby/ir.shapes" shapesD) : LaidW w := by
  obtain ⟨g, t, cs, fuel, p, hg, ht, hv, hd⟩ := h
  obtain rfl := Option.some.inj ((show Tryd.prog.globalNamed "cubby/ir.shapes" = some 0 by kernel_rfl).symm.trans hg)
  obtain rfl := Option.some.inj ((show (Tryd.prog.globals[0]?).map (·.type) = some 80 by kernel_rfl).symm.trans ht)
  obtain ⟨xs, m, _, ex, _, hl, hel⟩ := DataW.trod_array Tryd.underlying80 hd
  have c1 : Tryd.prog.cellsOf 9 = 1 := by kernel_rfl
  intro i hi
  have hE := hel i hi
  rw [c1, Nat.mul_one, List.getElem?_eq_getElem (by omega)] at hE
  obtain ⟨s, e1, e2, _⟩ := DataW.trod_string Tryd.underlying9 hE
  have hlen : shapesT.length = 15 := rfl
  have e3 : (xs.map (·.1)) = shapesT.map fun s => .lit (.string s.data.toList) := (DataW.agg.inj (Prod.mk.inj ex).1).symm
  have e4 : (xs.map (·.1))[i]? = (shapesT.map fun s => (DataW.lit (.string s.data.toList) : DataW Unit))[i]? := by rw [e3]
  rw [List.getElem?_map, List.getElem?_map, List.getElem?_eq_getElem (by omega : i < xs.length), List.getElem?_eq_getElem (by omega : i < shapesT.length), e2] at e4
  have hs : s = shapesT.getD i ⟨#[]⟩ := by
    simp only [Option.map_some, Option.some.injEq, DataW.lit.injEq, Lit.string.injEq] at e4
    rw [List.getD_eq_getElem?_getD, List.getElem?_eq_getElem (by omega : i < shapesT.length)]
    have := congrArg List.toArray e4
    simp only [Array.toArray_toList] at this
    cases s
    simp at this ⊢
    rw [this]
  rw [World.var?_cell hg hv i, ← hs]
  have : cs.toList[i]? = some (.string s) := by
    have h0 : ((cs.toList.drop i).take 1)[0]? = some (.string s) := by rw [e1]; rfl
    simpa using h0
  simpa using this

def ir_shape.f (a0 : Int) : Option ByteArray := some (if 0 ≤ a0 ∧ a0 < 15 then shapesT.getD a0.toNat ⟨#[]⟩ else ⟨#[]⟩)
set_option maxHeartbeats 8000000 in
set_option maxRecDepth 100000 in
theorem ir_shape.calls (a0 : Int) (r : ByteArray) (w : World) (hL : LaidW w) (h : ir_shape.f a0 = some r) :
    Calls Tryd.prog 42 #[.int .i64 a0] w fun e w' => e = .returned (.string r) ∧ Drawn0 w w' := by
  obtain rfl := Option.some.inj h
  clear h
  by_cases c0 : a0 < 0
  · rw [if_neg (by omega)]
    have c0b : decide (a0 < 0) = true := decide_eq_true c0
    clear hL
    go_enter Tryd.func42, Tryd.ntmps42
    go_wp2
    go_ret
    exact ⟨rfl, by repeat (first | exact Drawn0.refl _ | apply Drawn0.step)⟩
  · by_cases c1 : a0 < 15
    · rw [if_pos ⟨by omega, c1⟩]
      have hc := hL a0.toNat (by omega)
      have c0b : decide (a0 < 0) = false := decide_eq_false c0
      have c1b : decide (15 ≤ a0) = false := decide_eq_false (by omega)
      clear hL
      have p0 : 0 ≤ a0 := by omega
      go_enter Tryd.func42, Tryd.ntmps42
      go_wp2
      go_ret
      exact ⟨rfl, by repeat (first | exact Drawn0.refl _ | apply Drawn0.step)⟩
    · rw [if_neg (by omega)]
      have c0b : decide (a0 < 0) = false := decide_eq_false c0
      have c1b : decide (15 ≤ a0) = true := decide_eq_true (by omega)
      clear hL
      go_enter Tryd.func42, Tryd.ntmps42
      go_wp2
      go_ret
      exact ⟨rfl, by repeat (first | exact Drawn0.refl _ | apply Drawn0.step)⟩
end Go.Proofs.YtbipipbfiekbgaaDoor.Q
