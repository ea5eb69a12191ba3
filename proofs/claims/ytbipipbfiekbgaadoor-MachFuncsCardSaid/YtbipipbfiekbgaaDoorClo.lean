/-
  The closure of ir.one that asks whether a register is none of the function's, and slices.ContainsFunc at it.
-/
import Derived.Test.YtbipipbfiekbgaaDoorQ0
import Derived.Test.YtbipipbfiekbgaaDoorShelfP
namespace Go.Proofs.YtbipipbfiekbgaaDoor.Q
open Go.RowKit Go.Shelf Go.Proofs.YtbipipbfiekbgaaDoorW.PrintWords Go.Proofs.YtbipipbfiekbgaaDoorW.PrintLast Go.Proofs.YtbipipbfiekbgaaDoorW.PrintMore
set_option linter.unusedVariables false

/-- Is it none of the registers? -/
def oddReg (regs n : Int) : Bool := decide (n < 0 ∨ regs ≤ n)
theorem ir_one_1.pred {regs p : Int} {nm : ByteArray} {bl : Value} {g : Nat} {w : World} (hbk : w.heap[g]? = some (.cells #[.string nm, .int .i64 p, .int .i64 regs, bl] 34 (0, 0))) :
    PredAt Tryd.prog 46 #[.pointer (some ⟨g, 0, none⟩)] (Value.int .i64) (oddReg regs) w := fun W x hb => by
  have hc : W.cell? ⟨g, 2, none⟩ = some (.int .i64 regs) := (blk_cell (blk_below hbk hb) 2).trans rfl
  show Calls Tryd.prog 46 #[.int .i64 x, .pointer (some ⟨g, 0, none⟩)] W _
  clear hbk hb
  unfold oddReg
  by_cases c0 : x < 0
  · have c0b : decide (x < 0) = true := decide_eq_true c0
    rw [decide_eq_true (.inl c0)]
    go_enter Tryd.func46, Tryd.ntmps46
    go_wp2
    go_ret
    exact ⟨rfl, 0, rfl⟩
  · have c0b : decide (x < 0) = false := decide_eq_false c0
    by_cases c1 : regs ≤ x
    · have c1b : decide (regs ≤ x) = true := decide_eq_true c1
      rw [decide_eq_true (.inr c1)]
      go_enter Tryd.func46, Tryd.ntmps46
      go_wp2
      go_ret
      exact ⟨rfl, 0, rfl⟩
    · have c1b : decide (regs ≤ x) = false := decide_eq_false c1
      rw [decide_eq_false (by omega)]
      go_enter Tryd.func46, Tryd.ntmps46
      go_wp2
      go_ret
      exact ⟨rfl, 0, rfl⟩

def ir_one_1.f (a0 : Int) (a1_0 : ByteArray) (a1_1 : Int) (a1_2 : Int) (l1_3 : List (List SIns)) : Option Bool := some (oddReg a1_2 a0)
theorem ir_one_1.calls (a0 : Int) (a1_0 : ByteArray) (a1_1 : Int) (a1_2 : Int) (A1_3 : Option Addr) (c1_3 : Nat) (l1_3 : List (List SIns)) (r : Bool) (w : World) (hr1_3 : Kd.C (Kd.slice 31 kIns) w A1_3 l1_3.length l1_3) (hc1_3 : l1_3.length ≤ c1_3) (h : ir_one_1.f a0 a1_0 a1_1 a1_2 l1_3 = some r)
    {gb_ : Nat} (hbk : w.heap[gb_]? = some (.cells #[.string a1_0, .int .i64 a1_1, .int .i64 a1_2, .slice A1_3 l1_3.length c1_3] 34 (0, 0))) :
    Calls Tryd.prog 46 #[.int .i64 a0, .pointer (some ⟨gb_, 0, none⟩)] w fun e w' => e = .returned (.bool r) ∧ Below w.heap.size w w' := by
  obtain rfl := Option.some.inj h
  exact (ir_one_1.pred hbk w a0 (Below.refl _ _)).mono fun e w' q => ⟨q.1, by
    obtain ⟨n, rfl⟩ := q.2
    exact below_drewN' (Below.refl _ w) n⟩

theorem spot_none {w : World} {ad : Addr} {v : Value} (h : w.cell? ad = some v) : ad.spot = none := by
  unfold World.cell? at h
  split at h
  · split at h
    · exact absurd h (by simp)
    · next hs => simpa using hs
  · exact absurd h (by simp)

def slices_ContainsFunc_int_int.f (l0 : List Int) (a1_0 : ByteArray) (a1_1 : Int) (a1_2 : Int) (l1_3 : List (List SIns)) : Option Bool := some (l0.any (oddReg a1_2))
theorem slices_ContainsFunc_int_int.calls (A0 : Option Addr) (c0 : Nat) (l0 : List Int) (a1_0 : ByteArray) (a1_1 : Int) (a1_2 : Int) (A1_3 : Option Addr) (c1_3 : Nat) (l1_3 : List (List SIns)) (r : Bool) (w : World) (hr0 : Kd.C (Kd.int .i64) w A0 l0.length l0) (hc0 : l0.length ≤ c0) (hr1_3 : Kd.C (Kd.slice 31 kIns) w A1_3 l1_3.length l1_3) (hc1_3 : l1_3.length ≤ c1_3) (h : slices_ContainsFunc_int_int.f l0 a1_0 a1_1 a1_2 l1_3 = some r)
    {gb_ : Nat} (hbk : w.heap[gb_]? = some (.cells #[.string a1_0, .int .i64 a1_1, .int .i64 a1_2, .slice A1_3 l1_3.length c1_3] 34 (0, 0))) :
    Calls Tryd.prog 47 #[.slice A0 l0.length c0, .func (.func 46) #[] #[.pointer (some ⟨gb_, 0, none⟩)]] w fun e w' => e = .returned (.bool r) ∧ Below w.heap.size w w' := by
  obtain rfl := Option.some.inj h
  have hR := Kd.reads_of_C (enc := Value.int .i64) (d := (0 : Int)) (h1 := fun _ => rfl) hr0
  have hp := ir_one_1.pred hbk
  have eg : ∀ args w, (callFunc 46 args).run Tryd.prog w = .ok (.enter 46 args) w := enters_of Tryd.func46 (by kernel_rfl) rfl
  clear hbk hr1_3 hc1_3 hr0
  cases l0 with
  | nil =>
    refine (AnyE.slices_ContainsFunc_empty Tryd.l8 A0 c0 _ w).mono ?_
    rintro e w' ⟨rfl, rfl⟩
    exact ⟨rfl, Below.refl _ _⟩
  | cons x xs =>
    obtain ⟨ad, rfl, hc⟩ := hR.2.2 (by simp)
    have hs : ad.spot = none := spot_none (hc 0 (by simp))
    obtain ⟨b, off, sp⟩ := ad
    obtain rfl : sp = none := hs
    have hcell : ∀ j, j < (x :: xs).length → w.cell? ⟨b, off + j, none⟩ = some (.int .i64 ((x :: xs)[j]!)) := by
      intro j hj
      have e := hc j hj
      have e1 : (Addr.add ⟨b, off, none⟩ j) = ⟨b, off + j, none⟩ := by
        unfold Addr.add
        split
        · next h0 => rw [h0]; rfl
        · rfl
      rw [e1] at e
      rw [e]
      congr 2
      rw [List.getD_eq_getElem?_getD, List.getElem!_eq_getElem?_getD]
      rfl
    refine (AnyE.slices_ContainsFunc Tryd.l8 (Value.int .i64) (oddReg a1_2) 46 #[.pointer (some ⟨gb_, 0, none⟩)] eg b off (x :: xs).length c0 (x :: xs) w hp (Nat.le_refl _) hR.2.1 hcell).mono ?_
    rintro e w' ⟨rfl, n, rfl⟩
    rw [List.take_length]
    exact ⟨rfl, below_drewN' (Below.refl _ w) n⟩
end Go.Proofs.YtbipipbfiekbgaaDoor.Q
