/-
  What the helpers of the laws of layer 9 answer.
-/
import Derived.Test.YtgmklfaknomakaaPlainFlow
import Derived.Test.YtgmklfaknomakaaQcubbylaw09same
import Derived.Test.YtgmklfaknomakaaQcubbylaw09heavy
namespace Go.Proofs.Ytgmklfaknomakaa.PlainLaw09
open Go Go.RowKit Go.Proofs.YtgmklfaknomakaaW.PrintWords Go.Proofs.YtgmklfaknomakaaW.PrintMore Go.Proofs.Ytgmklfaknomakaa.Q Go.Proofs.Ytgmklfaknomakaa.Plain Go.Proofs.Ytgmklfaknomakaa.PlainFlow

theorem same_loop (l : List Int) (hl : l.length ≤ 4611686018427387904) : ∀ (d j : Nat), l.length - j = d → j ≤ l.length → Ev (fun k => cubbylaw09_same.l0 k l l (j : Int)) true := by
  intro d
  induction d with
  | zero =>
    intro j hd hj
    exact Ev.step (f := fun _ => some true) (fun k => by simp only [cubbylaw09_same.l0]; rw [if_neg (by omega)]) (Ev.now _)
  | succ d ih =>
    intro j hd hj
    have hlt : j < l.length := by omega
    exact Ev.step (f := fun k => cubbylaw09_same.l0 k l l ((j + 1 : Nat) : Int)) (fun k => by simp only [cubbylaw09_same.l0]; rw [if_pos (by omega), if_pos (by omega), if_pos (by omega), if_pos trivial, wrap_nat (by omega)]) (ih (j + 1) (by omega) (by omega))
theorem same_ev (l : List Int) (hl : l.length ≤ 4611686018427387904) : Ev (fun k => cubbylaw09_same.f k l l) true := by
  have := same_loop l hl l.length 0 (by omega) (by omega)
  simpa [cubbylaw09_same.f] using this

/-- A list of blocks that the statements speak of. -/
def Light (x : List (List SIns)) : Prop := x.length ≤ 40 ∧ ∀ b ∈ x, b.length ≤ 100
theorem heavy_loop (x : List (List SIns)) (hx : x.length ≤ 40) : ∀ (d j : Nat), x.length - j = d → j ≤ x.length → (∀ b ∈ x.take j, b.length ≤ 100) → ∃ r, Ev (fun k => cubbylaw09_heavy.l0 k x (j : Int)) r ∧ (r = false → Light x) := by
  intro d
  induction d with
  | zero =>
    intro j hd hj hb
    refine ⟨false, Ev.step (f := fun _ => some false) (fun k => by simp only [cubbylaw09_heavy.l0]; rw [if_neg (by omega)]) (Ev.now _), fun _ => ⟨hx, ?_⟩⟩
    rwa [List.take_of_length_le (by omega)] at hb
  | succ d ih =>
    intro j hd hj hb
    have hlt : j < x.length := by omega
    have hrd : rd_LIns x (j : Int) = x[j] := by
      show x.getD j [] = _
      rw [List.getD_eq_getElem?_getD, List.getElem?_eq_getElem hlt]
      rfl
    by_cases h : ((x[j].length : Nat) : Int) > 100
    · refine ⟨true, Ev.step (f := fun _ => some true) (fun k => by simp only [cubbylaw09_heavy.l0]; rw [if_pos (by omega), if_pos (by omega), hrd, if_pos h]) (Ev.now _), fun h => by cases h⟩
    · obtain ⟨r, hr, hl⟩ := ih (j + 1) (by omega) (by omega) (by
        rw [List.take_succ_eq_append_getElem hlt]
        intro b hb'
        rcases List.mem_append.1 hb' with hb' | hb'
        · exact hb b hb'
        · rw [List.mem_singleton.1 hb']
          omega)
      exact ⟨r, Ev.step (f := fun k => cubbylaw09_heavy.l0 k x ((j + 1 : Nat) : Int)) (fun k => by simp only [cubbylaw09_heavy.l0]; rw [if_pos (by omega), if_pos (by omega), hrd, if_neg h, wrap_nat (by omega)]) hr, hl⟩
theorem heavy_ev (x : List (List SIns)) : ∃ r, Ev (fun k => cubbylaw09_heavy.f k x) r ∧ (r = false → Light x) := by
  by_cases h : (x.length : Int) > 40
  · exact ⟨true, Ev.congr (f := fun _ => some true) (fun k => by unfold cubbylaw09_heavy.f; rw [if_pos h]) (Ev.now _), fun h => by cases h⟩
  · obtain ⟨r, hr, hl⟩ := heavy_loop x (by omega) x.length 0 (by omega) (by omega) (by simp)
    exact ⟨r, Ev.congr (f := fun k => cubbylaw09_heavy.l0 k x 0) (fun k => by unfold cubbylaw09_heavy.f; rw [if_neg h]) hr, hl⟩
theorem Light.small {x : List (List SIns)} (h : Light x) : Small x := ⟨by have := h.1; omega, fun b hb => by have := h.2 b hb; omega⟩
end Go.Proofs.Ytgmklfaknomakaa.PlainLaw09
