/-
  Two lists of numbers held against each other, and two instructions: what the printed functions answer.
-/
import Derived.Test.YtgmklfaknomakaaDoorPlain
import Derived.Test.YtgmklfaknomakaaDoorQslicesEqualintint
import Derived.Test.YtgmklfaknomakaaDoorQirSame
import Derived.Test.YtgmklfaknomakaaDoorQcubbyref07Same
namespace Go.Proofs.YtgmklfaknomakaaDoor.PlainSame
open Go Go.RowKit Go.Proofs.YtgmklfaknomakaaDoorW.PrintWords Go.Proofs.YtgmklfaknomakaaDoorW.PrintMore Go.Proofs.YtgmklfaknomakaaDoor.Q Go.Proofs.YtgmklfaknomakaaDoor.Plain
set_option linter.unusedVariables false

theorem equal_loop (a b : List Int) (hl : a.length = b.length) (hb : a.length ≤ 4611686018427387904) : ∀ (d j : Nat), a.length - j = d → j ≤ a.length → Ev (fun k => slices_Equal_int_int.l0 k a b (a.length : Int) (j : Int)) (decide (a.drop j = b.drop j)) := by
  intro d
  induction d with
  | zero =>
    intro j hd hj
    refine Ev.step (f := fun _ => some true) (fun k => by simp only [slices_Equal_int_int.l0]; rw [if_neg (by omega)]) ?_
    rw [List.drop_eq_nil_of_le (by omega), List.drop_eq_nil_of_le (by omega)]
    exact Ev.now _
  | succ d ih =>
    intro j hd hj
    have h1 : j < a.length := by omega
    have h2 : j < b.length := by omega
    rw [drop_cons h1, drop_cons h2]
    by_cases e : a[j] = b[j]
    · refine Ev.step (f := fun k => slices_Equal_int_int.l0 k a b (a.length : Int) ((j + 1 : Nat) : Int)) (fun k => by simp only [slices_Equal_int_int.l0]; rw [if_pos (by omega), if_pos (by omega), if_pos (by omega), if_pos (by omega), rd_get h1, rd_get h2, if_pos e, wrap_nat (by omega)]) ?_
      rw [show decide (a[j] :: a.drop (j + 1) = b[j] :: b.drop (j + 1)) = decide (a.drop (j + 1) = b.drop (j + 1)) by rw [decide_eq_decide, List.cons.injEq]; exact ⟨And.right, fun h => ⟨e, h⟩⟩]
      exact ih (j + 1) (by omega) (by omega)
    · refine Ev.step (f := fun _ => some false) (fun k => by simp only [slices_Equal_int_int.l0]; rw [if_pos (by omega), if_pos (by omega), if_pos (by omega), if_pos (by omega), rd_get h1, rd_get h2, if_neg e]) ?_
      rw [decide_eq_false (fun h => e (List.cons.inj h).1)]
      exact Ev.now _
theorem equal_ev (a b : List Int) (hb : a.length ≤ 4611686018427387904) : Ev (fun k => slices_Equal_int_int.f k a b) (decide (a = b)) := by
  by_cases h : a.length = b.length
  · refine Ev.congr (f := fun k => slices_Equal_int_int.l0 k a b (a.length : Int) ((0 : Nat) : Int)) (fun k => by unfold slices_Equal_int_int.f; rw [if_pos (by omega)]; rfl) ?_
    have := equal_loop a b h hb _ 0 rfl (by omega)
    simpa using this
  · refine Ev.congr (f := fun _ => some false) (fun k => by unfold slices_Equal_int_int.f; rw [if_neg (by omega)]) ?_
    rw [decide_eq_false (fun e => h (by rw [e]))]
    exact Ev.now _
/-- The same instruction. -/
def sameIns (x y : SIns) : Bool := decide (x.f0 = y.f0 ∧ x.f1 = y.f1 ∧ x.f2 = y.f2 ∧ x.f3 = y.f3 ∧ x.f4.toList = y.f4.toList ∧ x.f5 = y.f5)
theorem same_ev (x y : SIns) (hb : x.f5.length ≤ 4611686018427387904) : Ev (fun k => ir_Same.f k x.f0 x.f1 x.f2 x.f3 x.f4 x.f5 y.f0 y.f1 y.f2 y.f3 y.f4 y.f5) (sameIns x y) := by
  unfold sameIns
  by_cases h0 : x.f0 = y.f0 ∧ x.f1 = y.f1 ∧ x.f2 = y.f2 ∧ x.f3 = y.f3 ∧ x.f4.toList = y.f4.toList
  · refine Ev.congr (f := fun k => (slices_Equal_int_int.f k x.f5 y.f5).bind fun t => some t) (fun k => by unfold ir_Same.f; rw [if_pos h0.1, if_pos h0.2.1, if_pos h0.2.2.1, if_pos h0.2.2.2.1, if_pos h0.2.2.2.2]) ?_
    refine Ev.bind (equal_ev _ _ hb) ?_
    rw [show decide (x.f5 = y.f5) = decide (x.f0 = y.f0 ∧ x.f1 = y.f1 ∧ x.f2 = y.f2 ∧ x.f3 = y.f3 ∧ x.f4.toList = y.f4.toList ∧ x.f5 = y.f5) from by
      rw [decide_eq_decide]
      exact ⟨fun h => ⟨h0.1, h0.2.1, h0.2.2.1, h0.2.2.2.1, h0.2.2.2.2, h⟩, fun h => h.2.2.2.2.2⟩]
    exact Ev.now _
  · refine Ev.congr (f := fun _ => some false) (fun k => by
      unfold ir_Same.f
      repeat' split
      all_goals first | rfl | (exfalso; exact h0 ⟨by assumption, by assumption, by assumption, by assumption, by assumption⟩)) ?_
    rw [decide_eq_false (fun h => h0 ⟨h.1, h.2.1, h.2.2.1, h.2.2.2.1, h.2.2.2.2.1⟩)]
    exact Ev.now _
theorem refsame_loop (x y : SIns) (hl : x.f5.length = y.f5.length) (hb : x.f5.length ≤ 4611686018427387904) : ∀ (d j : Nat), x.f5.length - j = d → j ≤ x.f5.length →
    Ev (fun k => cubbyref07_Same.l0 k (j : Int) x.f0 x.f1 x.f2 x.f3 x.f4 x.f5 y.f0 y.f1 y.f2 y.f3 y.f4 y.f5) (decide (x.f5.drop j = y.f5.drop j)) := by
  intro d
  induction d with
  | zero =>
    intro j hd hj
    refine Ev.step (f := fun _ => some true) (fun k => by simp only [cubbyref07_Same.l0]; rw [if_neg (by omega)]) ?_
    rw [List.drop_eq_nil_of_le (by omega), List.drop_eq_nil_of_le (by omega)]
    exact Ev.now _
  | succ d ih =>
    intro j hd hj
    have h1 : j < x.f5.length := by omega
    have h2 : j < y.f5.length := by omega
    rw [drop_cons h1, drop_cons h2]
    by_cases e : x.f5[j] = y.f5[j]
    · refine Ev.step (f := fun k => cubbyref07_Same.l0 k ((j + 1 : Nat) : Int) x.f0 x.f1 x.f2 x.f3 x.f4 x.f5 y.f0 y.f1 y.f2 y.f3 y.f4 y.f5) (fun k => by simp only [cubbyref07_Same.l0]; rw [if_pos (by omega), if_pos (by omega), if_pos (by omega), rd_get h1, rd_get h2, if_pos e, wrap_nat (by omega)]) ?_
      rw [show decide (x.f5[j] :: x.f5.drop (j + 1) = y.f5[j] :: y.f5.drop (j + 1)) = decide (x.f5.drop (j + 1) = y.f5.drop (j + 1)) by rw [decide_eq_decide, List.cons.injEq]; exact ⟨And.right, fun h => ⟨e, h⟩⟩]
      exact ih (j + 1) (by omega) (by omega)
    · refine Ev.step (f := fun _ => some false) (fun k => by simp only [cubbyref07_Same.l0]; rw [if_pos (by omega), if_pos (by omega), if_pos (by omega), rd_get h1, rd_get h2, if_neg e]) ?_
      rw [decide_eq_false (fun h => e (List.cons.inj h).1)]
      exact Ev.now _
theorem refsame_ev (x y : SIns) (hb : x.f5.length ≤ 4611686018427387904) : Ev (fun k => cubbyref07_Same.f k x.f0 x.f1 x.f2 x.f3 x.f4 x.f5 y.f0 y.f1 y.f2 y.f3 y.f4 y.f5) (sameIns x y) := by
  have no : Ev (fun k => cubbyref07_Same.j0 k true x.f0 x.f1 x.f2 x.f3 x.f4 x.f5 y.f0 y.f1 y.f2 y.f3 y.f4 y.f5) false := Ev.step (f := fun _ => some false) (fun k => by simp only [cubbyref07_Same.j0, if_true]) (Ev.now _)
  unfold sameIns
  by_cases h0 : x.f0 = y.f0 ∧ x.f1 = y.f1 ∧ x.f2 = y.f2 ∧ x.f3 = y.f3 ∧ x.f4.toList = y.f4.toList
  · by_cases hl : x.f5.length = y.f5.length
    · have e : ((x.f5.length : Int) != (y.f5.length : Int)) = false := by rw [bne_eq_false_iff_eq]; omega
      refine Ev.congr (f := fun k => cubbyref07_Same.j0 k false x.f0 x.f1 x.f2 x.f3 x.f4 x.f5 y.f0 y.f1 y.f2 y.f3 y.f4 y.f5) (fun k => by unfold cubbyref07_Same.f; rw [if_pos h0.1, if_pos h0.2.1, if_pos h0.2.2.1, if_pos h0.2.2.2.1, if_pos h0.2.2.2.2, e]) ?_
      refine Ev.step (f := fun k => cubbyref07_Same.l0 k ((0 : Nat) : Int) x.f0 x.f1 x.f2 x.f3 x.f4 x.f5 y.f0 y.f1 y.f2 y.f3 y.f4 y.f5) (fun k => by simp only [cubbyref07_Same.j0]; rw [if_neg (by simp)]; rfl) ?_
      have := refsame_loop x y hl hb _ 0 rfl (by omega)
      simp only [List.drop_zero] at this
      rw [show decide (x.f0 = y.f0 ∧ x.f1 = y.f1 ∧ x.f2 = y.f2 ∧ x.f3 = y.f3 ∧ x.f4.toList = y.f4.toList ∧ x.f5 = y.f5) = decide (x.f5 = y.f5) from by
        rw [decide_eq_decide]
        exact ⟨fun h => h.2.2.2.2.2, fun h => ⟨h0.1, h0.2.1, h0.2.2.1, h0.2.2.2.1, h0.2.2.2.2, h⟩⟩]
      exact this
    · have e : ((x.f5.length : Int) != (y.f5.length : Int)) = true := by rw [bne_iff_ne]; omega
      refine Ev.congr (f := fun k => cubbyref07_Same.j0 k true x.f0 x.f1 x.f2 x.f3 x.f4 x.f5 y.f0 y.f1 y.f2 y.f3 y.f4 y.f5) (fun k => by unfold cubbyref07_Same.f; rw [if_pos h0.1, if_pos h0.2.1, if_pos h0.2.2.1, if_pos h0.2.2.2.1, if_pos h0.2.2.2.2, e]) ?_
      rw [decide_eq_false (fun h => hl (by rw [h.2.2.2.2.2]))]
      exact no
  · refine Ev.congr (f := fun k => cubbyref07_Same.j0 k true x.f0 x.f1 x.f2 x.f3 x.f4 x.f5 y.f0 y.f1 y.f2 y.f3 y.f4 y.f5) (fun k => by
      unfold cubbyref07_Same.f
      repeat' split
      all_goals first | rfl | (exfalso; exact h0 ⟨by assumption, by assumption, by assumption, by assumption, by assumption⟩)) ?_
    rw [decide_eq_false (fun h => h0 ⟨h.1, h.2.1, h.2.2.1, h.2.2.2.1, h.2.2.2.2.1⟩)]
    exact no
end Go.Proofs.YtgmklfaknomakaaDoor.PlainSame
