/- The law SpanMeets over numbers. -/
import Derived.Test.YtgmklfaknomakaaStmtSpanMeets
namespace Go.Proofs.Ytgmklfaknomakaa.RSpanMeets.Pure
open Go Go.RowKit Go.Proofs.YtgmklfaknomakaaW.PrintWords Go.Proofs.YtgmklfaknomakaaW.PrintMore Go.Proofs.Ytgmklfaknomakaa.PSpanMeets
theorem meet_eq (a b c d : Int) : span_Meet.f a b c d = some (decide (0 ≤ a ∧ 0 ≤ c ∧ a ≤ b ∧ c ≤ d ∧ a ≤ d ∧ c ≤ b)) := by
  unfold span_Meet.f mx mn
  repeat' split
  all_goals rw [Option.some.injEq]
  all_goals first | (rw [decide_eq_decide]; omega) | (symm; rw [decide_eq_false_iff_not]; omega)
theorem ref_eq (a b c d : Int) : cubbyref12_Meet.f a b c d = some (decide (0 ≤ a ∧ 0 ≤ c ∧ a ≤ b ∧ c ≤ d ∧ a ≤ d ∧ c ≤ b)) := by
  unfold cubbyref12_Meet.f
  repeat' split
  all_goals rw [Option.some.injEq]
  all_goals first | (rw [decide_eq_decide]; omega) | (symm; rw [decide_eq_false_iff_not]; omega)
theorem SpanMeets : SpanMeets.Pure := by
  intro a b c d _ _ _ _
  unfold cubbylaw12_SpanMeets.f
  simp only [meet_eq, ref_eq, Option.bind_some]
  rw [show (decide (0 ≤ c ∧ 0 ≤ a ∧ c ≤ d ∧ a ≤ b ∧ c ≤ b ∧ a ≤ d)) = (decide (0 ≤ a ∧ 0 ≤ c ∧ a ≤ b ∧ c ≤ d ∧ a ≤ d ∧ c ≤ b)) by rw [decide_eq_decide]; omega]
  simp
end Go.Proofs.Ytgmklfaknomakaa.RSpanMeets.Pure
