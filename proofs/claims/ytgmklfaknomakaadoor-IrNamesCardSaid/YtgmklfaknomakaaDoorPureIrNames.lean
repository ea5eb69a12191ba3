/- The law IrNames over lists and numbers. -/
import Derived.Test.YtgmklfaknomakaaDoorStmtIrNames
import Derived.Test.YtgmklfaknomakaaDoorPlainName
namespace Go.Proofs.YtgmklfaknomakaaDoor.RIrNames.Pure
open Go Go.RowKit Go.Proofs.YtgmklfaknomakaaDoorW.PrintWords Go.Proofs.YtgmklfaknomakaaDoor.Q Go.Proofs.YtgmklfaknomakaaDoor.Plain Go.Proofs.YtgmklfaknomakaaDoor.PlainName
theorem IrNames : IrNames.Pure := by
  intro a0 _
  refine Ev.rounds (g := fun k => cubbylaw07_IrNames.f k a0) ?_
  by_cases h1 : (a0.size : Int) > 1024
  · exact Ev.congr (f := fun _ => some true) (fun k => by unfold cubbylaw07_IrNames.f; rw [if_pos h1]) (Ev.now _)
  · refine Ev.congr (fun k => by unfold cubbylaw07_IrNames.f; rw [if_neg h1, name_eq, Option.bind_some]) ?_
    refine Ev.bind (refname_ev a0) ?_
    simp only [beq_self_eq_true, if_true, name_eq, Option.bind_some]
    rw [show nameOk ⟨#[97]⟩ = true by decide +kernel, show nameOk ⟨#[]⟩ = false by decide +kernel]
    exact Ev.now _
end Go.Proofs.YtgmklfaknomakaaDoor.RIrNames.Pure
