/- The law MachReads over numbers and lists. -/
import Derived.Test.YtgmklfaknomakaaDoorStmtMachReads
import Derived.Test.YtgmklfaknomakaaDoorPlainMach
namespace Go.Proofs.YtgmklfaknomakaaDoor.RMachReads.Pure
open Go Go.RowKit Go.Proofs.YtgmklfaknomakaaDoorW.PrintWords Go.Proofs.YtgmklfaknomakaaDoorW.PrintMore Go.Proofs.YtgmklfaknomakaaDoor.Q Go.Proofs.YtgmklfaknomakaaDoor.Plain Go.Proofs.YtgmklfaknomakaaDoor.PlainIr Go.Proofs.YtgmklfaknomakaaDoor.PlainMach
theorem MachReads : MachReads.Pure := by
  intro op d a b nm args _ _ _ _ _ _
  refine Ev.rounds (g := fun k => cubbylaw13_MachReads.f k op d a b nm args) ?_
  have hyes : Ev (fun k => cubbylaw13_MachReads.j0 k true op d a b nm args) true := Ev.step (f := fun _ => some true) (fun k => by simp only [cubbylaw13_MachReads.j0, if_true]) (Ev.now _)
  by_cases h : (args.length : Int) > 1024
  · exact Ev.congr (fun k => by unfold cubbylaw13_MachReads.f; rw [if_pos h]) hyes
  · have ha : args.length ≤ 1000000000 := by omega
    have hl := mreads_len op a b args ha
    refine Ev.congr (f := fun k => cubbylaw13_MachReads.j0 k (decide ((nm.size : Int) > 1024)) op d a b nm args) (fun k => by unfold cubbylaw13_MachReads.f; rw [if_neg h]) ?_
    by_cases h2 : (nm.size : Int) > 1024
    · rw [decide_eq_true h2]
      exact hyes
    · rw [decide_eq_false h2]
      refine Ev.step (fun k => by simp only [cubbylaw13_MachReads.j0]; rw [if_neg (by simp)]) (Ev.bind (mreads_ev op d a b nm args ha) (Ev.bind (refmreads_ev op d a b nm args ha) (Ev.bind (ints_ev (mreads op a b args) (by omega)) ?_)))
      simp only [if_true, mwrites_eq, refmwrites_eq, Option.bind_some, beq_self_eq_true]
      exact Ev.now _
end Go.Proofs.YtgmklfaknomakaaDoor.RMachReads.Pure
