/- The law AskParses over lists and numbers: any text is the document's request, or none; any request has the document's text, or none. -/
import Derived.Test.YtbipipbfiekbgaaDoorStmtAskParses
import Derived.Test.YtbipipbfiekbgaaDoorPlainAsk2
namespace Go.Proofs.YtbipipbfiekbgaaDoor.RAskParses.Pure
open Go Go.RowKit Go.Proofs.YtbipipbfiekbgaaDoorW.PrintWords Go.Proofs.YtbipipbfiekbgaaDoorW.PrintMore Go.Proofs.YtbipipbfiekbgaaDoor.Q Go.Proofs.YtbipipbfiekbgaaDoor.Plain Go.Proofs.YtbipipbfiekbgaaDoor.PlainAsk
set_option linter.unusedVariables false
theorem AskParses : AskParses.Pure := by
  intro s k nm tx h1 h2 h3 h4
  refine Ev.rounds ?_
  have hyes : Ev (fun q => cubbylaw21_AskParses.j0 q s true k nm tx) true := Ev.step (f := fun _ => some true) (fun q => by simp only [cubbylaw21_AskParses.j0]; rw [if_pos trivial]) (Ev.now _)
  by_cases c0 : (s.size : Int) > 4096
  · exact Ev.congr (fun q => by unfold cubbylaw21_AskParses.f; rw [if_pos c0]) hyes
  by_cases c1 : (nm.size : Int) > 1024
  · exact Ev.congr (fun q => by unfold cubbylaw21_AskParses.f; rw [if_neg c0, if_pos c1]) hyes
  by_cases c2 : (tx.size : Int) > 4096
  · exact Ev.congr (fun q => by unfold cubbylaw21_AskParses.f; rw [if_neg c0, if_neg c1, decide_eq_true c2]) hyes
  refine Ev.congr (fun q => by unfold cubbylaw21_AskParses.f; rw [if_neg c0, if_neg c1, decide_eq_false c2]) ?_
  obtain ⟨r, ⟨s1, s2, s3, s4⟩, hE⟩ := parse_ev s (by omega)
  refine Ev.step (fun q => by simp only [cubbylaw21_AskParses.j0]; rw [if_neg Bool.false_ne_true]) (Ev.bind hE (Ev.bind (refparse_ev s (by omega)) (Ev.bind (print_ev k nm tx (by omega) (by omega)) (Ev.bind (refprint_ev k nm tx (by omega) (by omega)) ?_))))
  exact Ev.congr (f := fun _ => some true) (fun q => by rw [if_pos s4, if_pos s1, if_pos s2, if_pos s3, if_pos rfl, beq_self_eq_true]) (Ev.now _)
end Go.Proofs.YtbipipbfiekbgaaDoor.RAskParses.Pure
