/- The law IrReads over numbers and lists. -/
import Derived.Test.YtgmklfaknomakaaDoorStmtIrReads
import Derived.Test.YtgmklfaknomakaaDoorPlainIr
import Derived.Test.YtgmklfaknomakaaDoorPlainSame
import Derived.Test.YtgmklfaknomakaaDoorQcubbylaw07same
namespace Go.Proofs.YtgmklfaknomakaaDoor.RIrReads.Pure
open Go Go.RowKit Go.Proofs.YtgmklfaknomakaaDoorW.PrintWords Go.Proofs.YtgmklfaknomakaaDoorW.PrintMore Go.Proofs.YtgmklfaknomakaaDoor.Q Go.Proofs.YtgmklfaknomakaaDoor.Plain Go.Proofs.YtgmklfaknomakaaDoor.PlainIr Go.Proofs.YtgmklfaknomakaaDoor.PlainSame
theorem lsame_loop (l : List Int) (hl : l.length ≤ 4611686018427387904) : ∀ (d j : Nat), l.length - j = d → j ≤ l.length → Ev (fun k => cubbylaw07_same.l0 k l l (j : Int)) true := by
  intro d
  induction d with
  | zero =>
    intro j hd hj
    exact Ev.step (f := fun _ => some true) (fun k => by simp only [cubbylaw07_same.l0]; rw [if_neg (by omega)]) (Ev.now _)
  | succ d ih =>
    intro j hd hj
    have hlt : j < l.length := by omega
    exact Ev.step (f := fun k => cubbylaw07_same.l0 k l l ((j + 1 : Nat) : Int)) (fun k => by simp only [cubbylaw07_same.l0]; rw [if_pos (by omega), if_pos (by omega), if_pos (by omega), if_pos trivial, wrap_nat (by omega)]) (ih (j + 1) (by omega) (by omega))
theorem lsame_ev (l : List Int) (hl : l.length ≤ 4611686018427387904) : Ev (fun k => cubbylaw07_same.f k l l) true := by
  have := lsame_loop l hl l.length 0 (by omega) (by omega)
  simpa [cubbylaw07_same.f] using this
theorem uses_len (op a b : Int) (args : List Int) (ha : args.length ≤ 1024) : (uses op a b args).length ≤ 1024 := by
  unfold uses
  repeat' split
  all_goals first | exact ha | simp
theorem targets7_len (op d a b : Int) : (targets7 op d a b).length ≤ 2 := by
  unfold targets7
  repeat' split
  all_goals simp
theorem IrReads : IrReads.Pure := by
  intro op d a b nm args op2 d2 a2 b2 nm2 args2 _ _ _ _ _ _ _ _ _ _ _ _
  refine Ev.rounds (g := fun k => cubbylaw07_IrReads.f k op d a b nm args op2 d2 a2 b2 nm2 args2) ?_
  have hyes : Ev (fun k => cubbylaw07_IrReads.j0 k true op d a b nm args op2 d2 a2 b2 nm2 args2) true := Ev.step (f := fun _ => some true) (fun k => by simp only [cubbylaw07_IrReads.j0, if_true]) (Ev.now _)
  by_cases h1 : (args.length : Int) > 1024
  · exact Ev.congr (fun k => by unfold cubbylaw07_IrReads.f; rw [if_pos h1]) hyes
  by_cases h2 : (args2.length : Int) > 1024
  · exact Ev.congr (fun k => by unfold cubbylaw07_IrReads.f; rw [if_neg h1, if_pos h2]) hyes
  by_cases h3 : (nm.size : Int) > 1024
  · exact Ev.congr (fun k => by unfold cubbylaw07_IrReads.f; rw [if_neg h1, if_neg h2, if_pos h3]) hyes
  refine Ev.congr (f := fun k => cubbylaw07_IrReads.j0 k (decide ((nm2.size : Int) > 1024)) op d a b nm args op2 d2 a2 b2 nm2 args2) (fun k => by unfold cubbylaw07_IrReads.f; rw [if_neg h1, if_neg h2, if_neg h3]) ?_
  by_cases h4 : (nm2.size : Int) > 1024
  · rw [decide_eq_true h4]
    exact hyes
  · rw [decide_eq_false h4]
    have ul := uses_len op a b args (by omega)
    have tl := targets7_len op d a b
    refine Ev.step (fun k => by simp only [cubbylaw07_IrReads.j0]; rw [if_neg (by simp)]) (Ev.bind (uses_ev op d a b nm args (by omega)) (Ev.bind (refuses_ev op d a b nm args (by omega)) (Ev.bind (lsame_ev (uses op a b args) (by omega)) ?_)))
    simp only [if_true, def_eq, refdef_eq, Option.bind_some, targets_eq, reftargets_eq]
    refine Ev.bind (lsame_ev (targets7 op d a b) (by omega)) ?_
    simp only [if_true, last_eq, reflast_eq, Option.bind_some, beq_self_eq_true]
    refine Ev.bind (same_ev ⟨op, d, a, b, nm, args⟩ ⟨op2, d2, a2, b2, nm2, args2⟩ (by show args.length ≤ _; omega)) (Ev.bind (refsame_ev ⟨op, d, a, b, nm, args⟩ ⟨op2, d2, a2, b2, nm2, args2⟩ (by show args.length ≤ _; omega)) ?_)
    simp only [if_true, beq_self_eq_true]
    refine Ev.bind (same_ev ⟨op, d, a, b, nm, args⟩ ⟨op, d, a, b, nm, args⟩ (by show args.length ≤ _; omega)) ?_
    rw [show sameIns ⟨op, d, a, b, nm, args⟩ ⟨op, d, a, b, nm, args⟩ = true from by simp [sameIns]]
    exact Ev.now _
end Go.Proofs.YtgmklfaknomakaaDoor.RIrReads.Pure
