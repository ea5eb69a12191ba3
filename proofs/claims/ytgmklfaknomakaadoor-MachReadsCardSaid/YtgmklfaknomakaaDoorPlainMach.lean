/-
  What an instruction of code reads and writes: both texts' answers.
-/
import Derived.Test.YtgmklfaknomakaaDoorPlainIr
import Derived.Test.YtgmklfaknomakaaDoorQmachReads
import Derived.Test.YtgmklfaknomakaaDoorQcubbyref13Reads
import Derived.Test.YtgmklfaknomakaaDoorQmachWrites
import Derived.Test.YtgmklfaknomakaaDoorQcubbyref13Writes
import Derived.Test.YtgmklfaknomakaaDoorQcubbyref10Ints
namespace Go.Proofs.YtgmklfaknomakaaDoor.PlainMach
open Go Go.RowKit Go.Proofs.YtgmklfaknomakaaDoorW.PrintWords Go.Proofs.YtgmklfaknomakaaDoorW.PrintMore Go.Proofs.YtgmklfaknomakaaDoor.Q Go.Proofs.YtgmklfaknomakaaDoor.Plain Go.Proofs.YtgmklfaknomakaaDoor.PlainIr
set_option linter.unusedVariables false

/-- The numbers up to n. -/
def upto (n : Nat) : List Int := (List.range n).map (fun (k : Nat) => (k : Int))
theorem upto_succ (n : Nat) : upto (n + 1) = upto n ++ [(n : Int)] := by simp [upto, List.range_succ]
theorem upto_len (n : Nat) : (upto n).length = n := by simp [upto]
def mreads (op a b : Int) (args : List Int) : List Int := if op = 11 then upto (min a.toNat 16) else if op = 22 then [a] else if op = 21 then [] else uses op a b args
def mwrites (op d : Int) : Int := if op = 11 then 0 else if op = 22 then -1 else if op = 21 then d else defOf op d

theorem mreads_loop (n : Nat) (hn : n ≤ 16) : ∀ (d j : Nat), n - j = d → j ≤ n → Ev (fun k => mach_Reads.l0 k (upto j) (n : Int) (j : Int)) (upto n) := by
  intro d
  induction d with
  | zero =>
    intro j hd hj
    obtain rfl : j = n := by omega
    exact Ev.step (f := fun _ => some (upto j)) (fun k => by simp only [mach_Reads.l0]; rw [if_neg (by omega)]) (Ev.now _)
  | succ d ih =>
    intro j hd hj
    refine Ev.step (f := fun k => mach_Reads.l0 k (upto (j + 1)) (n : Int) ((j + 1 : Nat) : Int)) (fun k => ?_) (ih (j + 1) (by omega) (by omega))
    simp only [mach_Reads.l0]
    rw [if_pos (by omega), if_pos (by rw [upto_len]; omega), upto_succ, wrap_nat (by omega)]
theorem mreads_ev (op d a b : Int) (nm : ByteArray) (args : List Int) (ha : args.length ≤ 1000000000) : Ev (fun k => mach_Reads.f k op d a b nm args) (mreads op a b args) := by
  unfold mreads
  by_cases h1 : op = 11
  · rw [if_pos h1]
    refine Ev.congr (f := fun k => mach_Reads.l0 k (upto 0) ((min a.toNat 16 : Nat) : Int) ((0 : Nat) : Int)) (fun k => ?_) (mreads_loop _ (by omega) _ 0 rfl (by omega))
    unfold mach_Reads.f
    rw [if_pos h1]
    rw [show mn (mx a 0) 16 = ((min a.toNat 16 : Nat) : Int) from by unfold mn mx; omega]
    rfl
  · rw [if_neg h1]
    by_cases h2 : op = 22
    · rw [if_pos h2]
      exact Ev.congr (f := fun _ => some [a]) (fun k => by unfold mach_Reads.f; rw [if_neg h1, if_pos h2]) (Ev.now _)
    · rw [if_neg h2]
      by_cases h3 : op = 21
      · rw [if_pos h3]
        exact Ev.congr (f := fun _ => some []) (fun k => by unfold mach_Reads.f; rw [if_neg h1, if_neg h2, if_pos h3]) (Ev.now _)
      · rw [if_neg h3]
        exact Ev.congr (f := fun k => (ir_Uses.f k op d a b nm args).bind fun t => some t) (fun k => by unfold mach_Reads.f; rw [if_neg h1, if_neg h2, if_neg h3]) (Ev.bind (uses_ev op d a b nm args ha) (Ev.now _))
theorem refmreads_loop (op d a b : Int) (nm : ByteArray) (args : List Int) : ∀ (q j : Nat), min a.toNat 16 - j = q → j ≤ min a.toNat 16 → Ev (fun k => cubbyref13_Reads.l0 k (upto j) (j : Int) op d a b nm args) (upto (min a.toNat 16)) := by
  intro q
  induction q with
  | zero =>
    intro j hd hj
    have hj' : j = min a.toNat 16 := by omega
    rw [← hj']
    refine Ev.step (f := fun _ => some (upto j)) (fun k => ?_) (Ev.now _)
    simp only [cubbyref13_Reads.l0]
    split
    · rw [if_neg (by omega)]
    · rfl
  | succ q ih =>
    intro j hd hj
    refine Ev.step (f := fun k => cubbyref13_Reads.l0 k (upto (j + 1)) ((j + 1 : Nat) : Int) op d a b nm args) (fun k => ?_) (ih (j + 1) (by omega) (by omega))
    simp only [cubbyref13_Reads.l0]
    rw [if_pos (by omega), if_pos (by omega), if_pos (by rw [upto_len]; omega), upto_succ, wrap_nat (by omega)]
theorem refmreads_ev (op d a b : Int) (nm : ByteArray) (args : List Int) (ha : args.length ≤ 1000000000) : Ev (fun k => cubbyref13_Reads.f k op d a b nm args) (mreads op a b args) := by
  unfold mreads
  by_cases h1 : op = 11
  · rw [if_pos h1]
    refine Ev.congr (f := fun k => cubbyref13_Reads.l0 k (upto 0) ((0 : Nat) : Int) op d a b nm args) (fun k => ?_) (refmreads_loop op d a b nm args _ 0 rfl (by omega))
    unfold cubbyref13_Reads.f
    simp only [Option.bind_some]
    rw [if_pos h1]
    rfl
  · rw [if_neg h1]
    by_cases h2 : op = 22
    · rw [if_pos h2]
      exact Ev.congr (f := fun _ => some [a]) (fun k => by unfold cubbyref13_Reads.f; simp only [Option.bind_some]; rw [if_neg h1, if_pos h2, if_pos (by simp)]; rfl) (Ev.now _)
    · rw [if_neg h2]
      by_cases h3 : op = 21
      · rw [if_pos h3]
        exact Ev.congr (f := fun _ => some []) (fun k => by unfold cubbyref13_Reads.f; simp only [Option.bind_some]; rw [if_neg h1, if_neg h2, if_pos h3]) (Ev.now _)
      · rw [if_neg h3]
        exact Ev.congr (f := fun k => (cubbyref07_Uses.f k op d a b nm args).bind fun t => some t) (fun k => by unfold cubbyref13_Reads.f; simp only [Option.bind_some]; rw [if_neg h1, if_neg h2, if_neg h3]) (Ev.bind (refuses_ev op d a b nm args ha) (Ev.now _))
theorem mwrites_eq (op d a b : Int) (nm : ByteArray) (args : List Int) : mach_Writes.f op d a b nm args = some (mwrites op d) := by
  unfold mach_Writes.f mwrites
  rw [def_eq, Option.bind_some]
  repeat' split
  all_goals rfl
theorem refmwrites_eq (op d a b : Int) (nm : ByteArray) (args : List Int) : cubbyref13_Writes.f op d a b nm args = some (mwrites op d) := by
  unfold cubbyref13_Writes.f mwrites
  rw [refdef_eq, Option.bind_some]
  repeat' split
  all_goals first | rfl | omega
theorem ints_loop (l : List Int) (hl : l.length ≤ 4611686018427387904) : ∀ (d j : Nat), l.length - j = d → j ≤ l.length → Ev (fun k => cubbyref10_Ints.l0 k l l (j : Int)) true := by
  intro d
  induction d with
  | zero =>
    intro j hd hj
    exact Ev.step (f := fun _ => some true) (fun k => by simp only [cubbyref10_Ints.l0]; rw [if_neg (by omega)]) (Ev.now _)
  | succ d ih =>
    intro j hd hj
    have hlt : j < l.length := by omega
    exact Ev.step (f := fun k => cubbyref10_Ints.l0 k l l ((j + 1 : Nat) : Int)) (fun k => by simp only [cubbyref10_Ints.l0]; rw [if_pos (by omega), if_pos (by omega), if_pos (by omega), if_pos trivial, wrap_nat (by omega)]) (ih (j + 1) (by omega) (by omega))
theorem ints_ev (l : List Int) (hl : l.length ≤ 4611686018427387904) : Ev (fun k => cubbyref10_Ints.f k l l) true := by
  have := ints_loop l hl l.length 0 (by omega) (by omega)
  simpa [cubbyref10_Ints.f] using this
theorem mreads_len (op a b : Int) (args : List Int) (ha : args.length ≤ 1000000000) : (mreads op a b args).length ≤ 1000000000 := by
  unfold mreads uses
  repeat' split
  all_goals first | (rw [upto_len]; omega) | (simp; done) | exact ha | simp
end Go.Proofs.YtgmklfaknomakaaDoor.PlainMach
