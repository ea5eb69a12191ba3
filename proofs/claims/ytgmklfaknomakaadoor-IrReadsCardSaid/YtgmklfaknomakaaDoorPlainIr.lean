/-
  What the printed functions of layer 7 (what an instruction reads, writes, whether it is a last one, whether two are the same) answer: both texts' come to one plain function.
-/
import Derived.Test.YtgmklfaknomakaaDoorPlain
import Derived.Test.YtgmklfaknomakaaDoorLaid
import Derived.Test.YtgmklfaknomakaaDoorQirUses
import Derived.Test.YtgmklfaknomakaaDoorQcubbyref07Uses
import Derived.Test.YtgmklfaknomakaaDoorQirDef
import Derived.Test.YtgmklfaknomakaaDoorQcubbyref07Def
import Derived.Test.YtgmklfaknomakaaDoorQirTargets
import Derived.Test.YtgmklfaknomakaaDoorQcubbyref07Targets
import Derived.Test.YtgmklfaknomakaaDoorQirLast
import Derived.Test.YtgmklfaknomakaaDoorQcubbyref07Last
namespace Go.Proofs.YtgmklfaknomakaaDoor.PlainIr
open Go Go.RowKit Go.Proofs.YtgmklfaknomakaaDoorW.PrintWords Go.Proofs.YtgmklfaknomakaaDoorW.PrintMore Go.Proofs.YtgmklfaknomakaaDoor.Q Go.Proofs.YtgmklfaknomakaaDoor.Plain
set_option linter.unusedVariables false
set_option linter.unusedSimpArgs false

theorem op_cases {op : Int} (h : 1 ≤ op ∧ op ≤ 14) : op = 1 ∨ op = 2 ∨ op = 3 ∨ op = 4 ∨ op = 5 ∨ op = 6 ∨ op = 7 ∨ op = 8 ∨ op = 9 ∨ op = 10 ∨ op = 11 ∨ op = 12 ∨ op = 13 ∨ op = 14 := by omega
theorem shape_none {op : Int} (h : ¬ (1 ≤ op ∧ op ≤ 14)) : ir_shape.f op = some ⟨#[]⟩ := by
  unfold ir_shape.f
  split
  · have : op = 0 := by omega
    subst this
    rfl
  · rfl
theorem nil_toList : (⟨#[]⟩ : ByteArray).toList = [] := by decide +kernel
/-- What an instruction reads. -/
def uses (op a b : Int) (args : List Int) : List Int :=
  if op = 2 ∨ op = 8 ∨ op = 10 ∨ op = 13 ∨ op = 14 then [a] else if (3 ≤ op ∧ op ≤ 7) ∨ op = 9 then [a, b] else if op = 11 then args else []
/-- What it writes. -/
def defOf (op d : Int) : Int := if (1 ≤ op ∧ op ≤ 8) ∨ op = 11 then d else -1
/-- Is it a block's last one? -/
def lastOp (op : Int) : Bool := decide (12 ≤ op ∧ op ≤ 14)
def targets7 (op d a b : Int) : List Int := if op = 12 then [a] else if op = 13 then [b, d] else []

/-- An op's shape: is each of its three fields a register? -/
structure Sh (op : Int) (s : ByteArray) : Prop where
  ne : ¬ s.toList = []
  size : s.size = 3
  b0 : bt s 0 = 114 ↔ ((1 ≤ op ∧ op ≤ 8) ∨ op = 11)
  b1 : bt s 1 = 114 ↔ ((2 ≤ op ∧ op ≤ 10) ∨ op = 13 ∨ op = 14)
  b2 : bt s 2 = 114 ↔ ((3 ≤ op ∧ op ≤ 7) ∨ op = 9)
  f0 : bt s 0 = 32 ↔ (op = 9 ∨ op = 10 ∨ op = 12 ∨ op = 14)
  f1 : bt s 1 = 32 ↔ op = 11
  f2 : bt s 2 = 32 ↔ (op = 1 ∨ op = 2 ∨ op = 8 ∨ op = 10 ∨ op = 11 ∨ op = 12 ∨ op = 14)
  n0 : ¬ bt s 0 = 110
  n1 : bt s 1 = 110 ↔ op = 1
  n2 : ¬ bt s 2 = 110
theorem shape_some {op : Int} (h : 1 ≤ op ∧ op ≤ 14) : ∃ s, ir_shape.f op = some s ∧ Sh op s := by
  rcases op_cases h with rfl | rfl | rfl | rfl | rfl | rfl | rfl | rfl | rfl | rfl | rfl | rfl | rfl | rfl
  all_goals exact ⟨_, rfl, by decide +kernel, rfl, by decide +kernel, by decide +kernel, by decide +kernel, by decide +kernel, by decide +kernel, by decide +kernel, by decide +kernel, by decide +kernel, by decide +kernel⟩

theorem def_eq (op d a b : Int) (nm : ByteArray) (args : List Int) : ir_Def.f op d a b nm args = some (defOf op d) := by
  unfold ir_Def.f defOf
  by_cases h : 1 ≤ op ∧ op ≤ 14
  · obtain ⟨s, hs, S⟩ := shape_some h
    rw [hs, Option.bind_some, if_neg S.ne, if_pos (by rw [S.size]; decide)]
    by_cases h0 : (1 ≤ op ∧ op ≤ 8) ∨ op = 11
    · rw [if_pos (S.b0.2 h0), if_pos h0]
    · rw [if_neg (fun h => h0 (S.b0.1 h)), if_neg h0]
  · rw [shape_none h, Option.bind_some, if_pos nil_toList, if_neg (by omega)]
theorem refdef_eq (op d a b : Int) (nm : ByteArray) (args : List Int) : cubbyref07_Def.f op d a b nm args = some (defOf op d) := by
  unfold cubbyref07_Def.f defOf
  by_cases h : (1 ≤ op ∧ op ≤ 8) ∨ op = 11
  · rw [if_pos h]
    repeat' split
    all_goals first | rfl | omega
  · rw [if_neg h]
    repeat' split
    all_goals first | rfl | omega
theorem last_eq (op : Int) : ir_Last.f op = some (lastOp op) := by
  unfold ir_Last.f lastOp
  split
  · rw [Option.some.injEq, decide_eq_decide]
    omega
  · rw [decide_eq_false (by omega)]
theorem reflast_eq (op : Int) : cubbyref07_Last.f op = some (lastOp op) := by
  unfold cubbyref07_Last.f lastOp
  split
  · rw [decide_eq_true (by omega)]
  · split
    · rw [decide_eq_true (by omega)]
    · by_cases h : op = 14
      · rw [decide_eq_true (by omega), beq_iff_eq.2 h]
      · rw [decide_eq_false (by omega), beq_eq_false_iff_ne.2 h]
theorem targets_eq (op d a b : Int) (nm : ByteArray) (args : List Int) : ir_Targets.f op d a b nm args = some (targets7 op d a b) := by
  unfold ir_Targets.f targets7
  split
  · rfl
  · split <;> rfl
theorem reftargets_eq (op d a b : Int) (nm : ByteArray) (args : List Int) : cubbyref07_Targets.f op d a b nm args = some (targets7 op d a b) := by
  unfold cubbyref07_Targets.f targets7
  simp only [Option.bind_some]
  split
  · rw [if_pos (by simp)]; rfl
  · split
    · rw [if_pos (by simp)]; rfl
    · rfl

theorem uses_j (k : Nat) (out : List Int) (s : ByteArray) (op d a b : Int) (nm : ByteArray) (args : List Int) (ho : out.length ≤ 1) (ha : args.length ≤ 1000000000) (hs : s.size = 3) :
    ir_Uses.j0 (k + 1) out s op d a b nm args = some (out ++ (if bt s 2 = 114 then [b] else []) ++ (if op = 11 then args else [])) := by
  simp only [ir_Uses.j0]
  rw [if_pos (by rw [hs]; decide)]
  split
  · rw [if_pos (by omega), Option.bind_some]
    split
    · rw [if_pos (by simp; omega)]
    · rw [List.append_nil]
  · split
    · rw [if_pos (by omega)]
      simp
    · simp
theorem uses_ev (op d a b : Int) (nm : ByteArray) (args : List Int) (ha : args.length ≤ 1000000000) : Ev (fun k => ir_Uses.f k op d a b nm args) (uses op a b args) := by
  refine ⟨1, fun k hk => ?_⟩
  obtain ⟨k, rfl⟩ : ∃ m, k = m + 1 := ⟨k - 1, by omega⟩
  show ir_Uses.f (k + 1) op d a b nm args = some (uses op a b args)
  unfold ir_Uses.f
  by_cases h : 1 ≤ op ∧ op ≤ 14
  · obtain ⟨s, hs, S⟩ := shape_some h
    rw [hs, Option.bind_some, if_neg S.ne, if_pos (by rw [S.size]; decide)]
    have hb2 : (if bt s 2 = 114 then [b] else []) = if (3 ≤ op ∧ op ≤ 7) ∨ op = 9 then [b] else [] := by
      by_cases h2 : (3 ≤ op ∧ op ≤ 7) ∨ op = 9
      · rw [if_pos (S.b2.2 h2), if_pos h2]
      · rw [if_neg (fun h => h2 (S.b2.1 h)), if_neg h2]
    by_cases h1 : (2 ≤ op ∧ op ≤ 10) ∨ op = 13 ∨ op = 14
    · rw [if_pos (S.b1.2 h1), if_pos (by simp), uses_j k _ s op d a b nm args (by simp) ha S.size, hb2]
      unfold uses
      by_cases h2 : (3 ≤ op ∧ op ≤ 7) ∨ op = 9
      · rw [if_pos h2, if_neg (by omega), if_neg (by omega), if_pos h2]
        rfl
      · rw [if_neg h2, if_neg (by omega), if_pos (by omega)]
        rfl
    · rw [if_neg (fun h => h1 (S.b1.1 h)), uses_j k _ s op d a b nm args (by simp) ha S.size, hb2]
      unfold uses
      rw [if_neg (show ¬ ((3 ≤ op ∧ op ≤ 7) ∨ op = 9) by omega), if_neg (show ¬ (op = 2 ∨ op = 8 ∨ op = 10 ∨ op = 13 ∨ op = 14) by omega), if_neg (show ¬ ((3 ≤ op ∧ op ≤ 7) ∨ op = 9) by omega)]
      simp
  · rw [shape_none h, Option.bind_some, if_pos nil_toList]
    unfold uses
    rw [if_neg (by omega), if_neg (by omega), if_neg (by omega)]
theorem refuses_j1 (k : Nat) (op : Int) (c : Bool) (d a b : Int) (nm : ByteArray) (args : List Int) (ha : args.length ≤ 1000000000) (hc : c = decide ((3 ≤ op ∧ op ≤ 7) ∨ op = 9)) (h : ¬ (op = 2 ∨ op = 8 ∨ op = 10 ∨ op = 13 ∨ op = 14)) :
    cubbyref07_Uses.j1 (k + 1) [] op c op d a b nm args = some (uses op a b args) := by
  simp only [cubbyref07_Uses.j1, Option.bind_some]
  unfold uses
  rw [if_neg h]
  by_cases h2 : (3 ≤ op ∧ op ≤ 7) ∨ op = 9
  · rw [if_pos (by rw [hc]; exact decide_eq_true h2), if_pos (by simp), if_pos h2]
    rfl
  · rw [if_neg (by rw [hc]; simpa using h2), if_neg h2]
    split
    · rw [if_pos (by simp; omega)]
      rfl
    · rfl
theorem refuses_ev (op d a b : Int) (nm : ByteArray) (args : List Int) (ha : args.length ≤ 1000000000) : Ev (fun k => cubbyref07_Uses.f k op d a b nm args) (uses op a b args) := by
  refine ⟨2, fun k hk => ?_⟩
  obtain ⟨k, rfl⟩ : ∃ m, k = m + 2 := ⟨k - 2, by omega⟩
  show cubbyref07_Uses.f (k + 2) op d a b nm args = some (uses op a b args)
  unfold cubbyref07_Uses.f
  simp only [Option.bind_some]
  have yes : (op = 2 ∨ op = 8 ∨ op = 10 ∨ op = 13 ∨ op = 14) → cubbyref07_Uses.j0 (k + 2) [] op true op d a b nm args = some (uses op a b args) := fun h => by
    simp only [cubbyref07_Uses.j0, if_true]
    rw [if_pos (by simp)]
    unfold uses
    rw [if_pos h]
    rfl
  by_cases h1 : op = 2
  · rw [if_pos h1, beq_iff_eq.2 h1]
    exact yes (.inl h1)
  rw [if_neg h1]
  by_cases h2 : op = 8
  · rw [if_pos h2, beq_iff_eq.2 h2]
    exact yes (by omega)
  rw [if_neg h2]
  by_cases h3 : op = 10
  · rw [if_pos h3, beq_iff_eq.2 h3]
    exact yes (by omega)
  rw [if_neg h3]
  by_cases h4 : op = 14
  · rw [if_pos h4, beq_iff_eq.2 h4]
    exact yes (by omega)
  rw [if_neg h4]
  by_cases h5 : op = 13
  · rw [beq_iff_eq.2 h5]
    exact yes (by omega)
  rw [beq_eq_false_iff_ne.2 h5]
  simp only [cubbyref07_Uses.j0]
  rw [if_neg (by simp)]
  have g : ∀ c, c = decide ((3 ≤ op ∧ op ≤ 7) ∨ op = 9) → cubbyref07_Uses.j1 (k + 1) [] op c op d a b nm args = some (uses op a b args) := fun c hc => refuses_j1 k op c d a b nm args ha hc (by omega)
  repeat' split
  all_goals
    refine g _ ?_
    first
    | (rename_i h; rw [beq_iff_eq.2 h, decide_eq_true (by omega)])
    | (by_cases h9 : op = 9
       · rw [beq_iff_eq.2 h9, decide_eq_true (by omega)]
       · rw [beq_eq_false_iff_ne.2 h9, decide_eq_false (by omega)])
end Go.Proofs.YtgmklfaknomakaaDoor.PlainIr
