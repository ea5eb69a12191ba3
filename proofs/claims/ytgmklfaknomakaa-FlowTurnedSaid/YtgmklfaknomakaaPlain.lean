/-
  Plain facts on numbers, lists and rounds that the pure proofs of this seat use. No program is named here.
-/
import Derived.Test.YtgmklfaknomakaaWWords
import Derived.Test.YtgmklfaknomakaaWMore
import Derived.OpenShut
namespace Go.Proofs.Ytgmklfaknomakaa.Plain
open Go Go.RowKit Go.Proofs.YtgmklfaknomakaaW.PrintWords Go.Proofs.YtgmklfaknomakaaW.PrintMore

theorem wrap_nat {j : Nat} (h : j ≤ 4611686018427387904) : wrap64 ((j : Int) + 1) = ((j + 1 : Nat) : Int) := by
  unfold wrap64
  omega
theorem wrap_pred {j : Nat} (h0 : 0 < j) (h : j ≤ 4611686018427387904) : wrap64 ((j : Int) - 1) = ((j - 1 : Nat) : Int) := by
  unfold wrap64
  omega
theorem wrap_id {i : Int} (h0 : -4611686018427387904 ≤ i) (h : i ≤ 4611686018427387904) : wrap64 i = i := by
  unfold wrap64
  omega
theorem rd_nat (l : List Int) (j : Nat) : rd l (j : Int) = l.getD j 0 := rfl
theorem rd_get {l : List Int} {j : Nat} (h : j < l.length) : rd l (j : Int) = l[j] := by
  rw [rd_nat, List.getD_eq_getElem?_getD, List.getElem?_eq_getElem h]
  rfl
theorem rd_int {l : List Int} {i : Int} (h0 : 0 ≤ i) (h : i < l.length) : ∃ hj : i.toNat < l.length, rd l i = l[i.toNat] := by
  have hj : i.toNat < l.length := by omega
  refine ⟨hj, ?_⟩
  show l.getD i.toNat 0 = _
  rw [List.getD_eq_getElem?_getD, List.getElem?_eq_getElem hj]
  rfl
theorem drop_cons {α : Type} {l : List α} {j : Nat} (h : j < l.length) : l.drop j = l[j] :: l.drop (j + 1) := by
  rw [List.drop_eq_getElem_cons h]
theorem i64_range {n : Int} (h : (Lit.int .i64 n).wf = true) : -9223372036854775808 ≤ n ∧ n ≤ 9223372036854775807 := by
  have := bounds_i64 h
  omega
end Go.Proofs.Ytgmklfaknomakaa.Plain
