/-
  Plain facts on numbers, lists and rounds that the pure proofs of this seat use. No program is named here.
-/
import Derived.Test.YtbipipbfiekbgaaDoorWWords
import Derived.Test.YtbipipbfiekbgaaDoorWMore
import Derived.OpenShut
namespace Go.Proofs.YtbipipbfiekbgaaDoor.Plain
open Go Go.RowKit Go.Proofs.YtbipipbfiekbgaaDoorW.PrintWords Go.Proofs.YtbipipbfiekbgaaDoorW.PrintMore

theorem wrap_nat {j : Nat} (h : j ≤ 4611686018427387904) : wrap64 ((j : Int) + 1) = ((j + 1 : Nat) : Int) := by
  unfold wrap64
  omega
theorem wrap_pred {j : Nat} (h0 : 0 < j) (h : j ≤ 4611686018427387904) : wrap64 ((j : Int) - 1) = ((j - 1 : Nat) : Int) := by
  unfold wrap64
  omega
theorem wrap_id {i : Int} (h0 : -4611686018427387904 ≤ i) (h : i ≤ 4611686018427387904) : wrap64 i = i := by
  unfold wrap64
  omega
theorem rd_nat (l : List Int) (j : Nat) : rd l (j : Int) = l.getD j 0 := rfl
theorem rd_get {l : List Int} {j : Nat} (h : j < l.length) : rd l (j : Int) = l[j] := by
  rw [rd_nat, List.getD_eq_getElem?_getD, List.getElem?_eq_getElem h]
  rfl
theorem rd_int {l : List Int} {i : Int} (h0 : 0 ≤ i) (h : i < l.length) : ∃ hj : i.toNat < l.length, rd l i = l[i.toNat] := by
  have hj : i.toNat < l.length := by omega
  refine ⟨hj, ?_⟩
  show l.getD i.toNat 0 = _
  rw [List.getD_eq_getElem?_getD, List.getElem?_eq_getElem hj]
  rfl
theorem drop_cons {α : Type} {l : List α} {j : Nat} (h : j < l.length) : l.drop j = l[j] :: l.drop (j + 1) := by
  rw [List.drop_eq_getElem_cons h]
theorem i64_range {n : Int} (h : (Lit.int .i64 n).wf = true) : -9223372036854775808 ≤ n ∧ n ≤ 9223372036854775807 := by
  have := bounds_i64 h
  omega
theorem loop_eq (bs : ByteArray) : ∀ (n i : Nat) (r : List UInt8), bs.size - i = n → ByteArray.toList.loop bs i r = r.reverse ++ bs.data.toList.drop i := by
  intro n
  induction n with
  | zero =>
    intro i r h
    unfold ByteArray.toList.loop
    rw [if_neg (by omega), List.drop_eq_nil_of_le (by simp; have : bs.data.size = bs.size := rfl; omega), List.append_nil]
  | succ n ih =>
    intro i r h
    unfold ByteArray.toList.loop
    have hs : bs.data.size = bs.size := rfl
    rw [if_pos (by omega), ih (i + 1) _ (by omega), List.drop_eq_getElem_cons (i := i) (by simp; omega)]
    have : bs.get! i = bs.data.toList[i]'(by simp; omega) := by
      show bs.data[i]! = _
      rw [getElem!_pos bs.data i (by omega)]
      simp
    rw [this]
    simp
/-- A string's bytes as a list, by either road. -/
theorem toList_data (bs : ByteArray) : bs.toList = bs.data.toList := by
  unfold ByteArray.toList
  rw [loop_eq bs _ 0 [] rfl]
  simp
theorem toList_inj {a b : ByteArray} : a.toList = b.toList ↔ a = b := by
  rw [toList_data, toList_data]
  constructor
  · intro h
    cases a
    cases b
    simp at h
    rw [h]
  · rintro rfl
    rfl
end Go.Proofs.YtbipipbfiekbgaaDoor.Plain
