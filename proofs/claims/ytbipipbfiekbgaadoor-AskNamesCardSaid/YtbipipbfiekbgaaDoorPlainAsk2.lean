/-
  Requests: the program's parser answers as the reference's does.
-/
import Derived.Test.YtbipipbfiekbgaaDoorPlainAsk
namespace Go.Proofs.YtbipipbfiekbgaaDoor.PlainAsk
open Go Go.RowKit Go.Proofs.YtbipipbfiekbgaaDoorW.PrintWords Go.Proofs.YtbipipbfiekbgaaDoorW.PrintMore Go.Proofs.YtbipipbfiekbgaaDoor.Q Go.Proofs.YtbipipbfiekbgaaDoor.Plain Go.Proofs.YtbipipbfiekbgaaDoor.PlainName
set_option linter.unusedVariables false
set_option linter.unusedSimpArgs false

theorem ap_list (a b : ByteArray) : (a ++ b).data.toList = a.data.toList ++ b.data.toList := by
  rw [ByteArray.data_append, Array.toList_append]
theorem nil_name : nameOk ⟨#[]⟩ = false := by decide +kernel
theorem tl_data {a b : ByteArray} : a.toList = b.toList ↔ a.data.toList = b.data.toList := by rw [toList_data, toList_data]
theorem nil_list : (⟨#[]⟩ : ByteArray).data.toList = [] := rfl
theorem drop_ext (s : ByteArray) (i : Nat) : (s.extract i s.size).data.toList = s.data.toList.drop i := by
  rw [Lib.extract_data]
  exact List.take_of_length_le (by rw [List.length_drop, size_list]; omega)
theorem take_ext (s : ByteArray) (i : Nat) : (s.extract 0 i).data.toList = s.data.toList.take i := by
  rw [Lib.extract_data, List.drop_zero, Nat.sub_zero]
/-- A text that begins with a word and one byte more. -/
theorem tail_iff {k : Int} {s c : ByteArray} (hc : c.size = 1) : ((wd k ++ c) ++ tailOf k s).toList = s.toList ↔ ∃ t, s.data.toList = (wd k).data.toList ++ (c.data.toList ++ t) := by
  rw [tl_data, ap_list, ap_list, List.append_assoc]
  have hc' : c.data.toList.length = 1 := by rw [size_list]; exact hc
  constructor
  · intro h
    exact ⟨_, h.symm⟩
  · rintro ⟨t, ht⟩
    have hl : s.size = (wd k).size + (1 + t.length) := by
      rw [← size_list s, ht, List.length_append, List.length_append, size_list, hc']
    have : (tailOf k s).data.toList = t := by
      unfold tailOf
      rw [if_pos (by omega), drop_ext, ht, ← List.append_assoc, List.drop_append_of_le_length (by rw [List.length_append, hc', size_list]; omega), List.drop_eq_nil_of_le (by rw [List.length_append, hc', size_list]; omega)]
      rfl
    rw [this, ht]
theorem tail_of {k : Int} {s : ByteArray} {c : UInt8} {t : List UInt8} (h : s.data.toList = (wd k).data.toList ++ (c :: t)) : (tailOf k s).data.toList = t := by
  have hl : s.size = (wd k).size + (1 + t.length) := by
    rw [← size_list s, h, List.length_append, List.length_cons, size_list]
    omega
  unfold tailOf
  rw [if_pos (by omega), drop_ext, h, show (wd k).data.toList ++ (c :: t) = ((wd k).data.toList ++ [c]) ++ t by simp, List.drop_append_of_le_length (by rw [List.length_append, size_list, List.length_singleton]; omega), List.drop_eq_nil_of_le (by rw [List.length_append, size_list, List.length_singleton]; omega)]
  rfl
theorem hit_one {s : ByteArray} : hit 1 s ↔ ∃ t, s.data.toList = (wd 1).data.toList ++ (10 :: t) := by
  unfold hit printA
  rw [if_pos (by omega), if_pos rfl]
  show (0 : Int) = 0 ∧ _ ↔ _
  have e : textFor 1 s = tailOf 1 s := by
    unfold textFor
    rw [if_pos rfl]
  rw [e, tail_iff (c := nl) rfl]
  simp only [true_and]
  rfl
theorem hit_name {k : Int} (h : 2 ≤ k ∧ k ≤ 6) {s : ByteArray} : hit k s ↔ ∃ t, s.data.toList = (wd k).data.toList ++ (32 :: t) ∧ nameOk (tailOf k s) = true := by
  unfold hit printA
  rw [if_pos (by omega), if_neg (by omega), if_pos h.2]
  have e : nameFor k s = tailOf k s := by
    unfold nameFor
    rw [if_pos h]
  rw [e]
  cases hn : nameOk (tailOf k s)
  · rw [if_neg Bool.false_ne_true]
    simp
  · rw [if_pos rfl]
    show (0 : Int) = 0 ∧ _ ↔ _
    rw [tail_iff (c := blankS) rfl]
    simp only [true_and, and_true]
    rfl
theorem hit_bare {k : Int} (h : 7 ≤ k ∧ k ≤ 9) {s : ByteArray} : hit k s ↔ s.data.toList = (wd k).data.toList := by
  unfold hit printA
  rw [if_pos (by omega), if_neg (by omega), if_neg (by omega)]
  show (0 : Int) = 0 ∧ _ ↔ _
  rw [tl_data]
  simp only [true_and]
  exact eq_comm
/-- What the program cuts a text into. -/
def cutB (s : ByteArray) : ByteArray × ByteArray × Bool := if blankAt s = -1 then (s, ByteArray.empty, false) else (s.extract 0 (blankAt s).toNat, s.extract ((blankAt s).toNat + 1) s.size, true)
theorem blank_cases (s : ByteArray) : (blankAt s = -1 ∧ (32 : UInt8) ∉ s.data.toList) ∨ ∃ i : Nat, blankAt s = i ∧ i < s.size ∧ s.data.toList = s.data.toList.take i ++ (32 :: s.data.toList.drop (i + 1)) ∧ (32 : UInt8) ∉ s.data.toList.take i := by
  have hge := Lib.indexByte_ge s.data.toList 32
  by_cases h : blankAt s = -1
  · refine .inl ⟨h, fun hm => ?_⟩
    obtain ⟨i, hi⟩ := List.mem_iff_getElem?.1 hm
    exact Lib.indexByte_none h i hi
  · obtain ⟨i, hi⟩ : ∃ i : Nat, blankAt s = i := ⟨(blankAt s).toNat, by unfold blankAt at h ⊢; omega⟩
    obtain ⟨h1, h2⟩ := Lib.indexByte_some (show Lib.indexByte s.data.toList 32 = (i : Int) from hi)
    obtain ⟨hlt, hget⟩ := List.getElem?_eq_some_iff.1 h1
    refine .inr ⟨i, hi, by rw [← size_list]; exact hlt, ?_, fun hm => ?_⟩
    · conv => lhs; rw [← List.take_append_drop i s.data.toList, List.drop_eq_getElem_cons hlt, hget]
    · obtain ⟨j, hj⟩ := List.mem_iff_getElem?.1 hm
      have hjl : j < i := by
        have := (List.getElem?_eq_some_iff.1 hj).1
        rw [List.length_take] at this
        omega
      rw [List.getElem?_take_of_lt hjl] at hj
      exact h2 j hjl hj
theorem cut_eq (s : ByteArray) (hs : s.size ≤ 1000000) : strings_Cut.f s (⟨#[32]⟩ : ByteArray) = some (cutB s) := by
  unfold strings_Cut.f cutB
  rw [if_pos ⟨rfl, by omega⟩]
  rcases blank_cases s with ⟨h, -⟩ | ⟨i, h, hlt, -, -⟩
  · rw [if_neg (by omega), if_pos h, if_pos h]
  · rw [if_pos (by omega), if_neg (by omega)]
theorem blank_split {k : Int} (hk : 1 ≤ k ∧ k ≤ 9) {s : ByteArray} {t : List UInt8} (h : s.data.toList = (wd k).data.toList ++ (32 :: t)) : blankAt s = (wd k).size ∧ s.data.toList.take (wd k).size = (wd k).data.toList ∧ s.data.toList.drop ((wd k).size + 1) = t := by
  have hn := wd_blank hk
  have e1 : s.data.toList.take (wd k).size = (wd k).data.toList := by
    rw [h, List.take_append_of_le_length (by rw [size_list]; omega), List.take_of_length_le (by rw [size_list]; omega)]
  have e2 : s.data.toList.drop ((wd k).size + 1) = t := by
    rw [h, show (wd k).data.toList ++ (32 :: t) = ((wd k).data.toList ++ [32]) ++ t by simp, List.drop_append_of_le_length (by rw [List.length_append, size_list, List.length_singleton]; omega), List.drop_eq_nil_of_le (by rw [List.length_append, size_list, List.length_singleton]; omega)]
    rfl
  refine ⟨?_, e1, e2⟩
  have hat : s.data.toList[(wd k).size]? = some 32 := by
    rw [h, List.getElem?_append_right (by rw [size_list]; omega), size_list, Nat.sub_self]
    rfl
  rcases blank_cases s with ⟨h1, h2⟩ | ⟨i, h1, h2, h3, h4⟩
  · exact absurd (List.mem_of_getElem? hat) h2
  · have hi : s.data.toList[i]? = some 32 := by
      rw [h3, List.getElem?_append_right (by rw [List.length_take, size_list]; omega), List.length_take, size_list, Nat.min_eq_left (by omega), Nat.sub_self]
      rfl
    have a1 : ¬ i < (wd k).size := by
      intro hlt
      rw [h, List.getElem?_append_left (by rw [size_list]; exact hlt)] at hi
      exact hn (List.mem_of_getElem? hi)
    have a2 : ¬ (wd k).size < i := by
      intro hlt
      apply h4
      have : (s.data.toList.take i)[(wd k).size]? = some 32 := by rw [List.getElem?_take_of_lt hlt]; exact hat
      exact List.mem_of_getElem? this
    omega
/-- What the program asks of a kind, of what it cut. -/
def askB (k : Int) (s : ByteArray) : Prop := (wd k).toList = (cutB s).1.toList ∧ (cutB s).2.2 = decide (k < 7) ∧ ((cutB s).2.2 = true → nameOk (cutB s).2.1 = true)
theorem ask_hit {k : Int} (hk : 2 ≤ k ∧ k ≤ 9) (s : ByteArray) : (askB k s ↔ hit k s) ∧ (hit k s → (cutB s).2.1.toList = (nameFor k s).toList ∧ (textFor k s) = ⟨#[]⟩) := by
  have ht : textFor k s = ⟨#[]⟩ := by
    unfold textFor
    rw [if_neg (by omega)]
  by_cases h6 : k ≤ 6
  · have hnf : nameFor k s = tailOf k s := by
      unfold nameFor
      rw [if_pos ⟨hk.1, h6⟩]
    rw [hit_name ⟨hk.1, h6⟩, hnf]
    unfold askB
    rw [decide_eq_true (by omega)]
    have key : ∀ t, s.data.toList = (wd k).data.toList ++ (32 :: t) → cutB s = (s.extract 0 (wd k).size, s.extract ((wd k).size + 1) s.size, true) ∧ s.extract ((wd k).size + 1) s.size = tailOf k s := by
      intro t hst
      obtain ⟨b1, b2, b3⟩ := blank_split ⟨by omega, hk.2⟩ hst
      refine ⟨?_, ?_⟩
      · unfold cutB
        rw [if_neg (by omega), b1, Int.toNat_natCast]
      · unfold tailOf
        rw [if_pos (by rw [← size_list s, hst, List.length_append, size_list, List.length_cons]; omega)]
    refine ⟨⟨?_, ?_⟩, ?_⟩
    · rintro ⟨h1, h2, h3⟩
      rcases blank_cases s with ⟨g, -⟩ | ⟨i, g, glt, g3, g4⟩
      · unfold cutB at h2
        rw [if_pos g] at h2
        exact absurd h2 (by simp)
      · have hc : cutB s = (s.extract 0 i, s.extract (i + 1) s.size, true) := by
          unfold cutB
          rw [if_neg (by omega), g, Int.toNat_natCast]
        rw [hc] at h1 h3
        have h1' : (wd k).data.toList = s.data.toList.take i := by
          rw [tl_data, take_ext] at h1
          exact h1
        have hst : s.data.toList = (wd k).data.toList ++ (32 :: s.data.toList.drop (i + 1)) := by rw [h1']; exact g3
        refine ⟨_, hst, ?_⟩
        have hi : i = (wd k).size := by
          have := congrArg List.length h1'
          rw [List.length_take, size_list, size_list] at this
          omega
        rw [← (key _ hst).2, ← hi]
        exact h3 rfl
    · rintro ⟨t, hst, hn⟩
      obtain ⟨k1, k2⟩ := key t hst
      rw [k1]
      refine ⟨?_, rfl, fun _ => ?_⟩
      · rw [tl_data, take_ext]
        exact (blank_split ⟨by omega, hk.2⟩ hst).2.1.symm
      · show nameOk (s.extract ((wd k).size + 1) s.size) = true
        rw [k2]
        exact hn
    · rintro ⟨t, hst, hn⟩
      obtain ⟨k1, k2⟩ := key t hst
      rw [k1]
      refine ⟨?_, ht⟩
      show (s.extract ((wd k).size + 1) s.size).toList = _
      rw [k2]
  · have hnf : nameFor k s = ⟨#[]⟩ := by
      unfold nameFor
      rw [if_neg (by omega)]
    rw [hit_bare ⟨by omega, hk.2⟩, hnf]
    unfold askB
    rw [decide_eq_false (by omega)]
    rcases blank_cases s with ⟨g, g2⟩ | ⟨i, g, glt, g3, g4⟩
    · have hc : cutB s = (s, ByteArray.empty, false) := by
        unfold cutB
        rw [if_pos g]
      rw [hc]
      refine ⟨⟨fun h => ?_, fun h => ⟨?_, rfl, fun h => absurd h (by simp)⟩⟩, fun _ => ⟨rfl, ht⟩⟩
      · have := h.1
        rw [tl_data] at this
        exact this.symm
      · rw [tl_data]
        exact h.symm
    · have hc : cutB s = (s.extract 0 i, s.extract (i + 1) s.size, true) := by
        unfold cutB
        rw [if_neg (by omega), g, Int.toNat_natCast]
      have hno : ¬ s.data.toList = (wd k).data.toList := by
        intro h
        apply wd_blank (k := k) ⟨by omega, hk.2⟩
        rw [← h, g3]
        simp
      rw [hc]
      refine ⟨⟨fun h => absurd h.2.1 (by simp), fun h => absurd h hno⟩, fun h => absurd h hno⟩
/-- Two answers that are one, their texts told by their bytes. -/
def Same4 (a b : Int × ByteArray × ByteArray × Int) : Prop := a.1 = b.1 ∧ a.2.1.toList = b.2.1.toList ∧ a.2.2.1.toList = b.2.2.1.toList ∧ a.2.2.2 = b.2.2.2
theorem parse_loop (s : ByteArray) : ∀ (d : Nat) (k : Int), 2 ≤ k → k + d = 10 → ∃ r, Same4 r (parseFrom s d k) ∧ Ev (fun q => ask_Parse.l0 q (cutB s).1 (cutB s).2.1 (cutB s).2.2 k) r := by
  intro d
  induction d with
  | zero =>
    intro k h1 h2
    exact ⟨_, ⟨rfl, rfl, rfl, rfl⟩, Ev.step (f := fun _ => some _) (fun q => by simp only [ask_Parse.l0]; rw [if_neg (by omega)]; rfl) (Ev.now _)⟩
  | succ d ih =>
    intro k h1 h2
    obtain ⟨r, hr, hE⟩ := ih (k + 1) (by omega) (by omega)
    have hwk : wrap64 (k + 1) = k + 1 := wrap_id (by omega) (by omega)
    obtain ⟨hi, hsame⟩ := ask_hit (k := k) ⟨h1, by omega⟩ s
    unfold parseFrom
    by_cases hh : hit k s
    · rw [if_pos hh]
      obtain ⟨q1, q2, q3⟩ := hi.2 hh
      obtain ⟨s1, s2⟩ := hsame hh
      refine ⟨(k, (cutB s).2.1, (⟨#[]⟩ : ByteArray), 0), ⟨rfl, s1, by rw [s2], rfl⟩, Ev.step (f := fun _ => some _) (fun q => ?_) (Ev.now _)⟩
      simp only [ask_Parse.l0]
      rw [if_pos (by omega), word_eq, Option.bind_some, if_pos q1, if_pos (by rw [q2]; simp)]
      by_cases c : (cutB s).2.2 = true
      · rw [if_pos c, name_eq, Option.bind_some, if_pos (q3 c)]
      · rw [if_neg c]
    · rw [if_neg hh]
      refine ⟨r, hr, Ev.step (fun q => ?_) hE⟩
      have hno : ¬ askB k s := fun h => hh (hi.1 h)
      simp only [ask_Parse.l0]
      rw [if_pos (by omega), word_eq, Option.bind_some, hwk]
      by_cases c1 : (wd k).toList = (cutB s).1.toList
      · rw [if_pos c1]
        by_cases c2 : (cutB s).2.2 = decide (k < 7)
        · rw [if_pos (by rw [c2]; simp)]
          by_cases c3 : (cutB s).2.2 = true
          · rw [if_pos c3, name_eq, Option.bind_some, if_neg (fun h => hno ⟨c1, c2, fun _ => h⟩)]
          · exact absurd ⟨c1, c2, fun h => absurd h c3⟩ hno
        · rw [if_neg (by simpa using c2)]
      · rw [if_neg c1]
theorem prefix_eq (s p : ByteArray) : strings_CutPrefix.f s p = some (if s.data.toList.take p.size = p.data.toList then (s.extract p.size s.size, true) else (s, false)) := by
  unfold strings_CutPrefix.f stringslite_CutPrefix.f stringslite_HasPrefix.f
  by_cases c : (s.size : Int) ≥ (p.size : Int)
  · have e : ((s.extract 0 ((p.size : Int)).toNat).toList == p.toList) = decide (s.data.toList.take p.size = p.data.toList) := by
      rw [Bool.eq_iff_iff, beq_iff_eq, decide_eq_true_iff, tl_data, Int.toNat_natCast, take_ext]
    rw [if_pos c, if_pos (by omega), if_pos c, e, Option.bind_some]
    by_cases c1 : s.data.toList.take p.size = p.data.toList
    · rw [decide_eq_true c1, if_pos rfl, if_pos c1, if_pos (by omega), if_pos c, Option.bind_some, Int.toNat_natCast]
    · rw [decide_eq_false c1, if_neg Bool.false_ne_true, if_neg c1, Option.bind_some]
  · have c1 : ¬ s.data.toList.take p.size = p.data.toList := by
      intro h
      have := congrArg List.length h
      rw [List.length_take, size_list, size_list] at this
      omega
    rw [if_neg c, Option.bind_some, if_neg Bool.false_ne_true, if_neg c1, Option.bind_some]
theorem parse_ev (s : ByteArray) (hs : s.size ≤ 1000000) : ∃ r, Same4 r (parseA s) ∧ Ev (fun q => ask_Parse.f q s) r := by
  have hp := prefix_eq s (⟨#[115, 117, 98, 109, 105, 116, 10]⟩ : ByteArray)
  have hw : (wd 1).size = 6 := rfl
  have hwl : (wd 1).data.toList ++ [10] = (⟨#[115, 117, 98, 109, 105, 116, 10]⟩ : ByteArray).data.toList := rfl
  unfold parseA parseFrom
  by_cases h : hit 1 s
  · rw [if_pos h]
    obtain ⟨t, ht⟩ := hit_one.1 h
    have e1 : s.data.toList.take (⟨#[115, 117, 98, 109, 105, 116, 10]⟩ : ByteArray).size = (⟨#[115, 117, 98, 109, 105, 116, 10]⟩ : ByteArray).data.toList := by
      rw [ht, show (wd 1).data.toList ++ (10 :: t) = ((wd 1).data.toList ++ [10]) ++ t by simp, hwl, List.take_append_of_le_length (by rw [size_list]; omega), List.take_of_length_le (by rw [size_list]; omega)]
    rw [if_pos e1] at hp
    have e2 : textFor 1 s = s.extract 7 s.size := by
      unfold textFor tailOf
      rw [if_pos rfl, hw, if_pos (by rw [← size_list s, ht, List.length_append, size_list, List.length_cons, hw]; omega)]
    refine ⟨(1, (⟨#[]⟩ : ByteArray), s.extract 7 s.size, 0), ⟨rfl, ?_, by rw [e2], rfl⟩, Ev.congr (f := fun _ => some _) (fun q => by unfold ask_Parse.f; rw [hp, Option.bind_some, if_pos rfl]; rfl) (Ev.now _)⟩
    show _ = (nameFor 1 s).toList
    unfold nameFor
    rw [if_neg (by omega)]
  · rw [if_neg h]
    have e1 : ¬ s.data.toList.take (⟨#[115, 117, 98, 109, 105, 116, 10]⟩ : ByteArray).size = (⟨#[115, 117, 98, 109, 105, 116, 10]⟩ : ByteArray).data.toList := by
      intro hc
      apply h
      apply hit_one.2
      refine ⟨s.data.toList.drop 7, ?_⟩
      have := List.take_append_drop 7 s.data.toList
      rw [show (7 : Nat) = (⟨#[115, 117, 98, 109, 105, 116, 10]⟩ : ByteArray).size from rfl, hc, ← hwl, List.append_assoc] at this
      exact this.symm
    rw [if_neg e1] at hp
    obtain ⟨r, hr, hE⟩ := parse_loop s 8 2 (by omega) (by omega)
    exact ⟨r, hr, Ev.congr (fun q => by unfold ask_Parse.f; rw [hp, Option.bind_some, if_neg Bool.false_ne_true, cut_eq s hs, Option.bind_some]) hE⟩
end Go.Proofs.YtbipipbfiekbgaaDoor.PlainAsk
