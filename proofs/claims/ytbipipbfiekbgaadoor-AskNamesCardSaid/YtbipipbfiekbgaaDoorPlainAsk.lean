/-
  Requests: what both texts' printers and parsers answer, on lists of bytes.
-/
import Derived.Test.YtbipipbfiekbgaaDoorPlainName
import Derived.Test.YtbipipbfiekbgaaDoorPlainScan
import Derived.Test.YtbipipbfiekbgaaDoorCut
import Derived.Test.YtbipipbfiekbgaaDoorQaskParse
import Derived.Test.YtbipipbfiekbgaaDoorQaskPrint
import Derived.Test.YtbipipbfiekbgaaDoorQcubbyref21Parse
import Derived.Lib.IndexLaws
import Derived.Lib.Strings
namespace Go.Proofs.YtbipipbfiekbgaaDoor.PlainAsk
open Go Go.RowKit Go.Proofs.YtbipipbfiekbgaaDoorW.PrintWords Go.Proofs.YtbipipbfiekbgaaDoorW.PrintMore Go.Proofs.YtbipipbfiekbgaaDoor.Q Go.Proofs.YtbipipbfiekbgaaDoor.Plain Go.Proofs.YtbipipbfiekbgaaDoor.PlainName
set_option linter.unusedVariables false
set_option linter.unusedSimpArgs false

/-- A request's word; none: empty. -/
def wd (k : Int) : ByteArray := if k = 1 then ⟨#[115, 117, 98, 109, 105, 116]⟩ else if k = 2 then ⟨#[98, 117, 105, 108, 100]⟩ else if k = 3 then ⟨#[102, 101, 116, 99, 104]⟩ else if k = 4 then ⟨#[100, 114, 111, 112]⟩ else if k = 5 then ⟨#[112, 105, 110]⟩ else if k = 6 then ⟨#[117, 110, 112, 105, 110]⟩ else if k = 7 then ⟨#[101, 118, 105, 99, 116]⟩ else if k = 8 then ⟨#[114, 101, 99, 104, 101, 99, 107]⟩ else if k = 9 then ⟨#[115, 116, 97, 116, 115]⟩ else ⟨#[]⟩
theorem word_eq (k : Int) : ask_word.f k = some (wd k) := by
  unfold ask_word.f wd
  repeat' split
  all_goals rfl
theorem k_cases {k : Int} (h : 1 ≤ k ∧ k ≤ 9) : k = 1 ∨ k = 2 ∨ k = 3 ∨ k = 4 ∨ k = 5 ∨ k = 6 ∨ k = 7 ∨ k = 8 ∨ k = 9 := by omega
theorem wd_none {k : Int} (h : ¬ (1 ≤ k ∧ k ≤ 9)) : wd k = ⟨#[]⟩ := by
  unfold wd
  rw [if_neg (by omega), if_neg (by omega), if_neg (by omega), if_neg (by omega), if_neg (by omega), if_neg (by omega), if_neg (by omega), if_neg (by omega), if_neg (by omega)]
theorem refword_eq (k : Int) : cubbyref21_word.f k = some (wd k) := by
  unfold cubbyref21_word.f
  rw [Option.bind_some]
  by_cases h : 1 ≤ k ∧ k ≤ 9
  · rcases k_cases h with rfl | rfl | rfl | rfl | rfl | rfl | rfl | rfl | rfl <;> rfl
  · rw [wd_none h]
    by_cases c : k < 0
    · rw [if_pos c]
    · rw [if_neg c]
      by_cases c1 : k = 0
      · subst c1
        rfl
      · rw [if_pos (by simp; omega)]
theorem wd_size (k : Int) : (wd k).size ≤ 7 := by
  unfold wd
  repeat' split
  all_goals decide
theorem wd_empty {k : Int} : (wd k).toList = ([] : List UInt8) ↔ ¬ (1 ≤ k ∧ k ≤ 9) := by
  constructor
  · intro h hk
    rcases k_cases hk with rfl | rfl | rfl | rfl | rfl | rfl | rfl | rfl | rfl <;> exact absurd h (by decide +kernel)
  · intro h
    rw [wd_none h]
    decide +kernel
/-- No word has a blank. -/
theorem wd_blank {k : Int} (h : 1 ≤ k ∧ k ≤ 9) : (32 : UInt8) ∉ (wd k).data.toList := by
  rcases k_cases h with rfl | rfl | rfl | rfl | rfl | rfl | rfl | rfl | rfl <;> decide +kernel
def nl : ByteArray := ⟨#[10]⟩
/-- A request's text, and its error. -/
def printA (k : Int) (nm tx : ByteArray) : ByteArray × Int :=
  if 1 ≤ k ∧ k ≤ 9 then (if k = 1 then ((wd k ++ nl) ++ tx, 0) else if k ≤ 6 then (if nameOk nm = true then ((wd k ++ blankS) ++ nm, 0) else (⟨#[]⟩, 210)) else (wd k, 0)) else (⟨#[]⟩, 210)
theorem ap_size (a b : ByteArray) : (a ++ b).size = a.size + b.size := ByteArray.size_append
theorem print_ev (k : Int) (nm tx : ByteArray) (hn : nm.size ≤ 1000000000) (ht : tx.size ≤ 1000000000) : Ev (fun q => ask_Print.f q k nm tx) (printA k nm tx) := by
  have hw := wd_size k
  have hno : Ev (fun q => ask_Print.j0 q (wd k) true k nm tx) ((⟨#[]⟩ : ByteArray), (210 : Int)) := Ev.step (f := fun _ => some _) (fun q => by simp only [ask_Print.j0]; rw [if_pos trivial]) (Ev.now _)
  have hs1 : (wd k ++ (⟨#[10]⟩ : ByteArray)).size = (wd k).size + 1 := ap_size _ _
  have hs2 : (wd k ++ (⟨#[32]⟩ : ByteArray)).size = (wd k).size + 1 := ap_size _ _
  unfold printA
  by_cases c : 1 ≤ k ∧ k ≤ 9
  · have he : ¬ (wd k).toList = ([] : List UInt8) := fun h => wd_empty.1 h c
    rw [if_pos c]
    by_cases c1 : k = 1
    · rw [if_pos c1]
      refine Ev.congr (f := fun q => ask_Print.j0 q (wd k) false k nm tx) (fun q => by unfold ask_Print.f; rw [word_eq, Option.bind_some, if_neg he, if_neg (by omega)]) ?_
      exact Ev.step (f := fun _ => some _) (fun q => by simp only [ask_Print.j0]; rw [if_neg Bool.false_ne_true, if_pos c1, if_pos (by omega), if_pos (by omega)]; rfl) (Ev.now _)
    · rw [if_neg c1]
      by_cases c2 : k ≤ 6
      · rw [if_pos c2]
        cases hnm : nameOk nm
        · rw [if_neg Bool.false_ne_true]
          exact Ev.congr (fun q => by unfold ask_Print.f; rw [word_eq, Option.bind_some, if_neg he, if_pos (by omega), if_pos (by omega), name_eq, Option.bind_some, hnm]; rfl) hno
        · rw [if_pos rfl]
          refine Ev.congr (f := fun q => ask_Print.j0 q (wd k) false k nm tx) (fun q => by unfold ask_Print.f; rw [word_eq, Option.bind_some, if_neg he, if_pos (by omega), if_pos (by omega), name_eq, Option.bind_some, hnm]; rfl) ?_
          exact Ev.step (f := fun _ => some _) (fun q => by simp only [ask_Print.j0]; rw [if_neg Bool.false_ne_true, if_neg c1, if_pos (by omega), if_pos (by omega), if_pos (by omega)]; rfl) (Ev.now _)
      · rw [if_neg c2]
        refine Ev.congr (f := fun q => ask_Print.j0 q (wd k) false k nm tx) (fun q => by unfold ask_Print.f; rw [word_eq, Option.bind_some, if_neg he, if_pos (by omega), if_neg (by omega)]) ?_
        exact Ev.step (f := fun _ => some _) (fun q => by simp only [ask_Print.j0]; rw [if_neg Bool.false_ne_true, if_neg c1, if_neg (by omega)]) (Ev.now _)
  · rw [if_neg c]
    exact Ev.congr (fun q => by unfold ask_Print.f; rw [word_eq, Option.bind_some, if_pos (wd_empty.2 c)]) hno
theorem refprint_ev (k : Int) (nm tx : ByteArray) (hn : nm.size ≤ 1000000000) (ht : tx.size ≤ 1000000000) : Ev (fun q => cubbyref21_Print.f q k nm tx) (printA k nm tx) := by
  have hw := wd_size k
  have hs1 : (wd k ++ (⟨#[10]⟩ : ByteArray)).size = (wd k).size + 1 := ap_size _ _
  have hs2 : (wd k ++ (⟨#[32]⟩ : ByteArray)).size = (wd k).size + 1 := ap_size _ _
  unfold printA
  by_cases c : 1 ≤ k ∧ k ≤ 9
  · have he : ¬ (wd k).toList = ([] : List UInt8) := fun h => wd_empty.1 h c
    rw [if_pos c]
    by_cases c1 : k = 1
    · rw [if_pos c1]
      exact Ev.congr (f := fun _ => some _) (fun q => by unfold cubbyref21_Print.f; rw [refword_eq, Option.bind_some, if_neg he, if_pos c1, if_pos (by omega), if_pos (by omega)]; rfl) (Ev.now _)
    · rw [if_neg c1]
      by_cases c2 : k ≤ 6
      · rw [if_pos c2]
        refine Ev.congr (fun q => by unfold cubbyref21_Print.f; rw [refword_eq, Option.bind_some, if_neg he, if_neg c1, if_pos c2]) (Ev.bind (refname_ev nm) ?_)
        cases nameOk nm
        · rw [if_neg Bool.false_ne_true]
          exact Ev.congr (f := fun _ => some _) (fun q => by rw [if_neg Bool.false_ne_true]) (Ev.now _)
        · rw [if_pos rfl]
          exact Ev.congr (f := fun _ => some _) (fun q => by rw [if_pos rfl, if_pos (by omega), if_pos (by omega)]; rfl) (Ev.now _)
      · rw [if_neg c2]
        exact Ev.congr (f := fun _ => some _) (fun q => by unfold cubbyref21_Print.f; rw [refword_eq, Option.bind_some, if_neg he, if_neg c1, if_neg c2]) (Ev.now _)
  · rw [if_neg c]
    exact Ev.congr (f := fun _ => some _) (fun q => by unfold cubbyref21_Print.f; rw [refword_eq, Option.bind_some, if_pos (wd_empty.2 c)]) (Ev.now _)

/-! ### parsing -/
/-- What stands behind a request's word and one byte more. -/
def tailOf (k : Int) (s : ByteArray) : ByteArray := if (wd k).size < s.size then s.extract ((wd k).size + 1) s.size else ⟨#[]⟩
def nameFor (k : Int) (s : ByteArray) : ByteArray := if 2 ≤ k ∧ k ≤ 6 then tailOf k s else ⟨#[]⟩
def textFor (k : Int) (s : ByteArray) : ByteArray := if k = 1 then tailOf k s else ⟨#[]⟩
/-- Is a text the request of this kind? -/
def hit (k : Int) (s : ByteArray) : Prop := (printA k (nameFor k s) (textFor k s)).2 = 0 ∧ (printA k (nameFor k s) (textFor k s)).1.toList = s.toList
instance (k : Int) (s : ByteArray) : Decidable (hit k s) := by unfold hit; infer_instance
def parseFrom (s : ByteArray) : Nat → Int → Int × ByteArray × ByteArray × Int
  | 0, _ => (0, ⟨#[]⟩, ⟨#[]⟩, 210)
  | d + 1, k => if hit k s then (k, nameFor k s, textFor k s, 0) else parseFrom s d (k + 1)
def parseA (s : ByteArray) : Int × ByteArray × ByteArray × Int := parseFrom s 9 1
theorem tail_size (k : Int) (s : ByteArray) : (tailOf k s).size ≤ s.size := by
  unfold tailOf
  split
  · rw [ByteArray.size_extract]
    omega
  · exact Nat.zero_le _
theorem name_size (k : Int) (s : ByteArray) : (nameFor k s).size ≤ s.size := by
  unfold nameFor
  split
  · exact tail_size k s
  · exact Nat.zero_le _
theorem text_size (k : Int) (s : ByteArray) : (textFor k s).size ≤ s.size := by
  unfold textFor
  split
  · exact tail_size k s
  · exact Nat.zero_le _
theorem refparse_loop (s : ByteArray) (hs : s.size ≤ 1000000) : ∀ (d : Nat) (k : Int), 1 ≤ k → k + d = 10 → Ev (fun q => cubbyref21_Parse.l0 q s k) (parseFrom s d k) := by
  intro d
  induction d with
  | zero =>
    intro k h1 h2
    exact Ev.step (f := fun _ => some _) (fun q => by simp only [cubbyref21_Parse.l0]; rw [if_neg (by omega)]; rfl) (Ev.now _)
  | succ d ih =>
    intro k h1 h2
    have hw := wd_size k
    have hnx := ih (k + 1) (by omega) (by omega)
    have hn := name_size k s
    have ht := text_size k s
    have hp := refprint_ev k (nameFor k s) (textFor k s) (by omega) (by omega)
    have hwr : wrap64 (((wd k).size : Int) + 1) = (((wd k).size + 1 : Nat) : Int) := wrap_nat (by omega)
    have hwk : wrap64 (k + 1) = k + 1 := wrap_id (by omega) (by omega)
    -- what is done with the printed text
    have hend : Ev (fun q => (cubbyref21_Print.f q k (nameFor k s) (textFor k s)).bind fun bt => if bt.2 = 0 then (if bt.1.toList = s.toList then some (k, nameFor k s, textFor k s, (0 : Int)) else cubbyref21_Parse.l0 q s (wrap64 (k + 1))) else cubbyref21_Parse.l0 q s (wrap64 (k + 1))) (parseFrom s (d + 1) k) := by
      refine Ev.bind hp ?_
      unfold parseFrom
      by_cases c0 : (printA k (nameFor k s) (textFor k s)).2 = 0
      · by_cases c1 : (printA k (nameFor k s) (textFor k s)).1.toList = s.toList
        · rw [if_pos ⟨c0, c1⟩]
          exact Ev.congr (f := fun _ => some _) (fun q => by rw [if_pos c0, if_pos c1]) (Ev.now _)
        · rw [if_neg (fun h => c1 h.2)]
          exact Ev.congr (fun q => by rw [if_pos c0, if_neg c1, hwk]) hnx
      · rw [if_neg (fun h => c0 h.1)]
        exact Ev.congr (fun q => by rw [if_neg c0, hwk]) hnx
    have hext : ∀ a : Int, a = (((wd k).size + 1 : Nat) : Int) → s.extract a.toNat s.size = s.extract ((wd k).size + 1) s.size := by
      rintro _ rfl
      rfl
    by_cases c1 : k = 1
    · have hnm : nameFor k s = ⟨#[]⟩ := by
        unfold nameFor
        rw [if_neg (by omega)]
      by_cases c2 : (wd k).size < s.size
      · have htx : textFor k s = s.extract ((wd k).size + 1) s.size := by
          unfold textFor tailOf
          rw [if_pos c1, if_pos c2]
        rw [hnm, htx] at hend
        refine Ev.step (fun q => by simp only [cubbyref21_Parse.l0]; rw [if_pos (by omega), refword_eq, Option.bind_some, if_pos c1, decide_eq_true (by omega)]) ?_
        refine Ev.step (fun q => by simp only [cubbyref21_Parse.j1]; rw [if_pos trivial, hwr, if_pos (by omega), if_pos (by omega), Int.toNat_natCast]) ?_
        refine Ev.step (fun q => by simp only [cubbyref21_Parse.j2]; rw [if_neg (by omega)]) ?_
        exact Ev.step (fun q => by simp only [cubbyref21_Parse.j3]; rw [if_neg Bool.false_ne_true]) hend
      · have htx : textFor k s = ⟨#[]⟩ := by
          unfold textFor tailOf
          rw [if_pos c1, if_neg c2]
        rw [hnm, htx] at hend
        refine Ev.step (fun q => by simp only [cubbyref21_Parse.l0]; rw [if_pos (by omega), refword_eq, Option.bind_some, if_pos c1, decide_eq_false (by omega)]) ?_
        refine Ev.step (fun q => by simp only [cubbyref21_Parse.j1]; rw [if_neg Bool.false_ne_true]) ?_
        refine Ev.step (fun q => by simp only [cubbyref21_Parse.j2]; rw [if_neg (by omega)]) ?_
        exact Ev.step (fun q => by simp only [cubbyref21_Parse.j3]; rw [if_neg Bool.false_ne_true]) hend
    · have htx : textFor k s = ⟨#[]⟩ := by
        unfold textFor
        rw [if_neg c1]
      refine Ev.step (fun q => by simp only [cubbyref21_Parse.l0]; rw [if_pos (by omega), refword_eq, Option.bind_some, if_neg c1]) ?_
      refine Ev.step (fun q => by simp only [cubbyref21_Parse.j1]; rw [if_neg Bool.false_ne_true]) ?_
      by_cases c2 : k ≤ 6
      · refine Ev.step (fun q => by simp only [cubbyref21_Parse.j2]; rw [if_pos (by omega), if_pos c2]) ?_
        by_cases c3 : (wd k).size < s.size
        · have hnm : nameFor k s = s.extract ((wd k).size + 1) s.size := by
            unfold nameFor tailOf
            rw [if_pos ⟨by omega, c2⟩, if_pos c3]
          rw [hnm, htx] at hend
          exact Ev.step (fun q => by simp only [cubbyref21_Parse.j3]; rw [decide_eq_true (by omega), if_pos rfl, hwr, if_pos (by omega), if_pos (by omega), Int.toNat_natCast]) hend
        · have hnm : nameFor k s = ⟨#[]⟩ := by
            unfold nameFor tailOf
            rw [if_pos ⟨by omega, c2⟩, if_neg c3]
          rw [hnm, htx] at hend
          exact Ev.step (fun q => by simp only [cubbyref21_Parse.j3]; rw [decide_eq_false (by omega), if_neg Bool.false_ne_true]) hend
      · have hnm : nameFor k s = ⟨#[]⟩ := by
          unfold nameFor
          rw [if_neg (by omega)]
        rw [hnm, htx] at hend
        refine Ev.step (fun q => by simp only [cubbyref21_Parse.j2]; rw [if_pos (by omega), if_neg c2]) ?_
        exact Ev.step (fun q => by simp only [cubbyref21_Parse.j3]; rw [if_neg Bool.false_ne_true]) hend
theorem refparse_ev (s : ByteArray) (hs : s.size ≤ 1000000) : Ev (fun q => cubbyref21_Parse.f q s) (parseA s) := refparse_loop s hs 9 1 (by omega) (by omega)
end Go.Proofs.YtbipipbfiekbgaaDoor.PlainAsk
