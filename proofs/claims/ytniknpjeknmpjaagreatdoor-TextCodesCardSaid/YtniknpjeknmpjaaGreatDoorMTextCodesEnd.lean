/- For every input the law TextCodes returns true, and its arguments read behind the call as they did: no condition. -/
import Derived.Test.YtniknpjeknmpjaaGreatDoorRows
import Derived.WalkKit
import Derived.ProofKit
import Derived.OpenShut
import Derived.ShutString
import Derived.ChangeOld
import Derived.Below
import Derived.SizedLaws
import Derived.Test.YtniknpjeknmpjaaGreatDoorCards
import Derived.Test.YtniknpjeknmpjaaGreatDoorTie
import Derived.LaidMore
import Derived.Lay
import Derived.SevenTiedAt
import Derived.Stop.Joined
import Derived.Lib.LaidU8
import Derived.Test.YtniknpjeknmpjaaGreatDoorMTextCodes1
import Derived.Test.YtniknpjeknmpjaaGreatDoorMTextCodes2
import Derived.Test.YtniknpjeknmpjaaGreatDoorMTextCodes3
namespace Go.Proofs.YtniknpjeknmpjaaGreatDoor.PlainText
open Go Go.RowKit Go.Proofs.YtniknpjeknmpjaaGreatDoorW.PrintWords Go.Proofs.YtniknpjeknmpjaaGreatDoorW.PrintMore Go.Proofs.YtniknpjeknmpjaaGreatDoor.Q Go.Proofs.YtniknpjeknmpjaaGreatDoor.Plain Go.Proofs.YtniknpjeknmpjaaGreatDoor.PlainNum Go.Proofs.YtniknpjeknmpjaaGreatDoor.PlainName
set_option linter.unusedVariables false
set_option linter.unusedSimpArgs false
def good (n : Int) : Bool := decide (0 ≤ n ∧ n < 2147483648)
def tailB (name : ByteArray) (named : Bool) (b : Int) : Int → List Int → List UInt8
 | i, [] => if named = true ∧ i = b then 32 :: name.data.toList else []
 | i, n :: r => (if named = true ∧ i = b then 32 :: name.data.toList else []) ++ (32 :: Lib.decDigits n.toNat ++ tailB name named b (i + 1) r)
def sp : ByteArray := ⟨#[32]⟩
def lineR (w name : ByteArray) (named : Bool) (b : Int) (l : List Int) : ByteArray × Int :=
 if w.toList = [] ∨ (named = true ∧ nameOk name = false) then (emp, 80) else if l.all good = true then (⟨(w.data.toList ++ tailB name named b 0 l ++ [10]).toArray⟩, 0) else (emp, 81)
theorem apl (a b : ByteArray) : (a ++ b).data.toList = a.data.toList ++ b.data.toList := by rw [ByteArray.data_append, Array.toList_append]
theorem apz (a b : ByteArray) : (a ++ b).size = a.size + b.size := ByteArray.size_append
def withName (name : ByteArray) (named : Bool) (b : Int) (s : ByteArray) (i : Int) : ByteArray := if named = true ∧ i = b then (s ++ sp) ++ name else s
theorem withName_list (name : ByteArray) (named : Bool) (b : Int) (s : ByteArray) (i : Int) : (withName name named b s i).data.toList = s.data.toList ++ (if named = true ∧ i = b then 32 :: name.data.toList else []) := by
 unfold withName
 split
 ·rw [apl, apl]; simp [sp]
 ·simp
theorem withName_size (name : ByteArray) (named : Bool) (b : Int) (s : ByteArray) (i : Int) : (withName name named b s i).size ≤ s.size + 1 + name.size := by
 unfold withName
 split
 ·rw [apz, apz]; have : sp.size = 1 := rfl; omega
 ·omega
section
variable {name : ByteArray} {named : Bool} {b : Int} {L : List Int}
theorem line_head {s : ByteArray} {i : Int} {r : ByteArray × Int} (hi : i ≤ (L.length : Int)) (hs : s.size ≤ 4000000000000000000) (hn : name.size ≤ 1000) (h : Ev (fun k => cubbyref08_line.j3 k name named b L (withName name named b s i) i) r) : Ev (fun k => cubbyref08_line.l0 k name named b L s i) r := by
 have hsp : sp.size = 1 := rfl
 by_cases hc : named = true ∧ i = b
 ·have e : withName name named b s i = (s ++ sp) ++ name := zC hc
  rw [e] at h
  refine Ev.step (f := fun k => cubbyref08_line.j2 k name named b L s i (i == b)) (fun k => by simp only [cubbyref08_line.l0]; rw [zC hi, zC hc.1]) (Ev.step (fun k => ?_) h)
  simp only [cubbyref08_line.j2]
  rw [zC (by simpa using hc.2), zC (by omega), zC (by show (s ++ sp).size + _ ≤ _; rw [apz]; omega)]
  rfl
 ·have e : withName name named b s i = s := zD hc
  rw [e] at h
  by_cases hn2 : named = true
  ·refine Ev.step (f := fun k => cubbyref08_line.j2 k name named b L s i (i == b)) (fun k => by simp only [cubbyref08_line.l0]; rw [zC hi, zC hn2]) (Ev.step (fun k => ?_) h)
   simp only [cubbyref08_line.j2]
   rw [zD (by simpa using fun e => hc ⟨hn2, e⟩)]
  ·refine Ev.step (f := fun k => cubbyref08_line.j2 k name named b L s i false) (fun k => by simp only [cubbyref08_line.l0]; rw [zC hi, zD hn2]) (Ev.step (fun k => ?_) h)
   simp only [cubbyref08_line.j2]
   rw [zD (by simp)]
theorem line_loop (hn : name.size ≤ 300) (hL : L.length ≤ 1000) : ∀ (l : List Int) (j : Nat) (s : ByteArray), L.drop j = l → j ≤ L.length → s.size ≤ 1000 + 1000 * j →
 Ev (fun k => cubbyref08_line.l0 k name named b L s (j : Int)) (if l.all good = true then (⟨(s.data.toList ++ tailB name named b j l ++ [10]).toArray⟩, 0) else (emp, 81))
 | [], j, s, hl, hj, hs => by
  have hjl : j = L.length := by have := congrArg List.length hl; simp at this; omega
  have hz := withName_size name named b s j
  refine line_head (by omega) (by omega) (by omega) ?_
  refine Ev.step (f := fun k => cubbyref08_line.l0 k name named b L (withName name named b s j) ((j + 1 : Nat) : Int)) (fun k => by simp only [cubbyref08_line.j3]; rw [zD (by omega), wrap_nat (by omega)]) ?_
  refine ⟨1, fun k hk => ?_⟩
  obtain ⟨q, rfl⟩ : ∃ q, k = q + 1 := ⟨k - 1, by omega⟩
  simp only [cubbyref08_line.l0]
  rw [zD (by omega), zC (by omega), show (([] : List Int).all good) = true from rfl, zC rfl]
  congr 2
  refine ba_ext ?_
  rw [apl, withName_list]
  simp [tailB]
 | n :: l, j, s, hl, hj, hs => by
  have hlt : j < L.length := by
   rcases Nat.lt_or_ge j L.length with h | h
   ·exact h
   ·rw [List.drop_eq_nil_of_le h] at hl; cases hl
  rw [drop_cons hlt] at hl
  simp only [List.cons.injEq] at hl
  obtain ⟨hv, hl⟩ := hl
  have hrd : rd L (j : Int) = n := by rw [rd_get hlt, hv]
  have hz := withName_size name named b s j
  refine line_head (by omega) (by omega) (by omega) ?_
  by_cases hg : good n = true
  ·have hgn : 0 ≤ n ∧ n < 2147483648 := by simpa [good] using hg
   have hnz := num_size hgn.2
   have hsp : sp.size = 1 := rfl
   have ih := line_loop hn hL l (j + 1) ((withName name named b s j ++ sp) ++ num n) hl (by omega) (by rw [apz, apz]; omega)
   have e : (((withName name named b s j ++ sp) ++ num n).data.toList ++ tailB name named b ((j + 1 : Nat) : Int) l ++ [10]) = (s.data.toList ++ tailB name named b (j : Int) (n :: l) ++ [10]) := by
    rw [apl, apl, withName_list, num_list, tailB]
    simp [sp]
   rw [e] at ih
   rw [show (n :: l).all good = l.all good by simp [hg]]
   refine Ev.step (fun k => ?_) (Ev.bind (digits_ev hgn.1 hgn.2) (f := fun k t115 => (if (withName name named b s j ++ (⟨#[32]⟩ : ByteArray)).size + t115.size ≤ 9223372036854775807 then (cubbyref08_line.l0 k name named b L ((withName name named b s j ++ (⟨#[32]⟩ : ByteArray)) ++ t115) (wrap64 ((j : Int) + 1))) else (none))) ?_)
   ·simp only [cubbyref08_line.j3]
    rw [zC (by omega), zC (by omega), hrd, zD (by omega), zD (by omega), zC (by omega)]
   ·refine Ev.congr (fun k => ?_) ih
    rw [zC (by show (withName name named b s j ++ sp).size + _ ≤ _; rw [apz]; omega), wrap_nat (by omega)]
    rfl
  ·have hgn : n < 0 ∨ 2147483647 < n := by
    have : ¬ (0 ≤ n ∧ n < 2147483648) := by simpa [good] using hg
    omega
   rw [zD (by simp [hg])]
   refine ⟨1, fun k hk => ?_⟩
   obtain ⟨q, rfl⟩ : ∃ q, k = q + 1 := ⟨k - 1, by omega⟩
   simp only [cubbyref08_line.j3]
   rw [zC (by omega), zC (by omega), hrd]
   by_cases h0 : n < 0
   ·rw [zC h0]; rfl
   ·rw [zD h0, zC (by omega)]; rfl
end
theorem line_ev (w name : ByteArray) (named : Bool) (b : Int) (l : List Int) (hw : w.size ≤ 1000) (hn : name.size ≤ 300) (hl : l.length ≤ 1000) : Ev (fun k => cubbyref08_line.f k w name named b l) (lineR w name named b l) := by
 have no : ∀ g : Nat → Option (ByteArray × Int), (∀ k, g k = cubbyref08_line.j0 k w name named b l true) → w.toList = [] ∨ (named = true ∧ nameOk name = false) → Ev g (lineR w name named b l) := fun g hg hc => by
  have e : lineR w name named b l = (emp, 80) := zC hc
  rw [e]
  exact Ev.congr hg (Ev.step (f := fun _ => some (emp, 80)) (fun k => by simp only [cubbyref08_line.j0, if_true]; rfl) (Ev.now _))
 have yes : ∀ g : Nat → Option (ByteArray × Int), (∀ k, g k = cubbyref08_line.j0 k w name named b l false) → ¬ (w.toList = [] ∨ (named = true ∧ nameOk name = false)) → Ev g (lineR w name named b l) := fun g hg hc => by
  have e : lineR w name named b l = if l.all good = true then (⟨(w.data.toList ++ tailB name named b 0 l ++ [10]).toArray⟩, 0) else (emp, 81) := zD hc
  rw [e]
  exact Ev.congr hg (Ev.step (fun k => by simp only [cubbyref08_line.j0]; rw [zD (by simp)]; rfl) (line_loop hn hl l 0 w rfl (Nat.zero_le _) (by omega)))
 by_cases h0 : w.toList = []
 ·exact no _ (fun k => by unfold cubbyref08_line.f; rw [zC h0]) (.inl h0)
 by_cases h1 : named = true
 ·have hb : Ev (fun k => (cubbyref07_Name.f k name).bind fun t111 => (cubbyref08_line.j0 k w name named b l (!t111))) (lineR w name named b l) := by
   refine Ev.bind (f := fun k t111 => cubbyref08_line.j0 k w name named b l (!t111)) (refname_ev name) ?_
   cases hk : nameOk name with
   | false => exact no _ (fun k => rfl) (.inr ⟨h1, hk⟩)
   | true => exact yes _ (fun k => rfl) (by rintro (h | ⟨_, h⟩); exact h0 h; rw [hk] at h; cases h)
  exact Ev.congr (fun k => by unfold cubbyref08_line.f; rw [zD h0, zC h1]) hb
 ·exact yes _ (fun k => by unfold cubbyref08_line.f; rw [zD h0, zD h1]) (by rintro (h | ⟨h, _⟩); exact h0 h; exact h1 h)
theorem keepE_z (e : Int) : keepE e 0 = e := by unfold keepE; split <;> simp_all
theorem keepE_nz {e : Int} (h : e ≠ 0) (a : Int) : keepE e a = e := zD h
theorem keepE_assoc (a b c : Int) : keepE (keepE a b) c = keepE a (keepE b c) := by
 unfold keepE
 by_cases h : a = 0 <;> simp [h]
theorem errsOf_keep : ∀ (ps : List Part) (e : Int), errsOf e ps = keepE e (errsOf 0 ps)
 | [], e => (keepE_z e).symm
 | p :: ps, e => by
  have h1 : errsOf e (p :: ps) = errsOf (keepE e p.err) ps := rfl
  have h2 : errsOf 0 (p :: ps) = errsOf (keepE 0 p.err) ps := rfl
  rw [h1, h2, errsOf_keep ps, errsOf_keep ps (keepE 0 p.err), keepE_assoc, keepE_assoc]
  congr 1
theorem err_num (n : Int) : Part.err (.num n) = if good n = true then 0 else 81 := by
 show (if n < 0 ∨ 2147483648 ≤ n then (81 : Int) else 0) = _
 unfold good
 by_cases h : 0 ≤ n ∧ n < 2147483648
 ·rw [zD (by omega), zC (by simpa using h)]
 ·rw [zC (by omega), zD (by simpa using h)]
theorem errs_nums : ∀ l : List Int, errsOf 0 (l.map .num) = if l.all good = true then 0 else 81
 | [] => rfl
 | n :: l => by
  have h1 : errsOf 0 ((n :: l).map .num) = errsOf (keepE 0 (Part.err (.num n))) (l.map .num) := rfl
  rw [h1, errsOf_keep, err_num, errs_nums l]
  by_cases hg : good n = true
  ·simp [hg, keepE]
  ·simp [hg, keepE]
theorem join_flat (w : List UInt8) (l : List (List UInt8)) : Lib.join (w :: l) [32] = w ++ l.flatMap (fun t => 32 :: t) := by
 rw [Lib.join_cons]
 unfold Lib.joinTail
 rw [List.flatMap_def]
 rfl
theorem lineBytes_flat (wd : ByteArray) (ps : List Part) : lineBytes wd ps = wd.data.toList ++ ps.flatMap (fun p => 32 :: p.str.data.toList) ++ [10] := by
 unfold lineBytes
 rw [List.map_cons, join_flat, List.map_map, List.flatMap_map]
 rfl
theorem str_num {n : Int} (h : good n = true) : (Part.str (.num n)).data.toList = Lib.decDigits n.toNat := by
 have hg : 0 ≤ n ∧ n < 2147483648 := by simpa [good] using h
 show (⟨(Lib.itoa n).toArray⟩ : ByteArray).data.toList = _
 rw [itoa_num hg.1, num_list]
theorem tail_plain (name : ByteArray) (named : Bool) (b : Int) : ∀ (l : List Int) (i : Int), (named = true → b < i) → l.all good = true → tailB name named b i l = (l.map Part.num).flatMap (fun p => 32 :: p.str.data.toList)
 | [], i, h, hg => by
  unfold tailB
  rw [zD (by rintro ⟨h1, h2⟩; have := h h1; omega)]; rfl
 | n :: l, i, h, hg => by
  simp only [List.all_cons, Bool.and_eq_true] at hg
  unfold tailB
  rw [zD (by rintro ⟨h1, h2⟩; have := h h1; omega), tail_plain name named b l (i + 1) (fun h1 => by have := h h1; omega) hg.2]
  simp [str_num hg.1]
structure Lite (x : SIns) : Prop where
 i1 : -9223372036854775808 ≤ x.f1 ∧ x.f1 ≤ 9223372036854775807
 i2 : -9223372036854775808 ≤ x.f2 ∧ x.f2 ≤ 9223372036854775807
 i3 : -9223372036854775808 ≤ x.f3 ∧ x.f3 ≤ 9223372036854775807
 nm : x.f4.size ≤ 256
 ln : x.f5.length ≤ 20
 i5 : ∀ n ∈ x.f5, -9223372036854775808 ≤ n ∧ n ≤ 9223372036854775807
def prR (x : SIns) (code : Bool) : ByteArray × Int := lineR (wordR x.f0 code) x.f4 (x.f0 == 11) 1 (numsR x code)
theorem word_size (op : Int) (code : Bool) : (wordR op code).size ≤ 1000 := by
 unfold wordR
 rcases op_cases op with e | e | e | e | e | e | e | e | e | e | e | e | e | e | e | e | e
 all_goals first
  | (rw [e]; cases code <;> decide)
  | (rw [text_of_none (by omega)]; decide)
theorem nums_len (x : SIns) (code : Bool) (h : x.f5.length ≤ 20) : (numsR x code).length ≤ 1000 := by
 unfold numsR
 (repeat' split) <;> simp <;> omega
theorem mem_total : ∀ {l : List (List SIns)} {xs : List SIns}, xs ∈ l → xs.length ≤ (l.map List.length).sum
 | a :: l, xs, h => by
  rw [List.map_cons, List.sum_cons]
  rcases List.mem_cons.1 h with rfl | h
  ·omega
  ·have := mem_total h; omega
theorem text_of_some {op : Int} {code : Bool} (h : ¬ (op = 0 ∨ (op < 0 ∨ 14 < op) ∧ op ≠ 21 ∧ op ≠ 22)) : ∃ wd fs is, text_of.f op code = some (op, wd, fs, is) ∧ (wd.size ≤ 6 ∧ wd.toList ≠ []) ∧ fs.size ≤ 3 ∧ (∀ b ∈ fs.data.toList, b = 68 ∨ b = 65 ∨ b = 66 ∨ b = 78 ∨ b = 76) ∧ (is = false ↔ code = false ∧ (op = 21 ∨ op = 22)) := by
 rcases op_cases op with rfl | rfl | rfl | rfl | rfl | rfl | rfl | rfl | rfl | rfl | rfl | rfl | rfl | rfl | rfl | rfl | rfl | h'
 all_goals first
  | exact absurd (by omega) h
  | (cases code <;> exact ⟨_, _, _, rfl, ⟨by decide, by rw [toList_data]; decide⟩, by decide, by decide, by decide⟩)
theorem itoa_len {n : Int} (h : -9223372036854775808 ≤ n ∧ n ≤ 9223372036854775807) : (Lib.itoa n).length ≤ 20 := by
 have h19 : (10 : Nat) ^ (18 + 1) = 10000000000000000000 := by decide
 unfold Lib.itoa
 split
 ·have := dec_len 18 n.natAbs (by omega)
  simp only [List.length_cons]; omega
 ·have := dec_len 18 n.toNat (by omega)
  omega
theorem str_len {p : Part} (h : PartOk p) (hs : ∀ s, p = .nm s → s.size ≤ 256) : p.str.data.toList.length ≤ 256 := by
 cases p with
 | num n =>
  have := itoa_len h
  show (⟨(Lib.itoa n).toArray⟩ : ByteArray).data.toList.length ≤ 256
  simp; omega
 | nm s => have := hs s rfl; show s.data.toList.length ≤ 256; simpa using this
theorem flat_len (ps : List Part) (h : ∀ p ∈ ps, p.str.data.toList.length ≤ 256) : (ps.flatMap (fun p => 32 :: p.str.data.toList)).length ≤ 257 * ps.length := by
 induction ps with
 | nil => simp
 | cons p ps ih =>
  have h1 := h p List.mem_cons_self
  have h2 := ih (fun q hq => h q (List.mem_cons_of_mem _ hq))
  simp only [List.flatMap_cons, List.length_append, List.length_cons]
  omega
theorem parts_ok {x : SIns} (h : Lite x) (fs : List UInt8) : ∀ p ∈ partsOf x fs, PartOk p ∧ ∀ s, p = .nm s → s.size ≤ 256 := by
 intro p hp
 obtain ⟨c, hc, hp⟩ := List.mem_flatMap.1 hp
 unfold fieldParts at hp
 split at hp
 ·rw [List.mem_singleton.1 hp]; exact ⟨h.i1, fun s e => by cases e⟩
 split at hp
 ·rw [List.mem_singleton.1 hp]; exact ⟨h.i2, fun s e => by cases e⟩
 split at hp
 ·rw [List.mem_singleton.1 hp]; exact ⟨h.i3, fun s e => by cases e⟩
 split at hp
 ·rw [List.mem_singleton.1 hp]; exact ⟨trivial, fun s e => by cases e; exact h.nm⟩
 split at hp
 ·obtain ⟨n, hn, rfl⟩ := List.mem_map.1 hp
  exact ⟨h.i5 n hn, fun s e => by cases e⟩
 ·simp at hp
theorem parts_count {x : SIns} (h : Lite x) (fs : ByteArray) (hf : fs.size ≤ 3) : (partsOf x fs.data.toList).length ≤ 63 := by
 have h1 := partsOf_len x fs.data.toList
 have h2 : fs.data.toList.length = fs.size := by simp
 have h3 := h.ln
 have h4 : fs.data.toList.length * (x.f5.length + 1) ≤ 3 * 21 := Nat.mul_le_mul (by omega) (by omega)
 omega
theorem line_len {x : SIns} (h : Lite x) (wd fs : ByteArray) (hw : wd.size ≤ 6) (hf : fs.size ≤ 3) : (lineBytes wd (partsOf x fs.data.toList)).length ≤ 20000 := by
 rw [lineBytes_flat, List.length_append, List.length_append]
 have h1 := flat_len (partsOf x fs.data.toList) (fun p hp => str_len (parts_ok h _ p hp).1 (parts_ok h _ p hp).2)
 have h2 := parts_count h fs hf
 have h3 : wd.data.toList.length = wd.size := by simp
 have : 257 * (partsOf x fs.data.toList).length ≤ 257 * 63 := Nat.mul_le_mul_left _ h2
 simp only [List.length_singleton]
 omega
theorem insOk_of {x : SIns} (h : Lite x) (code : Bool) : insOkB code x = true := by
 unfold insOkB
 by_cases hn : x.f0 = 0 ∨ (x.f0 < 0 ∨ 14 < x.f0) ∧ x.f0 ≠ 21 ∧ x.f0 ≠ 22
 ·rw [text_of_none hn]
  have h5 := h.ln
  simp only [Bool.and_eq_true, decide_eq_true_eq]
  rw [name_eq]
  exact ⟨⟨⟨⟨⟨rfl, rfl⟩, by decide⟩, (by decide : (lineBytes emp []).length ≤ 1000000000)⟩, rfl⟩, by omega⟩
 ·obtain ⟨wd, fs, is, ho, ⟨hw, -⟩, hf, hb, -⟩ := text_of_some (code := code) hn
  rw [ho]
  have h5 := h.ln
  have h6 := line_len h wd fs hw hf
  simp only [Bool.and_eq_true, decide_eq_true_eq]
  rw [name_eq]
  refine ⟨⟨⟨⟨⟨List.all_eq_true.2 fun b hbm => zF (hb b hbm), List.all_eq_true.2 fun p hp => ?_⟩, by omega⟩, by omega⟩, rfl⟩, by omega⟩
  have h7 := (parts_ok h _ p hp).1
  cases p with
  | num n => exact zF (show -9223372036854775808 ≤ n ∧ n ≤ 9223372036854775807 from h7)
  | nm s => rfl
theorem insText_grow {x : SIns} (h : Lite x) (code : Bool) (s : List UInt8 × Int) : (insText code s x).1.length ≤ s.1.length + 20000 := by
 unfold insText
 by_cases hn : x.f0 = 0 ∨ (x.f0 < 0 ∨ 14 < x.f0) ∧ x.f0 ≠ 21 ∧ x.f0 ≠ 22
 ·rw [text_of_none hn]; simp
 ·obtain ⟨wd, fs, is, ho, ⟨hw, -⟩, hf, hb, -⟩ := text_of_some (code := code) hn
  rw [ho]
  have h6 := line_len h wd fs hw hf
  cases is with
  | true => simp only [List.length_append]; omega
  | false => simp
theorem insText_R {x : SIns} (h : Lite x) (code : Bool) (s : List UInt8) : (insText code (s, 0) x).2 = (prR x code).2 ∧ ((prR x code).2 = 0 → (insText code (s, 0) x).1 = s ++ (prR x code).1.data.toList) := by
 by_cases hn : x.f0 = 0 ∨ (x.f0 < 0 ∨ 14 < x.f0) ∧ x.f0 ≠ 21 ∧ x.f0 ≠ 22
 ·have e1 : prR x code = (emp, 80) := by
   unfold prR lineR
   rw [zC (.inl (by unfold wordR; rw [text_of_none hn, toList_data]; rfl))]
  have e2 : insText code (s, 0) x = (s, 80) := by unfold insText; rw [text_of_none hn]; rfl
  rw [e1, e2]
  exact ⟨rfl, fun h => absurd h (by decide)⟩
 obtain ⟨wd, fs, is, ho, ⟨hw, hw0⟩, hf, hb, his⟩ := text_of_some (code := code) hn
 cases is with
 | false =>
  have e1 : prR x code = (emp, 80) := by
   unfold prR lineR
   rw [zC (.inl (by unfold wordR; rw [ho, toList_data]; rfl))]
  have e2 : insText code (s, 0) x = (s, 80) := by unfold insText; rw [ho]; rfl
  rw [e1, e2]
  exact ⟨rfl, fun h => absurd h (by decide)⟩
 | true =>
  have ew : wordR x.f0 code = wd := by unfold wordR; rw [ho]
  have e2 : insText code (s, 0) x = (s ++ lineBytes wd (partsOf x fs.data.toList), errsOf (nameErr (nameOk x.f4) 0 fs.data.toList) (partsOf x fs.data.toList)) := by unfold insText; rw [ho]; dsimp only; rw [name_eq]; rfl
  rw [e2]
  unfold prR
  rw [ew]
  clear ew e2 hb hf
  have hx := hn
  obtain ⟨x0, x1, x2, x3, x4, x5⟩ := x
  dsimp only at *
  have key : ∀ (named : Bool) (l : List Int) (ps : List Part) (e0 : Int), (e0 = if named = true ∧ nameOk x4 = false then 80 else 0) → (e0 = 0 → errsOf 0 ps = if l.all good = true then 0 else 81) → (l.all good = true → tailB x4 named 1 0 l = ps.flatMap (fun p => 32 :: p.str.data.toList)) →
   (errsOf e0 ps = (lineR wd x4 named 1 l).2 ∧ ((lineR wd x4 named 1 l).2 = 0 → s ++ lineBytes wd ps = s ++ (lineR wd x4 named 1 l).1.data.toList)) := by
   intro named l ps e0 he hp ht
   unfold lineR
   by_cases hc : named = true ∧ nameOk x4 = false
   ·rw [zC (.inr hc)]
    rw [he, zC hc, errsOf_keep, keepE_nz (by decide)]
    exact ⟨rfl, fun h => absurd h (by decide)⟩
   ·rw [zD (by rintro (h | h); exact hw0 h; exact hc h)]
    rw [zD hc] at he
    rw [he, hp he]
    by_cases hg : l.all good = true
    ·rw [zC hg, zC hg]
     refine ⟨rfl, fun _ => ?_⟩
     rw [lineBytes_flat, ht hg]
    ·rw [zD hg, zD hg]
     exact ⟨rfl, fun h => absurd h (by decide)⟩
  have hop : ∀ (wd' fs' : ByteArray), text_of.f x0 code = some (x0, wd', fs', true) → wd = wd' ∧ fs = fs' := fun wd' fs' h' => by
   rw [ho] at h'
   simp only [Option.some.injEq, Prod.mk.injEq] at h'
   exact ⟨h'.2.1, h'.2.2.1⟩
  have nums : ∀ (l : List Int), fs.data.toList.flatMap (fieldParts ⟨x0, x1, x2, x3, x4, x5⟩) = l.map .num → (78 : UInt8) ∉ fs.data.toList → (x0 == 11) = false → numsR ⟨x0, x1, x2, x3, x4, x5⟩ code = l →
   (errsOf (nameErr (nameOk x4) 0 fs.data.toList) (partsOf ⟨x0, x1, x2, x3, x4, x5⟩ fs.data.toList) = (lineR wd x4 (x0 == 11) 1 (numsR ⟨x0, x1, x2, x3, x4, x5⟩ code)).2 ∧ ((lineR wd x4 (x0 == 11) 1 (numsR ⟨x0, x1, x2, x3, x4, x5⟩ code)).2 = 0 → s ++ lineBytes wd (partsOf ⟨x0, x1, x2, x3, x4, x5⟩ fs.data.toList) = s ++ (lineR wd x4 (x0 == 11) 1 (numsR ⟨x0, x1, x2, x3, x4, x5⟩ code)).1.data.toList)) := by
   intro l hl h78 h11 hnum
   rw [h11, hnum, show partsOf ⟨x0, x1, x2, x3, x4, x5⟩ fs.data.toList = l.map .num from hl]
   refine key false l _ _ ?_ (fun _ => errs_nums l) (fun hg => tail_plain x4 false 1 l 0 (fun h => by cases h) hg)
   rw [zD (by rintro ⟨h, _⟩; cases h)]
   have : ∀ (fl : List UInt8) (e : Int), (78 : UInt8) ∉ fl → nameErr (nameOk x4) e fl = e := by
    intro fl
    induction fl with
    | nil => intro e _; rfl
    | cons c fl ih =>
     intro e hm
     have h1 : c ≠ 78 := fun e => hm (by rw [e]; exact List.mem_cons_self)
     show nameErr (nameOk x4) (if c = 78 then _ else e) fl = e
     rw [zD h1]
     exact ih e (fun hm' => hm (List.mem_cons_of_mem _ hm'))
   exact this _ _ h78
  rcases op_cases x0 with rfl | rfl | rfl | rfl | rfl | rfl | rfl | rfl | rfl | rfl | rfl | rfl | rfl | rfl | rfl | rfl | rfl | h'
  all_goals first
   | exact absurd (by omega) hx
   | (obtain ⟨rfl, rfl⟩ := hop _ _ rfl; exact nums _ rfl (by decide) rfl rfl)
   | (cases code <;> first | (obtain ⟨rfl, rfl⟩ := hop _ _ rfl; exact nums _ rfl (by decide) rfl rfl) | exact absurd (his.2 ⟨rfl, .inl rfl⟩) (by decide) | exact absurd (his.2 ⟨rfl, .inr rfl⟩) (by decide))
   | skip
  ·-- a call
   have ne : ∀ c : UInt8, nameErr (nameOk x4) 0 [68, 78, c] = if c = 78 then (if nameOk x4 = true then (if nameOk x4 = true then 0 else 80) else 80) else (if nameOk x4 = true then 0 else 80) := fun c => by
    unfold nameErr
    simp only [List.foldl_cons, List.foldl_nil]
    cases nameOk x4 <;> simp [keepE]
   have hname : ∀ c : UInt8, c ≠ 78 → nameErr (nameOk x4) 0 [68, 78, c] = if (true : Bool) = true ∧ nameOk x4 = false then 80 else 0 := fun c hc => by
    rw [ne c, zD hc]
    cases nameOk x4 <;> simp
   have errs : ∀ l : List Int, errsOf 0 (.num x1 :: .nm x4 :: l.map .num) = if (x1 :: l).all good = true then 0 else 81 := fun l => by
    have h1 : errsOf 0 (.num x1 :: .nm x4 :: l.map .num) = errsOf (keepE (keepE 0 (Part.err (.num x1))) 0) (l.map .num) := rfl
    rw [h1, keepE_z, errsOf_keep, err_num, errs_nums l]
    by_cases hg : good x1 = true
    ·simp [hg, keepE]
    ·simp [hg, keepE]
   have tl : ∀ l : List Int, (x1 :: l).all good = true → tailB x4 true 1 0 (x1 :: l) = (Part.num x1 :: Part.nm x4 :: l.map .num).flatMap (fun p => 32 :: p.str.data.toList) := fun l hg => by
    simp only [List.all_cons, Bool.and_eq_true] at hg
    have e1 : tailB x4 true 1 0 (x1 :: l) = 32 :: Lib.decDigits x1.toNat ++ tailB x4 true 1 (0 + 1) l := by
     rw [tailB, zD (by rintro ⟨_, h⟩; omega)]; simp
    have e2 : tailB x4 true 1 (0 + 1) l = (32 :: x4.data.toList) ++ (l.map Part.num).flatMap (fun p => 32 :: p.str.data.toList) := by
     cases l with
     | nil => rw [tailB, zC ⟨rfl, rfl⟩]; simp
     | cons n l =>
      simp only [List.all_cons, Bool.and_eq_true] at hg
      rw [tailB, zC ⟨rfl, rfl⟩, tail_plain x4 true 1 l _ (fun _ => by omega) hg.2.2]
      simp [str_num hg.2.1]
    rw [e1, e2]
    simp only [List.flatMap_cons, str_num hg.1]
    have e3 : (Part.nm x4).str = x4 := rfl
    simp [e3]
   cases code with
   | true =>
    obtain ⟨rfl, rfl⟩ := hop _ _ rfl
    exact key true [x1, x2] [.num x1, .nm x4, .num x2] _ (hname 65 (by decide)) (fun _ => errs [x2]) (fun hg => tl [x2] hg)
   | false =>
    obtain ⟨rfl, rfl⟩ := hop _ _ rfl
    have e : partsOf ⟨11, x1, x2, x3, x4, x5⟩ [68, 78, 76] = .num x1 :: .nm x4 :: x5.map .num := by simp [partsOf, fieldParts]
    have := key true (x1 :: x5) (.num x1 :: .nm x4 :: x5.map .num) _ (hname 76 (by decide)) (fun _ => errs x5) (fun hg => tl x5 hg)
    rw [← e] at this
    exact this
theorem keep_err {code : Bool} {s : List UInt8 × Int} {x : SIns} (h : s.2 ≠ 0) : (insText code s x).2 = s.2 := by
 unfold insText
 split
 ·rw [errsOf_keep]
  have : ∀ (fl : List UInt8) (e : Int) (nb : Bool), e ≠ 0 → nameErr nb e fl = e := by
   intro fl
   induction fl with
   | nil => intro e nb _; rfl
   | cons c fl ih =>
    intro e nb he
    show nameErr nb (if c = 78 then (if nb then e else keepE e 80) else e) fl = e
    rw [keepE_nz he]
    simp only [ite_self]
    exact ih e nb he
  rw [this _ _ _ h, keepE_nz h]
 ·exact keepE_nz h _
theorem fold_err {α : Type} {f : List UInt8 × Int → α → List UInt8 × Int} (hf : ∀ s x, s.2 ≠ 0 → (f s x).2 = s.2) : ∀ (l : List α) (s : List UInt8 × Int), s.2 ≠ 0 → (l.foldl f s).2 = s.2
 | [], s, h => rfl
 | x :: l, s, h => by rw [List.foldl_cons, fold_err hf l _ (by rw [hf s x h]; exact h), hf s x h]
theorem blk_err {code : Bool} {s : List UInt8 × Int} {xs : List SIns} (h : s.2 ≠ 0) : (blkText code s xs).2 = s.2 := fold_err (fun s x h => keep_err h) xs (s.1 ++ [98, 108, 111, 99, 107, 10], s.2) h
theorem blks_err {code : Bool} {s : List UInt8 × Int} {l : List (List SIns)} (h : s.2 ≠ 0) : (blksText code s l).2 = s.2 := fold_err (fun s x h => blk_err h) l s h
def fin (s : List UInt8 × Int) : ByteArray × Int := if s.2 = 0 then (⟨s.1.toArray⟩, 0) else (emp, s.2)
theorem fin_err {s : List UInt8 × Int} (h : s.2 ≠ 0) : fin s = (emp, s.2) := zD h
def total (l : List (List SIns)) : Nat := (l.map List.length).sum
structure Light (l : List (List SIns)) : Prop where
 len : l.length ≤ 50
 tot : total l ≤ 300
 lite : ∀ xs ∈ l, ∀ x ∈ xs, Lite x
theorem blk_grow {code : Bool} : ∀ (xs : List SIns), (∀ x ∈ xs, Lite x) → ∀ s : List UInt8 × Int, (xs.foldl (insText code) s).1.length ≤ s.1.length + 20000 * xs.length
 | [], _, s => by simp
 | x :: xs, h, s => by
  have h1 := blk_grow (code := code) xs (fun y hy => h y (List.mem_cons_of_mem _ hy)) (insText code s x)
  have h2 := insText_grow (h x List.mem_cons_self) code s
  rw [List.foldl_cons, List.length_cons]; omega
theorem blks_grow {code : Bool} : ∀ (l : List (List SIns)), (∀ xs ∈ l, ∀ x ∈ xs, Lite x) → ∀ s : List UInt8 × Int, (blksText code s l).1.length ≤ s.1.length + 6 * l.length + 20000 * total l
 | [], _, s => by simp [blksText, total]
 | xs :: l, h, s => by
  have h1 := blks_grow (code := code) l (fun y hy => h y (List.mem_cons_of_mem _ hy)) (blkText code s xs)
  have h2 := blk_grow (code := code) xs (h xs List.mem_cons_self) (s.1 ++ [98, 108, 111, 99, 107, 10], s.2)
  have h3 : (blkText code s xs).1.length ≤ s.1.length + 6 + 20000 * xs.length := by
   refine Nat.le_trans h2 ?_
   simp
  have e1 : blksText code s (xs :: l) = blksText code (blkText code s xs) l := rfl
  have e2 : total (xs :: l) = xs.length + total l := by simp [total]
  rw [e1, e2, List.length_cons]; omega
section
variable {L : List (List SIns)} {code : Bool}
set_option maxRecDepth 100000 in
theorem inner (hL : ∀ xs ∈ L, ∀ x ∈ xs, Lite x) (hLL : L.length ≤ 50) (i : Nat) (xs : List SIns) (hi : L[i]? = some xs) (hxl : xs.length ≤ 300) (r : ByteArray × Int) (g : List UInt8 × Int → ByteArray × Int) (hg : ∀ s : List UInt8 × Int, s.2 ≠ 0 → g s = (emp, s.2)) :
 ∀ (l : List SIns) (j : Nat) (s : List UInt8), xs.drop j = l → j ≤ xs.length → s.length ≤ 1000000000 + 20000 * j →
  ((l.foldl (insText code) (s, 0)).2 = 0 → Ev (fun k => cubbyref08_print.l0 k L code ⟨(l.foldl (insText code) (s, 0)).1.toArray⟩ ((i + 1 : Nat) : Int)) (g (l.foldl (insText code) (s, 0)))) →
  Ev (fun k => cubbyref08_print.l1 k L code ⟨s.toArray⟩ (i : Int) (j : Int)) (g (l.foldl (insText code) (s, 0)))
 | [], j, s, hl, hj, hs, hK => by
  have hil : i < L.length := (List.getElem?_eq_some_iff.1 hi).1
  have hjl : xs.length = j := by have := congrArg List.length hl; simp at this; omega
  refine Ev.step (fun k => ?_) (hK rfl)
  simp only [cubbyref08_print.l1]
  rw [zC (by omega), zC (by omega), rd_LIns_at hi, zD (by omega)]
  rw [wrap_nat (by omega)]
  rfl
 | x :: l, j, s, hl, hj, hs, hK => by
  have hil : i < L.length := (List.getElem?_eq_some_iff.1 hi).1
  have hlt : j < xs.length := by
   rcases Nat.lt_or_ge j xs.length with h | h
   ·exact h
   ·rw [List.drop_eq_nil_of_le h] at hl; cases hl
  have hlx := hl
  rw [drop_cons hlt] at hlx
  simp only [List.cons.injEq] at hlx
  obtain ⟨hxv, hl2⟩ := hlx
  have hx : xs[j]? = some x := by rw [List.getElem?_eq_getElem hlt, hxv]
  have hLx : Lite x := hL xs (List.mem_of_getElem? hi) x (List.mem_of_getElem? hx)
  obtain ⟨h1, h2⟩ := insText_R hLx code s
  have h3 := insText_grow hLx code (s, 0)
  have h5 := hLx.ln
  have step : ∀ k, cubbyref08_print.l1 (k + 1) L code ⟨s.toArray⟩ (i : Int) (j : Int) = (cubbyref08_word.f k x.f0 code).bind fun t164 => (cubbyref08_numbers.f k x.f0 x.f1 x.f2 x.f3 x.f4 x.f5 code).bind fun t165 => (cubbyref08_line.f k t164 x.f4 (x.f0 == 11) 1 t165).bind fun bt168 => if bt168.2 = 0 then (if (⟨s.toArray⟩ : ByteArray).size + bt168.1.size ≤ 9223372036854775807 then cubbyref08_print.l1 k L code ((⟨s.toArray⟩ : ByteArray) ++ bt168.1) (i : Int) (wrap64 ((j : Int) + 1)) else none) else some (emp, bt168.2) := fun k => by
   simp only [cubbyref08_print.l1]
   rw [zC (by omega), zC (by omega), rd_LIns_at hi, zC (by omega), zC (by omega), rd_TIns_at hx]
   rfl
  refine Ev.step step (Ev.bind (word_ev x.f0 code) (f := fun k t164 => (cubbyref08_numbers.f k x.f0 x.f1 x.f2 x.f3 x.f4 x.f5 code).bind fun t165 => (cubbyref08_line.f k t164 x.f4 (x.f0 == 11) 1 t165).bind fun bt168 => if bt168.2 = 0 then (if (⟨s.toArray⟩ : ByteArray).size + bt168.1.size ≤ 9223372036854775807 then cubbyref08_print.l1 k L code ((⟨s.toArray⟩ : ByteArray) ++ bt168.1) (i : Int) (wrap64 ((j : Int) + 1)) else none) else some (emp, bt168.2)) (Ev.bind (numbers_ev x code (by omega)) (f := fun k t165 => (cubbyref08_line.f k (wordR x.f0 code) x.f4 (x.f0 == 11) 1 t165).bind fun bt168 => if bt168.2 = 0 then (if (⟨s.toArray⟩ : ByteArray).size + bt168.1.size ≤ 9223372036854775807 then cubbyref08_print.l1 k L code ((⟨s.toArray⟩ : ByteArray) ++ bt168.1) (i : Int) (wrap64 ((j : Int) + 1)) else none) else some (emp, bt168.2)) (Ev.bind (a := prR x code) ?_ ?_)))
  ·refine line_ev _ _ _ _ _ (word_size x.f0 code) (by have := hLx.nm; omega) (nums_len x code (by omega))
  ·rw [List.foldl_cons] at hK ⊢
   by_cases h0 : (prR x code).2 = 0
   ·have e : insText code (s, 0) x = (s ++ (prR x code).1.data.toList, 0) := Prod.ext (h2 h0) (h1.trans h0)
    rw [e] at hK h3 ⊢
    have e2 : (⟨s.toArray⟩ : ByteArray) ++ (prR x code).1 = ⟨(s ++ (prR x code).1.data.toList).toArray⟩ := ba_ext (by rw [apl])
    have e3 : (⟨s.toArray⟩ : ByteArray).size = s.length := by show s.toArray.size = _; simp
    have e4 : (prR x code).1.size = (prR x code).1.data.toList.length := by simp
    have h6 : s.length + (prR x code).1.data.toList.length ≤ s.length + 20000 := by simpa using h3
    have hz : (s ++ (prR x code).1.data.toList).length ≤ 1000000000 + 20000 * (j + 1) := by have h9 : (s ++ (prR x code).1.data.toList).length = s.length + (prR x code).1.data.toList.length := List.length_append; omega
    have ih := inner hL hLL i xs hi hxl r g hg l (j + 1) (s ++ (prR x code).1.data.toList) hl2 (by omega) hz hK
    refine Ev.congr (fun k => ?_) ih
    rw [zC h0, e3, e4, zC (by omega), e2, wrap_nat (by omega)]
   ·have hne : (insText code (s, 0) x).2 ≠ 0 := by rw [h1]; exact h0
    have he := fold_err (f := insText code) (fun s x h => keep_err h) l _ hne
    rw [hg _ (by rw [he]; exact hne), he, h1]
    exact Ev.congr (fun k => by rw [zD h0]) (Ev.now _)
theorem outer (h : Light L) (code : Bool) : ∀ (l : List (List SIns)) (i : Nat) (s : List UInt8), L.drop i = l → i ≤ L.length → s.length ≤ 100000000 + 10000000 * i →
 Ev (fun k => cubbyref08_print.l0 k L code ⟨s.toArray⟩ (i : Int)) (fin (blksText code (s, 0) l))
 | [], i, s, hl, hi, hs => by
  have hil : L.length = i := by have := congrArg List.length hl; simp at this; omega
  refine ⟨1, fun k hk => ?_⟩
  obtain ⟨q, rfl⟩ : ∃ q, k = q + 1 := ⟨k - 1, by omega⟩
  simp only [cubbyref08_print.l0]
  rw [zD (by omega)]
  rfl
 | xs :: l, i, s, hl, hi, hs => by
  have hlt : i < L.length := by
   rcases Nat.lt_or_ge i L.length with h | h
   ·exact h
   ·rw [List.drop_eq_nil_of_le h] at hl; cases hl
  rw [drop_cons hlt] at hl
  simp only [List.cons.injEq] at hl
  obtain ⟨hxv, hl2⟩ := hl
  have hx : L[i]? = some xs := by rw [List.getElem?_eq_getElem hlt, hxv]
  have hxm : xs ∈ L := List.mem_of_getElem? hx
  have hLL := h.len
  have hxl : xs.length ≤ 300 := Nat.le_trans (mem_total hxm) h.tot
  have e0 : (⟨s.toArray⟩ : ByteArray).size = s.length := by show s.toArray.size = _; simp
  have e1 : (⟨s.toArray⟩ : ByteArray) ++ (⟨#[98, 108, 111, 99, 107, 10]⟩ : ByteArray) = ⟨(s ++ [98, 108, 111, 99, 107, 10]).toArray⟩ := ba_ext (by rw [apl])
  have hgr := blk_grow (code := code) xs (h.lite xs hxm) (s ++ [98, 108, 111, 99, 107, 10], 0)
  have hz : (s ++ ([98, 108, 111, 99, 107, 10] : List UInt8)).length = s.length + 6 := by rw [List.length_append]; rfl
  have hz2 : ((s ++ ([98, 108, 111, 99, 107, 10] : List UInt8), (0 : Int)).1).length = s.length + 6 := hz
  rw [hz2] at hgr
  have hi2 := inner (code := code) h.lite hLL i xs hx hxl (emp, 0) (fun s => fin (blksText code s l)) (fun s hs => by
   have := blks_err (code := code) (l := l) hs
   rw [fin_err (by rw [this]; exact hs), this]) xs 0 (s ++ [98, 108, 111, 99, 107, 10]) rfl (Nat.zero_le _) (by have := hz; omega) (fun h0 => by
    have h4 := outer h code l (i + 1) (xs.foldl (insText code) (s ++ [98, 108, 111, 99, 107, 10], 0)).1 hl2 (by omega) (by omega)
    have e : xs.foldl (insText code) (s ++ [98, 108, 111, 99, 107, 10], 0) = ((xs.foldl (insText code) (s ++ [98, 108, 111, 99, 107, 10], 0)).1, 0) := Prod.ext rfl h0
    rw [← e] at h4
    exact h4)
  refine Ev.step (fun k => ?_) hi2
  simp only [cubbyref08_print.l0]
  rw [zC (by omega), e0, zC (by omega), e1]
  rfl
end
def told (a0 : ByteArray) (a1 a2 : Int) (l : List (List SIns)) : ByteArray × Int := fin (printS a0 a1 a2 l)
def Thin (x : SIns) : Prop := x.f5.length ≤ 20 ∧ x.f4.size ≤ 256
section
variable {L : List (List SIns)}
theorem heavy_inner (i : Nat) (xs : List SIns) (hi : L[i]? = some xs) (hLL : L.length ≤ 50) (n : Nat) : ∀ (d k : Nat), xs.length - k = d → k ≤ 1000 →
 Ev (fun q => cubbylaw08_heavy.l1 q L (n : Int) (i : Int) (k : Int)) true ∨ ((∀ m x, k ≤ m → m ≤ 300 → xs[m]? = some x → Thin x) ∧ ∀ r, Ev (fun q => cubbylaw08_heavy.l0 q L (n : Int) ((i + 1 : Nat) : Int)) r → Ev (fun q => cubbylaw08_heavy.l1 q L (n : Int) (i : Int) (k : Int)) r) := by
 have hil : i < L.length := (List.getElem?_eq_some_iff.1 hi).1
 have out : ∀ (k : Nat), (∀ q, cubbylaw08_heavy.l1 (q + 1) L (n : Int) (i : Int) (k : Int) = cubbylaw08_heavy.j3 q L (n : Int) (i : Int) (k : Int) false) → ∀ r, Ev (fun q => cubbylaw08_heavy.l0 q L (n : Int) ((i + 1 : Nat) : Int)) r → Ev (fun q => cubbylaw08_heavy.l1 q L (n : Int) (i : Int) (k : Int)) r := fun k hk r hr => by
  refine Ev.step hk (Ev.step (fun q => ?_) hr)
  simp only [cubbylaw08_heavy.j3]
  rw [zD (by simp), wrap_nat (by omega)]
 intro d
 induction d with
 | zero =>
  intro k hd hk
  refine .inr ⟨fun m x hm _ hx => absurd (List.getElem?_eq_some_iff.1 hx).1 (by omega), out k (fun q => ?_)⟩
  simp only [cubbylaw08_heavy.l1]
  rw [zC (by omega), zC (by omega), rd_LIns_at hi, zD (by omega)]
 | succ d ih =>
  intro k hd hk
  have hlt : k < xs.length := by omega
  by_cases h3 : k ≤ 300
  ·obtain ⟨x, hx⟩ : ∃ x, xs[k]? = some x := ⟨_, List.getElem?_eq_getElem hlt⟩
   have st : ∀ q, cubbylaw08_heavy.l1 (q + 2) L (n : Int) (i : Int) (k : Int) = if (x.f5.length : Int) > 20 then some true else if (x.f4.size : Int) > 256 then some true else cubbylaw08_heavy.l1 q L (n : Int) (i : Int) ((k + 1 : Nat) : Int) := fun q => by
    simp only [cubbylaw08_heavy.l1]
    rw [zC (by omega), zC (by omega), rd_LIns_at hi, zC (by omega), zF (show ((k : Int) ≤ 300) by omega)]
    simp only [cubbylaw08_heavy.j3]
    rw [zC (by simp), zC (by omega), zC (by omega), zC (by omega), rd_LIns_at hi, zC (by omega), rd_TIns_at hx, wrap_nat (by omega)]
   have mk : ∀ (f : Nat → Option Bool) (r : Bool), (∀ q, cubbylaw08_heavy.l1 (q + 2) L (n : Int) (i : Int) (k : Int) = f q) → Ev f r → Ev (fun q => cubbylaw08_heavy.l1 q L (n : Int) (i : Int) (k : Int)) r := fun f r h ⟨K, hK⟩ => ⟨K + 2, fun q hq => by
    obtain ⟨p, rfl⟩ : ∃ p, q = p + 2 := ⟨q - 2, by omega⟩
    exact (h p).trans (hK p (by omega))⟩
   by_cases h4 : (x.f5.length : Int) > 20
   ·exact .inl (mk _ _ (fun q => (st q).trans (zC h4)) (Ev.now _))
   by_cases h5 : (x.f4.size : Int) > 256
   ·exact .inl (mk _ _ (fun q => (st q).trans (by rw [zD h4, zC h5])) (Ev.now _))
   have st2 : ∀ q, cubbylaw08_heavy.l1 (q + 2) L (n : Int) (i : Int) (k : Int) = cubbylaw08_heavy.l1 q L (n : Int) (i : Int) ((k + 1 : Nat) : Int) := fun q => (st q).trans (by rw [zD h4, zD h5])
   rcases ih (k + 1) (by omega) (by omega) with h | ⟨h1, h2⟩
   ·exact .inl (mk _ _ st2 h)
   ·refine .inr ⟨fun m y hm hm3 hy => ?_, fun r hr => mk _ _ st2 (h2 r hr)⟩
    rcases Nat.lt_or_ge k m with h | h
    ·exact h1 m y (by omega) hm3 hy
    ·obtain rfl : k = m := by omega
     rw [hx] at hy
     injection hy with hy
     rw [← hy]
     exact ⟨by omega, by omega⟩
  ·refine .inr ⟨fun m x hm hm3 _ => absurd hm3 (by omega), out k (fun q => ?_)⟩
   simp only [cubbylaw08_heavy.l1]
   rw [zC (by omega), zC (by omega), rd_LIns_at hi, zC (by omega), zG (show ¬ ((k : Int) ≤ 300) by omega)]
theorem heavy_outer (hLL : L.length ≤ 50) : ∀ (l : List (List SIns)) (i n : Nat), L.drop i = l → i ≤ L.length → n ≤ 10000000 →
 ∃ b, Ev (fun q => cubbylaw08_heavy.l0 q L (n : Int) (i : Int)) b ∧ (b = false → n + total l ≤ 300 ∧ ∀ xs ∈ l, ∀ x ∈ xs, Thin x)
 | [], i, n, hl, hi, hn => by
  have hil : L.length = i := by have := congrArg List.length hl; simp at this; omega
  refine ⟨decide ((n : Int) > 300), Ev.step (f := fun q => cubbylaw08_heavy.j1 q L (n : Int) (i : Int) false) (fun q => by simp only [cubbylaw08_heavy.l0]; rw [zD (by omega)]) (Ev.step (f := fun _ => some (decide ((n : Int) > 300))) (fun q => by simp only [cubbylaw08_heavy.j1]; rw [zD (by simp)]) (Ev.now _)), fun h => ⟨?_, fun xs hx => by cases hx⟩⟩
  have := of_decide_eq_false h
  simp [total]; omega
 | xs :: l, i, n, hl, hi, hn => by
  have hlt : i < L.length := by
   rcases Nat.lt_or_ge i L.length with h | h
   ·exact h
   ·rw [List.drop_eq_nil_of_le h] at hl; cases hl
  rw [drop_cons hlt] at hl
  simp only [List.cons.injEq] at hl
  obtain ⟨hxv, hl2⟩ := hl
  have hx : L[i]? = some xs := by rw [List.getElem?_eq_getElem hlt, hxv]
  have et : total (xs :: l) = xs.length + total l := by simp [total]
  by_cases h3 : n ≤ 300
  ·have hmn : mn ((xs.length : Nat) : Int) 1048576 = ((min xs.length 1048576 : Nat) : Int) := by
    unfold mn
    split <;> omega
   have st : ∀ r, Ev (fun q => cubbylaw08_heavy.l1 q L ((n + min xs.length 1048576 : Nat) : Int) (i : Int) ((0 : Nat) : Int)) r → Ev (fun q => cubbylaw08_heavy.l0 q L (n : Int) (i : Int)) r := fun r hr => by
    refine Ev.step (f := fun q => cubbylaw08_heavy.j1 q L (n : Int) (i : Int) true) (fun q => by simp only [cubbylaw08_heavy.l0]; rw [zC (by omega), zF (show ((n : Int) ≤ 300) by omega)]) (Ev.step (fun q => ?_) hr)
    simp only [cubbylaw08_heavy.j1]
    rw [zC (by simp), zC (by omega), zC (by omega), rd_LIns_at hx, hmn, wrap_id (by omega) (by omega)]
    rfl
   rcases heavy_inner i xs hx hLL (n + min xs.length 1048576) _ 0 rfl (by omega) with h | ⟨h1, h2⟩
   ·exact ⟨true, st _ h, fun h => by cases h⟩
   ·obtain ⟨b, hb, hb2⟩ := heavy_outer hLL l (i + 1) (n + min xs.length 1048576) hl2 (by omega) (by omega)
    refine ⟨b, st _ (h2 b hb), fun h => ?_⟩
    obtain ⟨h5, h6⟩ := hb2 h
    have h7 : xs.length ≤ 300 := by omega
    refine ⟨by rw [et]; omega, fun ys hys => ?_⟩
    rcases List.mem_cons.1 hys with rfl | hys
    ·intro x hxm
     obtain ⟨m, hm⟩ := List.getElem?_of_mem hxm
     have := (List.getElem?_eq_some_iff.1 hm).1
     exact h1 m x (Nat.zero_le _) (by omega) hm
    ·exact h6 ys hys
  ·refine ⟨true, Ev.step (f := fun q => cubbylaw08_heavy.j1 q L (n : Int) (i : Int) false) (fun q => by simp only [cubbylaw08_heavy.l0]; rw [zC (by omega), zG (show ¬ ((n : Int) ≤ 300) by omega)]) (Ev.step (f := fun _ => some true) (fun q => by simp only [cubbylaw08_heavy.j1]; rw [zD (by simp), zF (show ((n : Int) > 300) by omega)]) (Ev.now _)), fun h => by cases h⟩
end
theorem heavy_ev (l : List (List SIns)) : ∃ b, Ev (fun q => cubbylaw08_heavy.f q l) b ∧ (b = false → l.length ≤ 50 ∧ total l ≤ 300 ∧ ∀ xs ∈ l, ∀ x ∈ xs, Thin x) := by
 by_cases h : (l.length : Int) > 50
 ·exact ⟨true, Ev.congr (f := fun _ => some true) (fun q => by unfold cubbylaw08_heavy.f; rw [zC h]) (Ev.now _), fun h => by cases h⟩
 ·obtain ⟨b, hb, hb2⟩ := heavy_outer (L := l) (by omega) l 0 0 rfl (Nat.zero_le _) (by omega)
  refine ⟨b, Ev.congr (fun q => by unfold cubbylaw08_heavy.f; rw [zD h]; rfl) hb, fun h2 => ⟨by omega, ?_⟩⟩
  have := hb2 h2
  exact ⟨by omega, this.2⟩
end Go.Proofs.YtniknpjeknmpjaaGreatDoor.PlainText
namespace Go.Proofs.YtniknpjeknmpjaaGreatDoor.Q
open Go.RowKit Go.Shelf Go.Proofs.YtniknpjeknmpjaaGreatDoor.Plain Go.Proofs.YtniknpjeknmpjaaGreatDoor.PlainName Go.Proofs.YtniknpjeknmpjaaGreatDoor.PlainNum Go.Proofs.YtniknpjeknmpjaaGreatDoor.PlainText Go.Proofs.YtniknpjeknmpjaaGreatDoorW.PrintWords Go.Proofs.YtniknpjeknmpjaaGreatDoorW.PrintLast Go.Proofs.YtniknpjeknmpjaaGreatDoorW.PrintMore
set_option linter.unusedVariables false
set_option linter.unusedSimpArgs false
theorem indexByte_first : ∀ (l : List UInt8) (b : UInt8) (e : Nat), l[e]? = some b → (∀ j, j < e → l[j]? ≠ some b) → Lib.indexByte l b = (e : Int)
 | [], b, e, h, _ => by simp at h
 | c :: l, b, e, h, hn => by
  unfold Lib.indexByte
  by_cases hc : c = b
  ·rw [zC (by simpa using hc)]
   cases e with
   | zero => rfl
   | succ e => exact absurd (show (c :: l)[0]? = some b by simp [hc]) (hn 0 (by omega))
  ·rw [zD (by simpa using hc)]
   cases e with
   | zero => simp at h; exact absurd h hc
   | succ e =>
    have := indexByte_first l b e (by simpa using h) (fun j hj => by have := hn (j + 1) (by omega); simpa using this)
    rw [this, zD (by first | (simp; done) | (simp; omega))]
    omega
theorem cut_found {s : ByteArray} {e : Nat} (h : s.data.toList[e]? = some 10) (hn : ∀ j, j < e → s.data.toList[j]? ≠ some 10) : wholeB (cutB s).1 = true ∧ trimB (cutB s).1 = s.extract 0 e ∧ (cutB s).2 = s.extract (e + 1) s.size := by
 have hi := indexByte_first _ _ _ h hn
 rw [cutB_pos hi]
 have hlt : e < s.data.toList.length := (List.getElem?_eq_some_iff.1 h).1
 have hg : s.data.toList[e] = 10 := (List.getElem?_eq_some_iff.1 h).2
 have hd : (s.extract 0 (e + 1)).data.toList = s.data.toList.take e ++ [10] := by
  rw [ByteArray.data_extract, Array.toList_extract, List.extract_eq_take_drop, List.drop_zero, Nat.sub_zero, List.take_succ_eq_append_getElem hlt, hg]
 refine ⟨?_, ?_, rfl⟩
 ·show Lib.hasSuffix (s.extract 0 (e + 1)).data.toList [10] = true
  rw [hd]
  unfold Lib.hasSuffix
  exact List.isSuffixOf_iff_suffix.2 ⟨_, rfl⟩
 ·apply ba_ext
  show (Lib.trimSuffix (s.extract 0 (e + 1)).data.toList [10]).toArray.toList = _
  rw [hd, List.toList_toArray, ByteArray.data_extract, Array.toList_extract, List.extract_eq_take_drop, List.drop_zero, Nat.sub_zero]
  unfold Lib.trimSuffix Lib.hasSuffix
  rw [zC (List.isSuffixOf_iff_suffix.2 ⟨_, rfl⟩)]
  simp
end Go.Proofs.YtniknpjeknmpjaaGreatDoor.Q
namespace Go.Proofs.YtniknpjeknmpjaaGreatDoor.PlainText
open Go Go.RowKit Go.Proofs.YtniknpjeknmpjaaGreatDoorW.PrintWords Go.Proofs.YtniknpjeknmpjaaGreatDoorW.PrintMore Go.Proofs.YtniknpjeknmpjaaGreatDoor.Q Go.Proofs.YtniknpjeknmpjaaGreatDoor.Plain Go.Proofs.YtniknpjeknmpjaaGreatDoor.PlainNum Go.Proofs.YtniknpjeknmpjaaGreatDoor.PlainName
set_option linter.unusedVariables false
set_option linter.unusedSimpArgs false
def PartGood : Part → Prop
 | .num n => good n = true
 | .nm s => nameOk s = true
theorem part_num {n : Int} (h : good n = true) : Part.str (.num n) = num n := by
 have hg : 0 ≤ n ∧ n < 2147483648 := by simpa [good] using h
 exact itoa_num hg.1
theorem part_read {n : Int} (h : good n = true) : numOf (Part.str (.num n)) = some n := by
 have hg : 0 ≤ n ∧ n < 2147483648 := by simpa [good] using h
 rw [part_num h]
 exact numOf_num hg.1 hg.2
def copyF (x y : SIns) (c : UInt8) : SIns :=
 if c = 78 then { y with f4 := x.f4 } else if c = 76 then { y with f5 := y.f5 ++ x.f5 } else if c = 68 then { y with f1 := x.f1 } else if c = 65 then { y with f2 := x.f2 } else if c = 66 then { y with f3 := x.f3 } else y
theorem nums_mapM : ∀ (l : List Int), (∀ n ∈ l, good n = true) → ((l.map Part.num).map Part.str).mapM numOf = some l
 | [], _ => rfl
 | n :: l, h => by
  rw [List.map_cons, List.map_cons, List.mapM_cons, part_read (h n List.mem_cons_self), nums_mapM l (fun m hm => h m (List.mem_cons_of_mem _ hm))]
  rfl
theorem at_pre (pre : List ByteArray) (t : ByteArray) (r : List ByteArray) : (pre ++ t :: r)[pre.length]? = some t := by
 rw [List.getElem?_append_right (Nat.le_refl _), Nat.sub_self]; rfl
theorem fill_back (x : SIns) : ∀ (fs : List UInt8) (pre : List ByteArray) (y : SIns), (∀ c ∈ fs, c = 68 ∨ c = 65 ∨ c = 66 ∨ c = 78 ∨ c = 76) → (76 : UInt8) ∉ fs.dropLast → (∀ p ∈ partsOf x fs, PartGood p) →
 fillR (pre ++ (partsOf x fs).map Part.str) fs pre.length y = (0, fs.foldl (copyF x) y)
 | [], pre, y, _, _, _ => rfl
 | c :: r, pre, y, hc, hL, hg => by
  have hp : partsOf x (c :: r) = fieldParts x c ++ partsOf x r := List.flatMap_cons
  have hcr : ∀ d ∈ r, d = 68 ∨ d = 65 ∨ d = 66 ∨ d = 78 ∨ d = 76 := fun d hd => hc d (List.mem_cons_of_mem _ hd)
  have hLr : (76 : UInt8) ∉ r.dropLast := by
   cases r with
   | nil => simp
   | cons d r => exact fun h => hL (by rw [List.dropLast_cons_cons]; exact List.mem_cons_of_mem _ h)
  rw [hp] at hg ⊢
  have hgr : ∀ p ∈ partsOf x r, PartGood p := fun p h => hg p (List.mem_append_right _ h)
  have num1 : ∀ (n : Int), ¬ c = 78 → ¬ c = 76 → fieldParts x c = [.num n] → setF c n y = copyF x y c → fillR (pre ++ (fieldParts x c ++ partsOf x r).map Part.str) (c :: r) pre.length y = (0, (c :: r).foldl (copyF x) y) := by
   intro n h1 h2 h3 h4
   have hn : good n = true := hg (.num n) (List.mem_append_left _ (by rw [h3]; exact List.mem_cons_self))
   have ih := fill_back x r (pre ++ [Part.str (.num n)]) (copyF x y c) hcr hLr hgr
   rw [List.append_assoc, List.length_append] at ih
   rw [h3]
   show fillR (pre ++ Part.str (.num n) :: (partsOf x r).map Part.str) _ _ _ = _
   rw [fillR_num h1 h2 (at_pre pre _ _), part_read hn]
   dsimp only
   rw [h4]
   exact ih
  rcases hc c List.mem_cons_self with rfl | rfl | rfl | rfl | rfl
  ·exact num1 x.f1 (by decide) (by decide) rfl rfl
  ·exact num1 x.f2 (by decide) (by decide) rfl rfl
  ·exact num1 x.f3 (by decide) (by decide) rfl rfl
  ·have hn : nameOk x.f4 = true := hg (.nm x.f4) (List.mem_append_left _ List.mem_cons_self)
   have ih := fill_back x r (pre ++ [x.f4]) (copyF x y 78) hcr hLr hgr
   rw [List.append_assoc, List.length_append] at ih
   show fillR (pre ++ x.f4 :: (partsOf x r).map Part.str) _ _ _ = _
   rw [fillR_name (at_pre pre _ _), zC hn]
   exact ih
  ·have hr : r = [] := by
    cases r with
    | nil => rfl
    | cons d r => exact absurd (by rw [List.dropLast_cons_cons]; exact List.mem_cons_self) hL
   subst hr
   have hf : fieldParts x 76 ++ partsOf x [] = x.f5.map .num := List.append_nil _
   rw [hf] at hg ⊢
   rw [fillR_list, List.drop_left, nums_mapM x.f5 (fun n hn => hg (.num n) (List.mem_map.2 ⟨n, hn, rfl⟩))]
   rfl
theorem form_of {op o : Int} {code : Bool} {wd fs : ByteArray} (h : text_of.f op code = some (o, wd, fs, true)) :
 o = op ∧ (∀ c ∈ fs.data.toList, c = 68 ∨ c = 65 ∨ c = 66 ∨ c = 78 ∨ c = 76) ∧ (76 : UInt8) ∉ fs.data.toList.dropLast ∧ (32 : UInt8) ∉ wd.data.toList ∧ (10 : UInt8) ∉ wd.data.toList ∧ wd.data.toList ≠ [98, 108, 111, 99, 107] ∧ fs.size ≤ 3 ∧ wd.size ≤ 6 ∧ 0 ≤ op ∧ op < 23 ∧ (openF fs = false → (76 : UInt8) ∉ fs.data.toList) := by
 rcases op_cases op with rfl | rfl | rfl | rfl | rfl | rfl | rfl | rfl | rfl | rfl | rfl | rfl | rfl | rfl | rfl | rfl | rfl | ho
 case inr.inr.inr.inr.inr.inr.inr.inr.inr.inr.inr.inr.inr.inr.inr.inr.inr =>
  rw [text_of_none (.inr ho)] at h
  cases h
 all_goals
  cases code
  all_goals
   first
    | (cases h; done)
    | (injection h with h
       simp only [Prod.mk.injEq] at h
       obtain ⟨rfl, rfl, rfl, -⟩ := h
       exact ⟨rfl, by decide, by decide, by decide, by decide, by decide, by decide, by decide, by decide, by decide, by decide⟩)
theorem byFrom_none {wd : ByteArray} {code : Bool} : ∀ {k : Nat} {i : Int}, byFrom wd code k i = none → ∀ j, i ≤ j → j < i + k → isBy wd code j = none
 | 0, i, h, j, h1, h2 => by omega
 | k + 1, i, h, j, h1, h2 => by
  unfold byFrom at h
  split at h
  ·cases h
  ·next hn =>
   by_cases e : j = i
   ·rw [e]; exact hn
   ·exact byFrom_none h j (by omega) (by omega)
theorem by_back {op : Int} {code : Bool} {wd fs : ByteArray} (h : text_of.f op code = some (op, wd, fs, true)) : byOf wd code = some (op, wd, fs) := by
 obtain ⟨-, h2, h3⟩ := of_word h
 obtain ⟨-, -, -, -, -, -, -, -, h4, h5, -⟩ := form_of h
 have hb : isBy wd code op = some (op, wd, fs) := by rw [isBy_true h, zC rfl]
 cases hn : byOf wd code with
 | none =>
  have := byFrom_none hn op h4 (by omega)
  rw [hb] at this; cases this
 | some r =>
  obtain ⟨j, -, -, hj⟩ := byFrom_some hn
  obtain ⟨-, q2, -⟩ := isBy_some hj
  rw [h2] at q2
  subst q2
  rw [hb] at hj
  exact hj.symm
theorem words_flat : ∀ (ps : List (List UInt8)) (w : List UInt8), (32 : UInt8) ∉ w → (∀ p ∈ ps, (32 : UInt8) ∉ p) → wordsL (w ++ ps.flatMap (fun p => 32 :: p)) = w :: ps
 | [], w, h, _ => by rw [List.flatMap_nil, List.append_nil]; exact wordsL_one h
 | p :: ps, w, h, hp => by
  rw [List.flatMap_cons, List.cons_append, wordsL_cons _ h, words_flat ps p (hp p List.mem_cons_self) (fun q hq => hp q (List.mem_cons_of_mem _ hq))]
theorem low_no {s : ByteArray} (h : nameOk s = true) (b : UInt8) (hb : b = 32 ∨ b = 10) : b ∉ s.data.toList := by
 unfold nameOk at h
 simp only [Bool.and_eq_true] at h
 intro hm
 have := List.all_eq_true.1 h.2 b hm
 rcases hb with rfl | rfl <;> simp [lowD] at this
theorem part_no {p : Part} (h : PartGood p) (b : UInt8) (hb : b = 32 ∨ b = 10) : b ∉ p.str.data.toList := by
 cases p with
 | num n =>
  rw [show (Part.num n).str = num n from part_num h, num_list]
  intro hm
  have := dec_mem n.toNat b hm
  rcases hb with rfl | rfl <;> simp at this
 | nm s => exact low_no h b hb
def bodyB (wd : ByteArray) (ps : List Part) : List UInt8 := wd.data.toList ++ ps.flatMap (fun p => 32 :: p.str.data.toList)
theorem body_words {wd : ByteArray} {ps : List Part} (h : (32 : UInt8) ∉ wd.data.toList) (hp : ∀ p ∈ ps, PartGood p) : wordsOf ⟨(bodyB wd ps).toArray⟩ = wd :: ps.map Part.str := by
 refine wordsOf_of ?_
 have := words_flat (ps.map fun p => p.str.data.toList) wd.data.toList h (fun q hq => by
  obtain ⟨p, hm, rfl⟩ := List.mem_map.1 hq
  exact part_no (hp p hm) 32 (.inl rfl))
 rw [List.flatMap_map] at this
 show _ = wordsL (bodyB wd ps)
 unfold bodyB
 rw [this]
 simp [bytesOfL]
theorem body_no10 {wd : ByteArray} {ps : List Part} (h : (10 : UInt8) ∉ wd.data.toList) (hp : ∀ p ∈ ps, PartGood p) : (10 : UInt8) ∉ bodyB wd ps := by
 unfold bodyB
 intro hm
 rcases List.mem_append.1 hm with hm | hm
 ·exact h hm
 ·obtain ⟨p, hpm, hm⟩ := List.mem_flatMap.1 hm
  rcases List.mem_cons.1 hm with hm | hm
  ·exact absurd hm (by decide)
  ·exact part_no (hp p hpm) 10 (.inr rfl) hm
def stepW (n : Nat) (st : PS) (ws : List ByteArray) : Int × PS := if n = 0 then topP st ws else lineP st ws
theorem step_cut (n : Nat) (st : PS) (b rest : List UInt8) (h : (10 : UInt8) ∉ b) : stepP n st (cutB ⟨(b ++ 10 :: rest).toArray⟩).1 = stepW n st (wordsOf ⟨b.toArray⟩) ∧ (cutB ⟨(b ++ 10 :: rest).toArray⟩).2 = ⟨rest.toArray⟩ := by
 have hd : (⟨(b ++ 10 :: rest).toArray⟩ : ByteArray).data.toList = b ++ 10 :: rest := rfl
 have h1 : (⟨(b ++ 10 :: rest).toArray⟩ : ByteArray).data.toList[b.length]? = some 10 := by
  rw [hd, List.getElem?_append_right (Nat.le_refl _), Nat.sub_self]; rfl
 have h2 : ∀ j, j < b.length → (⟨(b ++ 10 :: rest).toArray⟩ : ByteArray).data.toList[j]? ≠ some 10 := fun j hj he => by
  rw [hd, List.getElem?_append_left hj] at he
  exact h (List.mem_of_getElem? he)
 obtain ⟨q1, q2, q3⟩ := cut_found h1 h2
 have e1 : (⟨(b ++ 10 :: rest).toArray⟩ : ByteArray).extract 0 b.length = ⟨b.toArray⟩ := ba_ext (by
  rw [ex_list, hd]; simp)
 have e2 : (⟨(b ++ 10 :: rest).toArray⟩ : ByteArray).extract (b.length + 1) (⟨(b ++ 10 :: rest).toArray⟩ : ByteArray).size = ⟨rest.toArray⟩ := ba_ext (by
  rw [ex_list, hd]
  have hz : (⟨(b ++ 10 :: rest).toArray⟩ : ByteArray).size = b.length + 1 + rest.length := by show (b ++ 10 :: rest).toArray.size = _; simp; omega
  rw [hz, show b ++ 10 :: rest = (b ++ [10]) ++ rest by simp, List.drop_append_of_le_length (by simp)]
  rw [List.drop_eq_nil_of_le (by simp)]
  simp)
 refine ⟨?_, q3.trans e2⟩
 unfold stepP stepW
 rw [q1, zD (by decide), q2, e1]
def Runs (st : PS) (n : Nat) (t : List UInt8) (st' : PS) (m : Nat) : Prop := m ≤ t.length ∧ ∀ (k : Nat) (rest : List UInt8), parseR (k + m) n st ⟨(t ++ rest).toArray⟩ = parseR k (n + m) st' ⟨rest.toArray⟩
theorem Runs.none (st : PS) (n : Nat) : Runs st n [] st 0 := ⟨Nat.le_refl _, fun k rest => rfl⟩
theorem Runs.more {st st1 st2 : PS} {n m1 m2 : Nat} {t1 t2 : List UInt8} (h1 : Runs st n t1 st1 m1) (h2 : Runs st1 (n + m1) t2 st2 m2) : Runs st n (t1 ++ t2) st2 (m1 + m2) := ⟨by rw [List.length_append]; exact Nat.add_le_add h1.1 h2.1, fun k rest => by
 rw [List.append_assoc, show k + (m1 + m2) = (k + m2) + m1 by omega, h1.2 (k + m2) (t2 ++ rest), h2.2 k rest, Nat.add_assoc]⟩
theorem Runs.one {st st' : PS} {n : Nat} {b : List UInt8} (hb : (10 : UInt8) ∉ b) (h : stepW n st (wordsOf ⟨b.toArray⟩) = (0, st')) : Runs st n (b ++ [10]) st' 1 := ⟨by simp, fun k rest => by
 rw [List.append_assoc, List.singleton_append]
 obtain ⟨q1, q2⟩ := step_cut n st b rest hb
 rw [h] at q1
 conv => lhs; unfold parseR
 have hz : ¬ (⟨(b ++ 10 :: rest).toArray⟩ : ByteArray).size = 0 := by
  show ¬ (b ++ 10 :: rest).toArray.size = 0
  simp
 rw [zD hz, q1, zC rfl, q2]⟩
def normI (code : Bool) (x : SIns) : SIns := match text_of.f x.f0 code with
 | some (op, _, fs, true) => fs.data.toList.foldl (copyF x) (insOp op)
 | _ => x
def putL (st : PS) (x : SIns) : PS := { st with blocks := st.blocks.set (st.blocks.length - 1) (st.blocks.getD (st.blocks.length - 1) [] ++ [x]) }
theorem errs_good : ∀ (ps : List Part) (e : Int), errsOf e ps = 0 → e = 0 ∧ ∀ p ∈ ps, p.err = 0
 | [], e, h => ⟨h, fun p hp => by cases hp⟩
 | p :: ps, e, h => by
  have h1 : errsOf e (p :: ps) = errsOf (keepE e p.err) ps := rfl
  rw [h1] at h
  obtain ⟨q1, q2⟩ := errs_good ps _ h
  unfold keepE at q1
  split at q1
  ·next h0 =>
   refine ⟨h0, fun p' hp => ?_⟩
   rcases List.mem_cons.1 hp with rfl | hp
   ·exact q1
   ·exact q2 p' hp
  ·next h0 => exact absurd q1 h0
theorem name_good (nb : Bool) : ∀ (fs : List UInt8) (e : Int), nameErr nb e fs = 0 → e = 0 ∧ ((78 : UInt8) ∈ fs → nb = true)
 | [], e, h => ⟨h, fun h => by cases h⟩
 | c :: fs, e, h => by
  have h1 : nameErr nb e (c :: fs) = nameErr nb (if c = 78 then (if nb then e else keepE e 80) else e) fs := rfl
  rw [h1] at h
  obtain ⟨q1, q2⟩ := name_good nb fs _ h
  cases nb with
  | true => exact ⟨by simpa using q1, fun _ => rfl⟩
  | false =>
   by_cases hc : c = 78
   ·rw [zC hc, zD (by decide)] at q1
    unfold keepE at q1
    split at q1
    ·exact absurd q1 (by decide)
    ·next h0 => exact absurd q1 h0
   ·rw [zD hc] at q1
    refine ⟨q1, fun hm => ?_⟩
    rcases List.mem_cons.1 hm with rfl | hm
    ·exact absurd rfl hc
    ·exact q2 hm
theorem parts_good {x : SIns} {fs : List UInt8} (h : errsOf (nameErr (nameOk x.f4) 0 fs) (partsOf x fs) = 0) : ∀ p ∈ partsOf x fs, PartGood p := by
 obtain ⟨h1, h2⟩ := errs_good _ _ h
 obtain ⟨-, h3⟩ := name_good _ _ _ h1
 intro p hp
 cases p with
 | num n =>
  have := h2 _ hp
  rw [err_num] at this
  show good n = true
  cases hg : good n with
  | true => rfl
  | false => rw [hg] at this; exact absurd this (by decide)
 | nm s =>
  obtain ⟨c, hc, hp⟩ := List.mem_flatMap.1 hp
  unfold fieldParts at hp
  split at hp
  ·cases List.mem_singleton.1 hp
  split at hp
  ·cases List.mem_singleton.1 hp
  split at hp
  ·cases List.mem_singleton.1 hp
  split at hp
  ·next h78 =>
   cases List.mem_singleton.1 hp
   exact h3 (h78 ▸ hc)
  split at hp
  ·obtain ⟨n, -, e⟩ := List.mem_map.1 hp
   cases e
  ·cases hp
theorem parts_size (x : SIns) : ∀ fs : List UInt8, (∀ c ∈ fs, c = 68 ∨ c = 65 ∨ c = 66 ∨ c = 78 ∨ c = 76) → (76 : UInt8) ∉ fs → (partsOf x fs).length = fs.length
 | [], _, _ => rfl
 | c :: r, h, h76 => by
  have ih := parts_size x r (fun d hd => h d (List.mem_cons_of_mem _ hd)) (fun hm => h76 (List.mem_cons_of_mem _ hm))
  rw [show partsOf x (c :: r) = fieldParts x c ++ partsOf x r from List.flatMap_cons, List.length_append, ih, List.length_cons]
  rcases h c List.mem_cons_self with rfl | rfl | rfl | rfl | rfl
  ·show 1 + _ = _; omega
  ·show 1 + _ = _; omega
  ·show 1 + _ = _; omega
  ·show 1 + _ = _; omega
  ·exact absurd List.mem_cons_self h76
theorem parts_least (x : SIns) : ∀ fs : List UInt8, (∀ c ∈ fs, c = 68 ∨ c = 65 ∨ c = 66 ∨ c = 78 ∨ c = 76) → (76 : UInt8) ∉ fs.dropLast → fs.length ≤ (partsOf x fs).length + 1
 | [], _, _ => by simp
 | [c], _, _ => by simp
 | c :: d :: r, h, h76 => by
  have ih := parts_least x (d :: r) (fun e hd => h e (List.mem_cons_of_mem _ hd)) (fun hm => h76 (by rw [List.dropLast_cons_cons]; exact List.mem_cons_of_mem _ hm))
  rw [show partsOf x (c :: d :: r) = fieldParts x c ++ partsOf x (d :: r) from List.flatMap_cons, List.length_append, List.length_cons]
  have : (fieldParts x c).length = 1 := by
   rcases h c List.mem_cons_self with rfl | rfl | rfl | rfl | rfl
   ·rfl
   ·rfl
   ·rfl
   ·rfl
   ·exact absurd (by rw [List.dropLast_cons_cons]; exact List.mem_cons_self) h76
  omega
theorem ins_runs {code : Bool} {x : SIns} {s : List UInt8} {st : PS} {n : Nat} (hn : n ≠ 0) (hc : st.code = code) (hb : st.blocks ≠ []) (h : (insText code (s, 0) x).2 = 0) :
 ∃ t, (insText code (s, 0) x).1 = s ++ t ∧ Runs st n t (putL st (normI code x)) 1 := by
 subst hc
 obtain ⟨⟨o, wd, fs, is⟩, hof⟩ := text_of_total x.f0 st.code
 cases is with
 | false =>
  unfold insText at h
  rw [hof] at h
  exact absurd h (show ¬ keepE 0 80 = 0 by decide)
 | true =>
  obtain ⟨rfl, f1, f2, f3, f4, f5, -, -, -, -, f6⟩ := form_of hof
  have e : insText st.code (s, 0) x = (s ++ lineBytes wd (partsOf x fs.data.toList), errsOf (nameErr (nameOk x.f4) 0 fs.data.toList) (partsOf x fs.data.toList)) := by
   unfold insText; rw [hof]; dsimp only; rw [name_eq]; rfl
  rw [e] at h ⊢
  have hg := parts_good h
  refine ⟨_, rfl, ?_⟩
  rw [lineBytes_flat]
  refine Runs.one (b := bodyB wd (partsOf x fs.data.toList)) (body_no10 f4 hg) ?_
  rw [body_words f3 hg]
  unfold stepW
  rw [zD hn]
  unfold lineP
  have hsz : fs.data.toList.length = fs.size := by simp
  have hfill := fill_back x fs.data.toList [] (insOp x.f0) f1 f2 hg
  simp only [List.nil_append, List.length_nil] at hfill
  have hnb : ¬ (wd.toList = [98, 108, 111, 99, 107] ∧ (partsOf x fs.data.toList).map Part.str = []) := fun hh => f5 (by rw [← toList_data]; exact hh.1)
  have hcnt : ¬ (openF fs = false ∧ ((partsOf x fs.data.toList).map Part.str).length ≠ fs.size ∨ openF fs = true ∧ ((partsOf x fs.data.toList).map Part.str).length + 1 < fs.size) := by
   rw [List.length_map]
   rintro (⟨h1, h2⟩ | ⟨h1, h2⟩)
   ·exact h2 (by rw [parts_size x _ f1 (f6 h1), hsz])
   ·have := parts_least x _ f1 f2; omega
  simp only [zD hnb, by_back hof, zD hb, zD hcnt, hfill, if_true]
  have hnm : normI st.code x = fs.data.toList.foldl (copyF x) (insOp x.f0) := by unfold normI; rw [hof]
  rw [hnm]
  rfl
theorem block_runs {st : PS} {n : Nat} (hn : n ≠ 0) : Runs st n [98, 108, 111, 99, 107, 10] { st with blocks := st.blocks ++ [[]] } 1 := by
 refine Runs.one (b := [98, 108, 111, 99, 107]) (by decide) ?_
 have e : wordsOf ⟨([98, 108, 111, 99, 107] : List UInt8).toArray⟩ = [⟨#[98, 108, 111, 99, 107]⟩] := wordsOf_of (by decide)
 rw [e]
 unfold stepW
 rw [zD hn]
 have : (⟨#[98, 108, 111, 99, 107]⟩ : ByteArray).toList = [98, 108, 111, 99, 107] := by rw [toList_data]
 exact zC ⟨this, rfl⟩
theorem put_snoc (st : PS) (bs : List (List SIns)) (b : List SIns) (x : SIns) (h : st.blocks = bs ++ [b]) : putL st x = { st with blocks := bs ++ [b ++ [x]] } := by
 unfold putL
 rw [h]
 congr 1
 have hl : (bs ++ [b]).length - 1 = bs.length := by simp
 rw [hl, List.getD_eq_getElem?_getD, List.getElem?_append_right (Nat.le_refl _), Nat.sub_self]
 rw [List.set_append_right _ _ (Nat.le_refl _), Nat.sub_self]
 rfl
theorem inss_runs {code : Bool} : ∀ (xs : List SIns) (s : List UInt8) (st : PS) (bs : List (List SIns)) (b : List SIns) (n : Nat), n ≠ 0 → st.code = code → st.blocks = bs ++ [b] → (xs.foldl (insText code) (s, 0)).2 = 0 →
 ∃ t, (xs.foldl (insText code) (s, 0)).1 = s ++ t ∧ Runs st n t { st with blocks := bs ++ [b ++ xs.map (normI code)] } xs.length
 | [], s, st, bs, b, n, hn, hc, hb, h => ⟨[], (List.append_nil _).symm, by
  have : ({ st with blocks := bs ++ [b ++ ([] : List SIns).map (normI code)] } : PS) = st := by rw [List.map_nil, List.append_nil, ← hb]
  rw [this]
  exact Runs.none st n⟩
 | x :: xs, s, st, bs, b, n, hn, hc, hb, h => by
  rw [List.foldl_cons] at h ⊢
  have h0 : (insText code (s, 0) x).2 = 0 := by
   by_cases h0 : (insText code (s, 0) x).2 = 0
   ·exact h0
   ·rw [fold_err (fun s x h => keep_err h) xs _ h0] at h; exact absurd h h0
  obtain ⟨t1, e1, r1⟩ := ins_runs (st := st) (n := n) hn hc (by rw [hb]; simp) h0
  have e0 : insText code (s, 0) x = (s ++ t1, 0) := Prod.ext e1 h0
  rw [e0] at h ⊢
  rw [put_snoc st bs b _ hb] at r1
  obtain ⟨t2, e2, r2⟩ := inss_runs xs (s ++ t1) { st with blocks := bs ++ [b ++ [normI code x]] } bs (b ++ [normI code x]) (n + 1) (by omega) hc rfl h
  refine ⟨t1 ++ t2, by rw [e2, List.append_assoc], ?_⟩
  have := r1.more r2
  rw [List.length_cons, Nat.add_comm xs.length 1, List.map_cons, show b ++ normI code x :: xs.map (normI code) = b ++ [normI code x] ++ xs.map (normI code) by simp]
  exact this
theorem blks_runs {code : Bool} : ∀ (l : List (List SIns)) (s : List UInt8) (st : PS) (n : Nat), n ≠ 0 → st.code = code → (blksText code (s, 0) l).2 = 0 →
 ∃ t, (blksText code (s, 0) l).1 = s ++ t ∧ Runs st n t { st with blocks := st.blocks ++ l.map (fun xs => xs.map (normI code)) } (l.length + total l)
 | [], s, st, n, hn, hc, h => ⟨[], (List.append_nil _).symm, by
  have : ({ st with blocks := st.blocks ++ ([] : List (List SIns)).map (fun xs => xs.map (normI code)) } : PS) = st := by rw [List.map_nil, List.append_nil]
  rw [this]
  exact Runs.none st n⟩
 | xs :: l, s, st, n, hn, hc, h => by
  have e1 : blksText code (s, 0) (xs :: l) = blksText code (blkText code (s, 0) xs) l := rfl
  rw [e1] at h ⊢
  have h0 : (blkText code (s, 0) xs).2 = 0 := by
   by_cases h0 : (blkText code (s, 0) xs).2 = 0
   ·exact h0
   ·rw [blks_err h0] at h; exact absurd h h0
  have r0 := block_runs (st := st) (n := n) hn
  obtain ⟨t1, q1, r1⟩ := inss_runs (code := code) xs (s ++ [98, 108, 111, 99, 107, 10]) { st with blocks := st.blocks ++ [[]] } st.blocks [] (n + 1) (by omega) hc rfl h0
  have e0 : blkText code (s, 0) xs = (s ++ [98, 108, 111, 99, 107, 10] ++ t1, 0) := Prod.ext q1 h0
  rw [e0] at h ⊢
  obtain ⟨t2, q2, r2⟩ := blks_runs l (s ++ [98, 108, 111, 99, 107, 10] ++ t1) { st with blocks := st.blocks ++ [[] ++ xs.map (normI code)] } (n + 1 + xs.length) (by omega) hc h
  refine ⟨[98, 108, 111, 99, 107, 10] ++ t1 ++ t2, by rw [q2]; simp, ?_⟩
  rw [Nat.add_assoc] at r2
  have hr := (r0.more r1).more r2
  rw [show (xs :: l).length + total (xs :: l) = 1 + xs.length + (l.length + total l) by simp [total]; omega]
  rw [List.map_cons, show st.blocks ++ (xs.map (normI code)) :: l.map (fun xs => xs.map (normI code)) = st.blocks ++ [[] ++ xs.map (normI code)] ++ l.map (fun xs => xs.map (normI code)) by simp]
  exact hr
theorem part_len {p : Part} (h : PartGood p) : p.str.data.toList.length ≤ 12 := by
 cases p with
 | num n =>
  have hg : 0 ≤ n ∧ n < 2147483648 := by have h : good n = true := h; simpa [good] using h
  rw [show (Part.num n).str = num n from part_num h]
  have := num_size hg.2
  show (num n).data.toList.length ≤ 12
  simp only [Array.length_toList]
  show (num n).size ≤ 12
  omega
 | nm s =>
  have h : nameOk s = true := h
  unfold nameOk at h
  simp only [Bool.and_eq_true, decide_eq_true_eq] at h
  show s.data.toList.length ≤ 12
  simp only [Array.length_toList]
  show s.size ≤ 12
  omega
theorem flat_small : ∀ (ps : List Part), (∀ p ∈ ps, PartGood p) → (ps.flatMap (fun p => 32 :: p.str.data.toList)).length ≤ 13 * ps.length
 | [], _ => by simp
 | p :: ps, h => by
  have h1 := part_len (h p List.mem_cons_self)
  have h2 := flat_small ps (fun q hq => h q (List.mem_cons_of_mem _ hq))
  simp only [List.flatMap_cons, List.length_append, List.length_cons]
  omega
theorem parts_most (x : SIns) : ∀ fs : List UInt8, (∀ c ∈ fs, c = 68 ∨ c = 65 ∨ c = 66 ∨ c = 78 ∨ c = 76) → (76 : UInt8) ∉ fs.dropLast → (partsOf x fs).length + 1 ≤ fs.length + max 1 x.f5.length
 | [], _, _ => by show 0 + 1 ≤ 0 + _; omega
 | [c], h, _ => by
  rw [show partsOf x [c] = fieldParts x c ++ [] from List.flatMap_cons, List.append_nil]
  rcases h c List.mem_cons_self with rfl | rfl | rfl | rfl | rfl
  ·show 1 + 1 ≤ 1 + _; omega
  ·show 1 + 1 ≤ 1 + _; omega
  ·show 1 + 1 ≤ 1 + _; omega
  ·show 1 + 1 ≤ 1 + _; omega
  ·show (x.f5.map Part.num).length + 1 ≤ 1 + _; rw [List.length_map]; omega
 | c :: d :: r, h, h76 => by
  have ih := parts_most x (d :: r) (fun e hd => h e (List.mem_cons_of_mem _ hd)) (fun hm => h76 (by rw [List.dropLast_cons_cons]; exact List.mem_cons_of_mem _ hm))
  rw [show partsOf x (c :: d :: r) = fieldParts x c ++ partsOf x (d :: r) from List.flatMap_cons, List.length_append, List.length_cons]
  have : (fieldParts x c).length = 1 := by
   rcases h c List.mem_cons_self with rfl | rfl | rfl | rfl | rfl
   ·rfl
   ·rfl
   ·rfl
   ·rfl
   ·exact absurd (by rw [List.dropLast_cons_cons]; exact List.mem_cons_self) h76
  omega
theorem ins_small {code : Bool} {x : SIns} {s : List UInt8} (h5 : x.f5.length ≤ 20) (h : (insText code (s, 0) x).2 = 0) : (insText code (s, 0) x).1.length ≤ s.length + 293 := by
 obtain ⟨⟨o, wd, fs, is⟩, hof⟩ := text_of_total x.f0 code
 cases is with
 | false =>
  unfold insText at h
  rw [hof] at h
  exact absurd h (show ¬ keepE 0 80 = 0 by decide)
 | true =>
  obtain ⟨rfl, f1, f2, f3, f4, f5, f7, f8, -, -, f6⟩ := form_of hof
  have e : insText code (s, 0) x = (s ++ lineBytes wd (partsOf x fs.data.toList), errsOf (nameErr (nameOk x.f4) 0 fs.data.toList) (partsOf x fs.data.toList)) := by
   unfold insText; rw [hof]; dsimp only; rw [name_eq]; rfl
  rw [e] at h ⊢
  have hg := parts_good h
  have h1 := flat_small _ hg
  have h2 := parts_most x _ f1 f2
  have hsz : fs.data.toList.length = fs.size := by simp
  have hwz : wd.data.toList.length = wd.size := by simp
  dsimp only
  rw [lineBytes_flat, List.length_append, List.length_append, List.length_append, hwz, List.length_singleton]
  omega
theorem inss_small {code : Bool} : ∀ (xs : List SIns) (s : List UInt8), (∀ x ∈ xs, x.f5.length ≤ 20) → (xs.foldl (insText code) (s, 0)).2 = 0 → (xs.foldl (insText code) (s, 0)).1.length ≤ s.length + 293 * xs.length
 | [], s, _, _ => by simp
 | x :: xs, s, h5, h => by
  rw [List.foldl_cons] at h ⊢
  have h0 : (insText code (s, 0) x).2 = 0 := by
   by_cases h0 : (insText code (s, 0) x).2 = 0
   ·exact h0
   ·rw [fold_err (fun s x h => keep_err h) xs _ h0] at h; exact absurd h h0
  have h1 := ins_small (h5 x List.mem_cons_self) h0
  have e0 : insText code (s, 0) x = ((insText code (s, 0) x).1, 0) := Prod.ext rfl h0
  rw [e0] at h ⊢
  have h2 := inss_small xs _ (fun y hy => h5 y (List.mem_cons_of_mem _ hy)) h
  rw [List.length_cons]
  omega
theorem blks_small {code : Bool} : ∀ (l : List (List SIns)) (s : List UInt8), (∀ xs ∈ l, ∀ x ∈ xs, x.f5.length ≤ 20) → (blksText code (s, 0) l).2 = 0 → (blksText code (s, 0) l).1.length ≤ s.length + 6 * l.length + 293 * total l
 | [], s, _, _ => by simp [blksText, total]
 | xs :: l, s, h5, h => by
  have e1 : blksText code (s, 0) (xs :: l) = blksText code (blkText code (s, 0) xs) l := rfl
  rw [e1] at h ⊢
  have h0 : (blkText code (s, 0) xs).2 = 0 := by
   by_cases h0 : (blkText code (s, 0) xs).2 = 0
   ·exact h0
   ·rw [blks_err h0] at h; exact absurd h h0
  have h1 : (blkText code (s, 0) xs).1.length ≤ (s ++ [98, 108, 111, 99, 107, 10]).length + 293 * xs.length := inss_small xs (s ++ [98, 108, 111, 99, 107, 10]) (h5 xs List.mem_cons_self) h0
  have e0 : blkText code (s, 0) xs = ((blkText code (s, 0) xs).1, 0) := Prod.ext rfl h0
  rw [e0] at h ⊢
  have h2 := blks_small l _ (fun y hy => h5 y (List.mem_cons_of_mem _ hy)) h
  have e2 : total (xs :: l) = xs.length + total l := by simp [total]
  have e3 : (s ++ ([98, 108, 111, 99, 107, 10] : List UInt8)).length = s.length + 6 := by rw [List.length_append]; rfl
  rw [e3] at h1
  rw [e2, List.length_cons]
  omega
theorem num_back {t : ByteArray} {v : Int} (h : numOf t = some v) : good v = true ∧ Part.str (.num v) = t := by
 obtain ⟨h1, h2, h3⟩ := numOf_some h
 have hg : good v = true := by unfold good; exact zF ⟨h1, h2⟩
 exact ⟨hg, (part_num hg).trans h3.symm⟩
theorem nums_back : ∀ (ws : List ByteArray) (l : List Int), ws.mapM numOf = some l → (l.map Part.num).map Part.str = ws ∧ ∀ n ∈ l, good n = true
 | [], l, h => by simp at h; subst h; exact ⟨rfl, fun n hn => by cases hn⟩
 | t :: ws, l, h => by
  rw [List.mapM_cons] at h
  simp only [Option.pure_def, Option.bind_eq_bind, Option.bind_eq_some_iff] at h
  obtain ⟨v, hv, r, hr, h⟩ := h
  injection h with h
  subst h
  obtain ⟨h1, h2⟩ := num_back hv
  obtain ⟨h3, h4⟩ := nums_back ws r hr
  refine ⟨by rw [List.map_cons, List.map_cons, h2, h3], fun n hn => ?_⟩
  rcases List.mem_cons.1 hn with rfl | hn
  ·exact h1
  ·exact h4 n hn
theorem set_field (c d : UInt8) (n : Int) (y : SIns) (h : d ≠ c) : fieldParts (setF c n y) d = fieldParts y d := by
 unfold fieldParts setF
 (repeat' split) <;> first | rfl | (exfalso; apply h; simp_all)
theorem fill_forth (ws : List ByteArray) : ∀ (fs : List UInt8) (at_ : Nat) (y x : SIns), fillR ws fs at_ y = (0, x) → (∀ c ∈ fs, c = 68 ∨ c = 65 ∨ c = 66 ∨ c = 78 ∨ c = 76) → fs.Nodup → (76 : UInt8) ∉ fs.dropLast → ((76 : UInt8) ∉ fs → ws.length = at_ + fs.length) → y.f5 = [] →
 x.f0 = y.f0 ∧ (∀ c, c ∉ fs → fieldParts x c = fieldParts y c) ∧ (partsOf x fs).map Part.str = ws.drop at_ ∧ ∀ p ∈ partsOf x fs, PartGood p
 | [], at_, y, x, h, _, _, _, hl, _ => by
  injection h with h1 h2
  subst h2
  refine ⟨rfl, fun _ _ => rfl, ?_, fun p hp => by cases hp⟩
  rw [List.drop_eq_nil_of_le (by have := hl (by simp); simp at this; omega)]
  rfl
 | c :: r, at_, y, x, h, hc, hn, hL, hl, h5 => by
  obtain ⟨hcr, hnr⟩ := List.nodup_cons.1 hn
  have hcr2 : ∀ d ∈ r, d = 68 ∨ d = 65 ∨ d = 66 ∨ d = 78 ∨ d = 76 := fun d hd => hc d (List.mem_cons_of_mem _ hd)
  have hLr : (76 : UInt8) ∉ r.dropLast := by
   cases r with
   | nil => simp
   | cons d r => exact fun h => hL (by rw [List.dropLast_cons_cons]; exact List.mem_cons_of_mem _ h)
  have hp : partsOf x (c :: r) = fieldParts x c ++ partsOf x r := List.flatMap_cons
  have numc : c ≠ 78 → c ≠ 76 → (∀ (n : Int), fieldParts (setF c n y) c = [.num n]) → x.f0 = y.f0 ∧ (∀ d, d ∉ c :: r → fieldParts x d = fieldParts y d) ∧ (partsOf x (c :: r)).map Part.str = ws.drop at_ ∧ ∀ p ∈ partsOf x (c :: r), PartGood p := by
   intro h78 h76 hset
   unfold fillR at h
   rw [zD h78, zD h76] at h
   split at h
   ·next t ht =>
    split at h
    ·next n hnum =>
     obtain ⟨q1, q2, q3, q4⟩ := fill_forth ws r (at_ + 1) (setF c n y) x h hcr2 hnr hLr (fun h7 => by
      have := hl (fun hm => by
       rcases List.mem_cons.1 hm with e | hm
       ·exact h76 e.symm
       ·exact h7 hm)
      simp only [List.length_cons] at this
      omega) (by unfold setF; (repeat' split) <;> exact h5)
     obtain ⟨g1, g2⟩ := num_back hnum
     have e1 : fieldParts x c = [.num n] := (q2 c hcr).trans (hset n)
     rw [hp, e1]
     refine ⟨?_, fun d hd => ?_, ?_, fun p hpm => ?_⟩
     ·rw [q1]; unfold setF; (repeat' split) <;> rfl
     ·have hdc : d ≠ c := fun e => hd (by rw [e]; exact List.mem_cons_self)
      rw [q2 d (fun hm => hd (List.mem_cons_of_mem _ hm)), set_field c d n y hdc]
     ·obtain ⟨hlt, hget⟩ := List.getElem?_eq_some_iff.1 ht
      rw [List.map_append, q3, List.drop_eq_getElem_cons hlt, hget]
      show Part.str (.num n) :: _ = _
      rw [g2]
      rfl
     ·rcases List.mem_append.1 hpm with hpm | hpm
      ·rw [List.mem_singleton.1 hpm]; exact g1
      ·exact q4 p hpm
    ·injection h with h; exact absurd h (by decide)
   ·injection h with h; exact absurd h (by decide)
  rcases hc c List.mem_cons_self with rfl | rfl | rfl | rfl | rfl
  ·exact numc (by decide) (by decide) (fun n => rfl)
  ·exact numc (by decide) (by decide) (fun n => rfl)
  ·exact numc (by decide) (by decide) (fun n => rfl)
  ·unfold fillR at h
   rw [zC rfl] at h
   split at h
   ·next t ht =>
    split at h
    ·next hnm =>
     obtain ⟨q1, q2, q3, q4⟩ := fill_forth ws r (at_ + 1) { y with f4 := t } x h hcr2 hnr hLr (fun h7 => by
      have := hl (fun hm => by
       rcases List.mem_cons.1 hm with e | hm
       ·exact absurd e (by decide)
       ·exact h7 hm)
      simp only [List.length_cons] at this
      omega) h5
     have e1 : fieldParts x 78 = [.nm t] := (q2 78 hcr).trans rfl
     rw [hp, e1]
     refine ⟨q1, fun d hd => ?_, ?_, fun p hpm => ?_⟩
     ·have hdc : d ≠ 78 := fun e => hd (by rw [e]; exact List.mem_cons_self)
      rw [q2 d (fun hm => hd (List.mem_cons_of_mem _ hm))]
      unfold fieldParts
      simp only [zD hdc]
     ·obtain ⟨hlt, hget⟩ := List.getElem?_eq_some_iff.1 ht
      rw [List.map_append, q3, List.drop_eq_getElem_cons hlt, hget]
      rfl
     ·rcases List.mem_append.1 hpm with hpm | hpm
      ·rw [List.mem_singleton.1 hpm]; exact hnm
      ·exact q4 p hpm
    ·injection h with h; exact absurd h (by decide)
   ·injection h with h; exact absurd h (by decide)
  ·have hr : r = [] := by
    cases r with
    | nil => rfl
    | cons d r => exact absurd (by rw [List.dropLast_cons_cons]; exact List.mem_cons_self) hL
   subst hr
   rw [fillR_list] at h
   split at h
   ·next l hm =>
    injection h with _ h
    subst h
    obtain ⟨g1, g2⟩ := nums_back _ _ hm
    have e1 : partsOf { y with f5 := y.f5 ++ l } [76] = l.map .num := by
     show (y.f5 ++ l).map Part.num ++ [] = _
     rw [h5, List.append_nil]; rfl
    rw [e1]
    refine ⟨rfl, fun d hd => ?_, g1, fun p hpm => ?_⟩
    ·have hdc : d ≠ 76 := fun e => hd (by rw [e]; exact List.mem_cons_self)
     unfold fieldParts
     simp only [zD hdc]
    ·obtain ⟨n, hn, rfl⟩ := List.mem_map.1 hpm
     exact g2 n hn
   ·injection h with h; exact absurd h (by decide)
theorem form_nodup {op o : Int} {code : Bool} {wd fs : ByteArray} (h : text_of.f op code = some (o, wd, fs, true)) : fs.data.toList.Nodup ∧ (openF fs = true → (76 : UInt8) ∈ fs.data.toList) ∧ (code = true → (76 : UInt8) ∉ fs.data.toList) := by
 rcases op_cases op with rfl | rfl | rfl | rfl | rfl | rfl | rfl | rfl | rfl | rfl | rfl | rfl | rfl | rfl | rfl | rfl | rfl | ho
 case inr.inr.inr.inr.inr.inr.inr.inr.inr.inr.inr.inr.inr.inr.inr.inr.inr =>
  rw [text_of_none (.inr ho)] at h
  cases h
 all_goals
  cases code
  all_goals
   first
    | (cases h; done)
    | (injection h with h
       simp only [Prod.mk.injEq] at h
       obtain ⟨rfl, rfl, rfl, -⟩ := h
       exact ⟨by decide, by decide, by decide⟩)
structure Told (code : Bool) (x : SIns) (B : Nat) : Prop where
 at_ : ∃ wd fs, text_of.f x.f0 code = some (x.f0, wd, fs, true) ∧ (∀ p ∈ partsOf x fs.data.toList, PartGood p)
 len : x.f5.length ≤ B
theorem errs_zero : ∀ (ps : List Part), (∀ p ∈ ps, PartGood p) → errsOf 0 ps = 0
 | [], _ => rfl
 | p :: ps, h => by
  have h1 : errsOf 0 (p :: ps) = errsOf (keepE 0 p.err) ps := rfl
  have h2 : p.err = 0 := by
   cases p with
   | num n => rw [err_num, zC (show good n = true from h _ List.mem_cons_self)]
   | nm s => rfl
  rw [h1, h2]
  exact errs_zero ps (fun q hq => h q (List.mem_cons_of_mem _ hq))
theorem name_zero {x : SIns} : ∀ (fs : List UInt8), (∀ p ∈ partsOf x fs, PartGood p) → nameErr (nameOk x.f4) 0 fs = 0
 | [], _ => rfl
 | c :: fs, h => by
  have hp : partsOf x (c :: fs) = fieldParts x c ++ partsOf x fs := List.flatMap_cons
  rw [hp] at h
  have h1 : nameErr (nameOk x.f4) 0 (c :: fs) = nameErr (nameOk x.f4) (if c = 78 then (if nameOk x.f4 then 0 else keepE 0 80) else 0) fs := rfl
  have h2 : (if c = 78 then (if nameOk x.f4 = true then (0 : Int) else keepE 0 80) else 0) = 0 := by
   by_cases hc : c = 78
   ·subst hc
    have : nameOk x.f4 = true := h (.nm x.f4) (List.mem_append_left _ List.mem_cons_self)
    rw [zC rfl, zC this]
   ·rw [zD hc]
  rw [h1, h2]
  exact name_zero fs (fun p hp => h p (List.mem_append_right _ hp))
theorem told_text {code : Bool} {x : SIns} {B : Nat} (h : Told code x B) (s : List UInt8) : ∃ wd fs, text_of.f x.f0 code = some (x.f0, wd, fs, true) ∧ insText code (s, 0) x = (s ++ lineBytes wd (partsOf x fs.data.toList), 0) := by
 obtain ⟨wd, fs, ho, hg⟩ := h.at_
 refine ⟨wd, fs, ho, ?_⟩
 unfold insText
 rw [ho]
 dsimp only
 rw [name_eq]
 show (_, errsOf (nameErr (nameOk x.f4) 0 _) _) = _
 rw [name_zero _ hg, errs_zero _ hg]
def rawLine (ws : List ByteArray) : List UInt8 := unw (bytesOfL ws) ++ [10]
theorem unw_flat : ∀ (ws : List (List UInt8)) (w : List UInt8), unw (w :: ws) = w ++ ws.flatMap (fun t => 32 :: t)
 | [], w => by simp [unw]
 | v :: ws, w => by
  show w ++ 32 :: unw (v :: ws) = _
  rw [unw_flat ws v, List.flatMap_cons, List.cons_append]
theorem raw_line (wd : ByteArray) (ps : List Part) : rawLine (wd :: ps.map Part.str) = lineBytes wd ps := by
 unfold rawLine
 rw [lineBytes_flat]
 show unw (wd.data.toList :: bytesOfL (ps.map Part.str)) ++ [10] = _
 rw [unw_flat]
 congr 2
 unfold bytesOfL
 rw [List.map_map, List.flatMap_map]
 rfl
theorem lineP_forth {s : PS} {ws : List ByteArray} {hd t : List UInt8} {B : Nat} (hl : (lineP s ws).1 = 0) (ht : blksText s.code (hd, 0) s.blocks = (t, 0)) (hG : ∀ b ∈ s.blocks, ∀ x ∈ b, Told s.code x B) (hw : s.code = true ∨ ws.length ≤ B) :
 blksText s.code (hd, 0) (lineP s ws).2.blocks = (t ++ rawLine ws, 0) ∧ ∀ b ∈ (lineP s ws).2.blocks, ∀ x ∈ b, Told s.code x B := by
 unfold lineP at hl ⊢
 split at hl
 ·exact absurd hl (by show ¬ (80 : Int) = 0; decide)
 ·next w0 rest =>
  try dsimp only at hl ⊢
  by_cases hb : w0.toList = [98, 108, 111, 99, 107] ∧ rest = []
  ·rw [zC hb]
   obtain ⟨hb1, rfl⟩ := hb
   refine ⟨?_, fun b hm => ?_⟩
   ·show blksText s.code (hd, 0) (s.blocks ++ [[]]) = _
    unfold blksText at ht ⊢
    rw [List.foldl_append, ht]
    have e : rawLine [w0] = [98, 108, 111, 99, 107, 10] := by
     show w0.data.toList ++ [10] = _
     rw [← toList_data, hb1]; rfl
    rw [e]
    rfl
   ·rcases List.mem_append.1 hm with hm | hm
    ·exact hG b hm
    ·rw [List.mem_singleton.1 hm]; intro x hx; cases hx
  ·rw [zD hb] at hl ⊢
   cases hby : byOf w0 s.code with
   | none => rw [hby] at hl; exact absurd hl (by show ¬ (80 : Int) = 0; decide)
   | some r =>
    obtain ⟨op, wd, fs⟩ := r
    rw [hby] at hl
    try dsimp only at hl ⊢
    by_cases hbl : s.blocks = []
    ·rw [zC hbl] at hl; exact absurd hl (by show ¬ (80 : Int) = 0; decide)
    ·rw [zD hbl] at hl ⊢
     by_cases hcnt : openF fs = false ∧ rest.length ≠ fs.size ∨ openF fs = true ∧ rest.length + 1 < fs.size
     ·rw [zC hcnt] at hl; exact absurd hl (by show ¬ (80 : Int) = 0; decide)
     ·rw [zD hcnt] at hl ⊢
      by_cases hf : (fillR rest fs.data.toList 0 (insOp op)).1 = 0
      ·rw [zC hf]
       obtain ⟨x, hx⟩ : ∃ x, x = (fillR rest fs.data.toList 0 (insOp op)).2 := ⟨_, rfl⟩
       have hfx : fillR rest fs.data.toList 0 (insOp op) = (0, x) := Prod.ext hf hx.symm
       rw [← hx]
       obtain ⟨j, _, _, h3⟩ := byFrom_some hby
       obtain ⟨k1, _, _, h4, h5⟩ := isBy_some h3
       have k1 : op = j := k1
       subst k1
       have h4 : text_of.f op s.code = some (op, wd, fs, true) := h4
       obtain ⟨-, f1, f2, -, -, -, -, -, -, -, f6⟩ := form_of h4
       obtain ⟨n1, n2, n3⟩ := form_nodup h4
       have hsz : fs.data.toList.length = fs.size := by simp
       obtain ⟨q1, q2, q3, q4⟩ := fill_forth rest fs.data.toList 0 (insOp op) x hfx f1 n1 f2 (fun h7 => by
        have ho : openF fs = false := by
         cases ho : openF fs with
         | false => rfl
         | true => exact absurd (n2 ho) h7
        have : rest.length = fs.size := Classical.byContradiction fun hne => hcnt (.inl ⟨ho, hne⟩)
        omega) rfl
       have q1 : x.f0 = op := q1
       have hwd : w0 = wd := by
        have : (wordR op s.code).toList = w0.toList := h5
        unfold wordR at this
        rw [h4] at this
        exact (toList_inj.1 this).symm
       have hT : Told s.code x B := by
        refine ⟨⟨wd, fs, by rw [q1]; exact h4, q4⟩, ?_⟩
        by_cases h76 : (76 : UInt8) ∈ fs.data.toList
        ·have h1 : (fieldParts x 76).length ≤ (partsOf x fs.data.toList).length := by
          obtain ⟨a, b, e⟩ := List.append_of_mem h76
          unfold partsOf
          rw [e, List.flatMap_append, List.flatMap_cons, List.length_append, List.length_append]
          omega
         have h2 : (fieldParts x 76).length = x.f5.length := by show (x.f5.map Part.num).length = _; rw [List.length_map]
         have h3 := congrArg List.length q3
         rw [List.length_map, List.drop_zero] at h3
         rcases hw with hw | hw
         ·exact absurd h76 (n3 hw)
         ·rw [List.length_cons] at hw
          omega
        ·have h1 := q2 76 h76
         have h2 : x.f5.map Part.num = (insOp op).f5.map Part.num := h1
         have h3 := congrArg List.length h2
         rw [List.length_map, List.length_map] at h3
         have : (insOp op).f5.length = 0 := rfl
         omega
       have hlast : s.blocks.length - 1 < s.blocks.length := by
        have := List.length_pos_iff.2 hbl; omega
       obtain ⟨bs, b, e⟩ : ∃ bs b, s.blocks = bs ++ [b] := ⟨_, _, (List.dropLast_concat_getLast hbl).symm⟩
       have eset : s.blocks.set (s.blocks.length - 1) (s.blocks.getD (s.blocks.length - 1) [] ++ [x]) = bs ++ [b ++ [x]] := by
        have := put_snoc s bs b x e
        exact congrArg PS.blocks this
       refine ⟨?_, fun b' hm y hy => ?_⟩
       ·show blksText s.code (hd, 0) (s.blocks.set (s.blocks.length - 1) (s.blocks.getD (s.blocks.length - 1) [] ++ [x])) = _
        rw [eset]
        rw [e] at ht
        unfold blksText at ht ⊢
        rw [List.foldl_append] at ht ⊢
        have e2 : ∀ z : List UInt8 × Int, [b ++ [x]].foldl (blkText s.code) z = insText s.code ([b].foldl (blkText s.code) z) x := fun z => by
         show (b ++ [x]).foldl (insText s.code) _ = _
         rw [List.foldl_append]
         rfl
        rw [e2, ht]
        obtain ⟨wd2, fs2, hof2, htx⟩ := told_text hT t
        rw [q1, h4] at hof2
        injection hof2 with hof2
        simp only [Prod.mk.injEq] at hof2
        obtain ⟨-, rfl, rfl, -⟩ := hof2
        rw [htx, hwd, ← raw_line, q3, List.drop_zero]
       ·have hm : b' ∈ s.blocks.set (s.blocks.length - 1) (s.blocks.getD (s.blocks.length - 1) [] ++ [x]) := hm
        rw [eset] at hm
        have hGb : ∀ y ∈ b, Told s.code y B := hG b (by rw [e]; simp)
        rcases List.mem_append.1 hm with hm | hm
        ·exact hG b' (by rw [e]; exact List.mem_append_left _ hm) y hy
        ·rw [List.mem_singleton.1 hm] at hy
         rcases List.mem_append.1 hy with hy | hy
         ·exact hGb y hy
         ·rw [List.mem_singleton.1 hy]; exact hT
      ·rw [zD hf] at hl; exact absurd hl hf
theorem cut_forth (s : ByteArray) (hw : wholeB (cutB s).1 = true) : s.data.toList = rawLine (wordsOf (trimB (cutB s).1)) ++ (cutB s).2.data.toList := by
 have e1 : (cutB s).1.data.toList ++ (cutB s).2.data.toList = s.data.toList := by
  unfold cutB
  split
  ·rw [ex_list, ex_list]
   have hz : s.data.toList.length = s.size := by simp
   rw [List.drop_zero, Nat.sub_zero, List.take_of_length_le (l := s.data.toList.drop _) (by rw [List.length_drop]; omega)]
   exact List.take_append_drop _ _
  ·exact List.append_nil _
 have e2 : unw (bytesOfL (wordsOf (trimB (cutB s).1))) = (trimB (cutB s).1).data.toList := by rw [wordsOf_bytes, unw_words]
 have e3 : (trimB (cutB s).1).data.toList ++ [10] = (cutB s).1.data.toList := by
  unfold wholeB Lib.hasSuffix at hw
  show Lib.trimSuffix (cutB s).1.data.toList [10] ++ [10] = _
  obtain ⟨a, ha⟩ := List.isSuffixOf_iff_suffix.1 hw
  unfold Lib.trimSuffix Lib.hasSuffix
  rw [zC hw, ← ha]
  simp
 unfold rawLine
 rw [e2, e3, e1]
theorem parseR_forth {hd : List UInt8} (B : Nat) : ∀ (k n : Nat) (st : PS) (s : ByteArray) (t : List UInt8), n ≠ 0 → s.size < k → st.code = true ∨ s.size + 1 ≤ B → (parseR k n st s).2.1 = 0 → blksText st.code (hd, 0) st.blocks = (t, 0) → (∀ b ∈ st.blocks, ∀ x ∈ b, Told st.code x B) →
 blksText st.code (hd, 0) (parseR k n st s).2.2.blocks = (t ++ s.data.toList, 0) ∧ (∀ b ∈ (parseR k n st s).2.2.blocks, ∀ x ∈ b, Told st.code x B) ∧ (parseR k n st s).2.2.name = st.name ∧ (parseR k n st s).2.2.head = st.head
 | 0, n, st, s, t, hn, hk, hB, h, ht, hG => by omega
 | k + 1, n, st, s, t, hn, hk, hB, h, ht, hG => by
  unfold parseR at h ⊢
  by_cases hz : s.size = 0
  ·rw [zC hz]
   have : s.data.toList = [] := List.eq_nil_of_length_eq_zero (by simpa using hz)
   rw [this, List.append_nil]
   exact ⟨ht, hG, rfl, rfl⟩
  ·rw [zD hz] at h ⊢
   by_cases h0 : (stepP n st (cutB s).1).1 = 0
   ·rw [zC h0] at h ⊢
    have hw : wholeB (cutB s).1 = true := by
     cases hw : wholeB (cutB s).1 with
     | true => rfl
     | false => unfold stepP at h0; rw [zC hw] at h0; exact absurd h0 (by show ¬ (80 : Int) = 0; decide)
    have hwn : ¬ wholeB (cutB s).1 = false := by rw [hw]; decide
    have hst : stepP n st (cutB s).1 = lineP st (wordsOf (trimB (cutB s).1)) := by unfold stepP; rw [zD hwn, zD hn]
    rw [hst] at h0 h ⊢
    have hlen : st.code = true ∨ (wordsOf (trimB (cutB s).1)).length ≤ B := by
     rcases hB with hB | hB
     ·exact .inl hB
     ·have h1 := splitB_lenle (trimB (cutB s).1)
      have h2 := trimB_le (cutB s).1
      have h3 := cutB_le s
      exact .inr (by omega)
    obtain ⟨l1, l2⟩ := lineP_forth h0 ht hG hlen
    have hcl := cutB_less hz
    have hc : (lineP st (wordsOf (trimB (cutB s).1))).2.code = st.code := by
     unfold lineP
     repeat' split
     all_goals rfl
    have hnm : (lineP st (wordsOf (trimB (cutB s).1))).2.name = st.name := by
     unfold lineP
     repeat' split
     all_goals rfl
    rw [← hc] at l1 l2
    obtain ⟨r1, r2, r3, r4⟩ := parseR_forth B k (n + 1) _ (cutB s).2 _ (Nat.succ_ne_zero n) (by omega) (by rw [hc]; exact hB.imp id (fun h => by omega)) h l1 l2
    rw [hc] at r1 r2
    refine ⟨?_, r2, r3.trans hnm, r4.trans (lineP_head _ _)⟩
    rw [r1, cut_forth s hw, List.append_assoc]
   ·rw [zD h0] at h; exact absurd h h0
theorem parse_told {st st' : PS} {t : List UInt8} {m : Nat} (h : Runs st 0 t st' m) (hm : 1 ≤ m) : parseAll st ⟨t.toArray⟩ = (0, 0, st') := by
 have hz : (⟨t.toArray⟩ : ByteArray).size = t.length := by show t.toArray.size = _; simp
 have h1 := h.1
 have h2 := h.2 (t.length + 1 - m) []
 rw [List.append_nil] at h2
 unfold parseAll
 rw [zD (by omega), hz, show t.length + 1 = (t.length + 1 - m) + m by omega, h2]
 cases t.length + 1 - m with
 | zero => rfl
 | succ k => unfold parseR; rw [zC (show (⟨([] : List UInt8).toArray⟩ : ByteArray).size = 0 from rfl)]
theorem part_ok {p : Part} (h : PartGood p) : partOkB p = true := by
 cases p with
 | num n =>
  have hg : 0 ≤ n ∧ n < 2147483648 := by have h : good n = true := h; simpa [good] using h
  exact zF (show -9223372036854775808 ≤ n ∧ n ≤ 9223372036854775807 by omega)
 | nm s => rfl
theorem told_ok {code : Bool} {x : SIns} {B : Nat} (h : Told code x B) (hB : B ≤ 9000) : insOkB code x = true := by
 obtain ⟨wd, fs, ho, hg⟩ := h.at_
 have h5 := h.len
 obtain ⟨-, f1, f2, f3, f4, f5, f7, f8, -, -, f6⟩ := form_of ho
 have h1 := flat_small _ hg
 have h2 := parts_most x _ f1 f2
 have hsz : fs.data.toList.length = fs.size := by simp
 have hwz : wd.data.toList.length = wd.size := by simp
 unfold insOkB
 rw [ho]
 simp only [Bool.and_eq_true, decide_eq_true_eq]
 rw [name_eq, lineBytes_flat, List.length_append, List.length_append, List.length_singleton, hwz]
 refine ⟨⟨⟨⟨⟨List.all_eq_true.2 fun b hbm => zF (f1 b hbm), List.all_eq_true.2 fun p hp => part_ok (hg p hp)⟩, by omega⟩, by omega⟩, rfl⟩, by omega⟩
theorem head_RC (a0 : ByteArray) (a1 a2 a3 : Int) (h0 : a0.size ≤ 256) : (printHeadC a0 a1 a2 a3).2 = (lineR (⟨#[99, 111, 100, 101]⟩ : ByteArray) a0 true 0 [a1, a2, a3]).2 ∧ ((lineR (⟨#[99, 111, 100, 101]⟩ : ByteArray) a0 true 0 [a1, a2, a3]).2 = 0 → (printHeadC a0 a1 a2 a3).1 = (lineR (⟨#[99, 111, 100, 101]⟩ : ByteArray) a0 true 0 [a1, a2, a3]).1.data.toList) := by
 have hw : ¬ (⟨#[99, 111, 100, 101]⟩ : ByteArray).toList = [] := by rw [toList_data]; decide
 have he : errsOf 0 [.nm a0, .num a1, .num a2, .num a3] = if [a1, a2, a3].all good = true then 0 else 81 := by
  have h1 : errsOf 0 [.nm a0, .num a1, .num a2, .num a3] = errsOf (keepE 0 0) ([a1, a2, a3].map .num) := rfl
  rw [h1, keepE_z, errs_nums]
 unfold printHeadC
 rw [name_eq]
 by_cases hn : nameOk a0 = true
 ·have e : lineR (⟨#[99, 111, 100, 101]⟩ : ByteArray) a0 true 0 [a1, a2, a3] = if [a1, a2, a3].all good = true then (⟨((⟨#[99, 111, 100, 101]⟩ : ByteArray).data.toList ++ tailB a0 true 0 0 [a1, a2, a3] ++ [10]).toArray⟩, 0) else (emp, 81) := zD (by
   rintro (h | ⟨_, h⟩)
   ·exact hw h
   ·rw [hn] at h; cases h)
  rw [e, hn]
  dsimp only [Option.getD_some]
  rw [zC rfl, he]
  by_cases hg : [a1, a2, a3].all good = true
  ·rw [zC hg, zC hg]
   refine ⟨rfl, fun _ => ?_⟩
   rw [lineBytes_flat]
   have e1 : tailB a0 true 0 0 [a1, a2, a3] = (32 :: a0.data.toList) ++ ([a1, a2, a3].map Part.num).flatMap (fun p => 32 :: p.str.data.toList) := by
    have hg2 := hg
    simp only [List.all_cons, Bool.and_eq_true] at hg2
    rw [tailB, zC ⟨rfl, rfl⟩, tail_plain a0 true 0 [a2, a3] _ (fun _ => by omega) (by simpa using hg2.2)]
    simp [str_num hg2.1]
   rw [e1]
   have e3 : (Part.nm a0).str = a0 := rfl
   simp [e3]
  ·rw [zD hg, zD hg]
   exact ⟨rfl, fun h => absurd h (by decide)⟩
 ·have hn2 : nameOk a0 = false := by simpa using hn
  have e : lineR (⟨#[99, 111, 100, 101]⟩ : ByteArray) a0 true 0 [a1, a2, a3] = (emp, 80) := zC (.inr ⟨rfl, hn2⟩)
  rw [e, hn2]
  dsimp only [Option.getD_some]
  rw [zD (show ¬ (false = true) by decide), errsOf_keep]
  exact ⟨rfl, fun h => absurd h (by decide)⟩
def toldC (a0 : ByteArray) (a1 a2 a3 : Int) (l : List (List SIns)) : ByteArray × Int := fin (printSC a0 a1 a2 a3 l)
theorem head_lenC (a0 : ByteArray) (a1 a2 a3 : Int) (h0 : a0.size ≤ 256) (h1 : -9223372036854775808 ≤ a1 ∧ a1 ≤ 9223372036854775807) (h2 : -9223372036854775808 ≤ a2 ∧ a2 ≤ 9223372036854775807) (ha : -9223372036854775808 ≤ a3 ∧ a3 ≤ 9223372036854775807) : (printHeadC a0 a1 a2 a3).1.length ≤ 2000 := by
 unfold printHeadC
 have hf := flat_len [.nm a0, .num a1, .num a2, .num a3] (fun p hp => by
  simp only [List.mem_cons, List.not_mem_nil, or_false] at hp
  rcases hp with rfl | rfl | rfl | rfl
  ·exact str_len trivial (fun s e => by cases e; exact h0)
  ·exact str_len (p := .num a1) h1 (fun s e => by cases e)
  ·exact str_len (p := .num a2) h2 (fun s e => by cases e)
  ·exact str_len (p := .num a3) ha (fun s e => by cases e))
 rw [lineBytes_flat, List.length_append, List.length_append]
 have : (⟨#[99, 111, 100, 101]⟩ : ByteArray).data.toList.length = 4 := rfl
 simp only [List.length_singleton, List.length_cons, List.length_nil] at hf ⊢
 omega
theorem print_lenC {a0 : ByteArray} {a1 a2 a3 : Int} {l : List (List SIns)} (h0 : a0.size ≤ 256) (h1 : -9223372036854775808 ≤ a1 ∧ a1 ≤ 9223372036854775807) (h2 : -9223372036854775808 ≤ a2 ∧ a2 ≤ 9223372036854775807) (ha : -9223372036854775808 ≤ a3 ∧ a3 ≤ 9223372036854775807) (h : Light l) : (printSC a0 a1 a2 a3 l).1.length ≤ 10000000 := by
 have h3 := head_lenC a0 a1 a2 a3 h0 h1 h2 ha
 have h4 := blks_grow (code := true) l h.lite (printHeadC a0 a1 a2 a3)
 have h5 := h.len
 have h6 := h.tot
 unfold printSC
 omega
theorem print_eqC {a0 : ByteArray} {a1 a2 a3 : Int} {l : List (List SIns)} (h0 : a0.size ≤ 256) (h1 : -9223372036854775808 ≤ a1 ∧ a1 ≤ 9223372036854775807) (h2 : -9223372036854775808 ≤ a2 ∧ a2 ≤ 9223372036854775807) (ha : -9223372036854775808 ≤ a3 ∧ a3 ≤ 9223372036854775807) (h : Light l) : text_PrintCode.f a0 a1 a2 a3 l = some (toldC a0 a1 a2 a3 l) := by
 unfold text_PrintCode.f
 rw [zC]
 ·unfold toldC fin
  split
  ·next hz => rw [hz]
  ·rfl
 ·have h7 := print_lenC h0 h1 h2 ha h
  simp only [printOkBC, Bool.and_eq_true, decide_eq_true_eq]
  refine ⟨⟨⟨⟨⟨by rw [name_eq]; rfl, zF (show -9223372036854775808 ≤ a1 ∧ a1 ≤ 9223372036854775807 from h1)⟩, zF (show -9223372036854775808 ≤ a2 ∧ a2 ≤ 9223372036854775807 from h2)⟩, zF (show -9223372036854775808 ≤ a3 ∧ a3 ≤ 9223372036854775807 from ha)⟩, ?_⟩, by omega⟩
  exact List.all_eq_true.2 fun xs hx => List.all_eq_true.2 fun x hy => insOk_of (h.lite xs hx x hy) true
theorem refprint_evC {a0 : ByteArray} {a1 a2 a3 : Int} {l : List (List SIns)} (h0 : a0.size ≤ 256) (h1 : -9223372036854775808 ≤ a1 ∧ a1 ≤ 9223372036854775807) (h2 : -9223372036854775808 ≤ a2 ∧ a2 ≤ 9223372036854775807) (ha : -9223372036854775808 ≤ a3 ∧ a3 ≤ 9223372036854775807) (h : Light l) : Ev (fun k => cubbyref08_PrintCode.f k a0 a1 a2 a3 l) (toldC a0 a1 a2 a3 l) := by
 obtain ⟨e1, e2⟩ := head_RC a0 a1 a2 a3 h0
 have h3 := head_lenC a0 a1 a2 a3 h0 h1 h2 ha
 unfold cubbyref08_PrintCode.f
 refine Ev.bind (line_ev (⟨#[99, 111, 100, 101]⟩ : ByteArray) a0 true 0 [a1, a2, a3] (by decide) (by omega) (by simp)) ?_
 by_cases hz : (lineR (⟨#[99, 111, 100, 101]⟩ : ByteArray) a0 true 0 [a1, a2, a3]).2 = 0
 ·have e3 : printHeadC a0 a1 a2 a3 = ((printHeadC a0 a1 a2 a3).1, 0) := Prod.ext rfl (e1.trans hz)
  have e4 : (lineR (⟨#[99, 111, 100, 101]⟩ : ByteArray) a0 true 0 [a1, a2, a3]).1 = ⟨(printHeadC a0 a1 a2 a3).1.toArray⟩ := ba_ext (by rw [e2 hz])
  simp only [zC hz]
  rw [e4]
  have ho := outer h true l 0 (printHeadC a0 a1 a2 a3).1 rfl (Nat.zero_le _) (by omega)
  rw [← e3] at ho
  exact Ev.bind (f := fun k bt176 => some (bt176.1, bt176.2)) ho (Ev.now _)
 ·simp only [zD hz]
  have e5 : toldC a0 a1 a2 a3 l = (emp, (lineR (⟨#[99, 111, 100, 101]⟩ : ByteArray) a0 true 0 [a1, a2, a3]).2) := by
   unfold toldC printSC
   have hb := blks_err (code := true) (s := printHeadC a0 a1 a2 a3) (l := l) (by rw [e1]; exact hz)
   rw [fin_err (by rw [hb, e1]; exact hz), hb, e1]
  rw [e5]
  exact Ev.now _
theorem head_runsC {a0 : ByteArray} {a1 a2 a3 : Int} (h : (printHeadC a0 a1 a2 a3).2 = 0) : Runs psCode 0 (printHeadC a0 a1 a2 a3).1 { psCode with name := a0, head := [a1, a2, a3] } 1 ∧ nameOk a0 = true ∧ good a1 = true ∧ good a2 = true ∧ good a3 = true := by
 unfold printHeadC at h ⊢
 rw [name_eq] at h
 obtain ⟨h1, h2⟩ := errs_good _ _ h
 have hn : nameOk a0 = true := by
  cases hk : nameOk a0 with
  | true => rfl
  | false => rw [hk] at h1; exact absurd h1 (by decide)
 have g : ∀ n : Int, Part.num n ∈ [Part.nm a0, .num a1, .num a2, .num a3] → good n = true := fun n hm => by
  have := h2 _ hm
  rw [err_num] at this
  cases hg : good n with
  | true => rfl
  | false => rw [hg] at this; exact absurd this (by decide)
 have g1 := g a1 (by simp)
 have g2 := g a2 (by simp)
 have g3 := g a3 (by simp)
 refine ⟨?_, hn, g1, g2, g3⟩
 have hg : ∀ p ∈ [Part.nm a0, .num a1, .num a2, .num a3], PartGood p := fun p hp => by
  simp only [List.mem_cons, List.not_mem_nil, or_false] at hp
  rcases hp with rfl | rfl | rfl | rfl
  ·exact hn
  ·exact g1
  ·exact g2
  ·exact g3
 dsimp only
 rw [lineBytes_flat]
 refine Runs.one (b := bodyB (⟨#[99, 111, 100, 101]⟩ : ByteArray) [Part.nm a0, .num a1, .num a2, .num a3]) (body_no10 (by decide) hg) ?_
 rw [body_words (by decide) hg]
 unfold stepW
 rw [zC rfl]
 have hm : ([Part.num a1, .num a2, .num a3].map Part.str).mapM numOf = some [a1, a2, a3] := nums_mapM [a1, a2, a3] (fun n hn => by
  simp only [List.mem_cons, List.not_mem_nil, or_false] at hn
  rcases hn with rfl | rfl | rfl
  ·exact g1
  ·exact g2
  ·exact g3)
 have hc : (⟨#[99, 111, 100, 101]⟩ : ByteArray).toList = psCode.first.toList ∧ ((([Part.num a1, .num a2, .num a3].map Part.str).length + 2 : Nat) : Int) = psCode.heads + 2 ∧ nameOk a0 = true := ⟨rfl, rfl, hn⟩
 refine (zC hc).trans ?_
 rw [hm]
 rfl
theorem print_runsC {a0 : ByteArray} {a1 a2 a3 : Int} {l : List (List SIns)} (h : (printSC a0 a1 a2 a3 l).2 = 0) :
 Runs psCode 0 (printSC a0 a1 a2 a3 l).1 ⟨true, psCode.first, 3, a0, [a1, a2, a3], l.map (fun xs => xs.map (normI true))⟩ (1 + l.length + total l) ∧ nameOk a0 = true ∧ good a1 = true ∧ good a2 = true ∧ good a3 = true := by
 unfold printSC at h ⊢
 have h0 : (printHeadC a0 a1 a2 a3).2 = 0 := by
  by_cases h0 : (printHeadC a0 a1 a2 a3).2 = 0
  ·exact h0
  ·rw [blks_err h0] at h; exact absurd h h0
 obtain ⟨r0, g⟩ := head_runsC h0
 have e0 : printHeadC a0 a1 a2 a3 = ((printHeadC a0 a1 a2 a3).1, 0) := Prod.ext rfl h0
 rw [e0] at h ⊢
 obtain ⟨t, e1, r1⟩ := blks_runs (code := true) l (printHeadC a0 a1 a2 a3).1 { psCode with name := a0, head := [a1, a2, a3] } (0 + 1) (by decide) rfl h
 refine ⟨?_, g⟩
 rw [e1, show 1 + l.length + total l = 1 + (l.length + total l) by omega]
 exact r0.more r1
theorem print_smallC {a0 : ByteArray} {a1 a2 a3 : Int} {l : List (List SIns)} (hl : Light l) (h : (printSC a0 a1 a2 a3 l).2 = 0) : (printSC a0 a1 a2 a3 l).1.length ≤ 88320 := by
 have hw := h
 unfold printSC at h ⊢
 have h0 : (printHeadC a0 a1 a2 a3).2 = 0 := by
  by_cases h0 : (printHeadC a0 a1 a2 a3).2 = 0
  ·exact h0
  ·rw [blks_err h0] at h; exact absurd h h0
 obtain ⟨-, hn, g1, g2, g3⟩ := head_runsC h0
 have hg : ∀ p ∈ [Part.nm a0, .num a1, .num a2, .num a3], PartGood p := fun p hp => by
  simp only [List.mem_cons, List.not_mem_nil, or_false] at hp
  rcases hp with rfl | rfl | rfl | rfl
  ·exact hn
  ·exact g1
  ·exact g2
  ·exact g3
 have hh : (printHeadC a0 a1 a2 a3).1.length ≤ 57 := by
  unfold printHeadC
  dsimp only
  have := flat_small _ hg
  rw [lineBytes_flat, List.length_append, List.length_append]
  have e4 : (⟨#[99, 111, 100, 101]⟩ : ByteArray).data.toList.length = 4 := rfl
  simp only [List.length_singleton, List.length_cons, List.length_nil] at this ⊢
  omega
 have e0 : printHeadC a0 a1 a2 a3 = ((printHeadC a0 a1 a2 a3).1, 0) := Prod.ext rfl h0
 rw [e0] at h ⊢
 have h2 := blks_small l _ (fun xs hx x hy => (hl.lite xs hx x hy).ln) h
 have := hl.len
 have := hl.tot
 omega
theorem parseAll_forthC {s : ByteArray} (h : (parseAll psCode s).2.1 = 0) :
 ∃ (nm : ByteArray) (a b c : Int) (l : List (List SIns)), (parseAll psCode s).2.2.name = nm ∧ (parseAll psCode s).2.2.head = [a, b, c] ∧ (parseAll psCode s).2.2.blocks = l ∧ nameOk nm = true ∧ good a = true ∧ good b = true ∧ good c = true ∧ (∀ xs ∈ l, ∀ x ∈ xs, Told true x 0) ∧ printSC nm a b c l = (s.data.toList, 0) := by
 unfold parseAll at h ⊢
 by_cases hz : s.size = 0
 ·rw [zC hz] at h; exact absurd h (by show ¬ (80 : Int) = 0; decide)
 rw [zD hz] at h ⊢
 unfold parseR at h ⊢
 rw [zD hz] at h ⊢
 by_cases h0 : (stepP 0 psCode (cutB s).1).1 = 0
 ·rw [zC h0] at h ⊢
  have hw : wholeB (cutB s).1 = true := by
   cases hw : wholeB (cutB s).1 with
   | true => rfl
   | false => unfold stepP at h0; rw [zC hw] at h0; exact absurd h0 (by show ¬ (80 : Int) = 0; decide)
  have hwn : ¬ wholeB (cutB s).1 = false := by rw [hw]; decide
  have hst : stepP 0 psCode (cutB s).1 = topP psCode (wordsOf (trimB (cutB s).1)) := by unfold stepP; rw [zD hwn, zC rfl]
  rw [hst] at h0 h ⊢
  obtain ⟨w0, w1, rest, hws, e0, hlen, hnm⟩ : ∃ w0 w1 rest, wordsOf (trimB (cutB s).1) = w0 :: w1 :: rest ∧ w0.toList = psCode.first.toList ∧ ((rest.length + 2 : Nat) : Int) = psCode.heads + 2 ∧ nameOk w1 = true := by
   unfold topP at h0
   split at h0
   ·next w0 w1 rest he =>
    split at h0
    ·next hc => exact ⟨w0, w1, rest, he, hc.1, hc.2.1, hc.2.2⟩
    ·exact absurd h0 (by show ¬ (80 : Int) = 0; decide)
   ·exact absurd h0 (by show ¬ (80 : Int) = 0; decide)
  have htop : topP psCode (w0 :: w1 :: rest) = (match rest.mapM numOf with | some l => (0, { psCode with name := w1, head := l }) | none => (81, psCode)) := zC ⟨e0, hlen, hnm⟩
  rw [hws, htop] at h0 h ⊢
  cases hm : rest.mapM numOf with
  | none => rw [hm] at h0; exact absurd h0 (by show ¬ (81 : Int) = 0; decide)
  | some l =>
   rw [hm] at h
   try dsimp only at h ⊢
   have hll := mapM_len hm
   have h2 : rest.length = 3 := by have : psCode.heads = 3 := rfl; omega
   match l, (show l.length = 3 by omega) with
   | [a, b, c], _ =>
    obtain ⟨g1, g2⟩ := nums_back _ _ hm
    have ga := g2 a (by simp)
    have gb := g2 b (by simp)
    have gc := g2 c (by simp)
    have hhd : printHeadC w1 a b c = (rawLine (w0 :: w1 :: rest), 0) := by
     unfold printHeadC
     rw [name_eq]
     have hpg : ∀ p ∈ [Part.nm w1, .num a, .num b, .num c], PartGood p := fun p hp => by
      simp only [List.mem_cons, List.not_mem_nil, or_false] at hp
      rcases hp with rfl | rfl | rfl | rfl
      ·exact hnm
      ·exact ga
      ·exact gb
      ·exact gc
     rw [hnm]
     dsimp only [Option.getD_some]
     rw [zC rfl, errs_zero _ hpg, ← raw_line]
     have ew : (⟨#[99, 111, 100, 101]⟩ : ByteArray) = w0 := (toList_inj.1 e0).symm
     have es : [Part.nm w1, Part.num a, Part.num b, Part.num c].map Part.str = w1 :: rest := by
      rw [← g1]; rfl
     rw [es, ew]
    have hcl := cutB_less hz
    obtain ⟨r1, r2, r3, r4⟩ := parseR_forth (hd := rawLine (w0 :: w1 :: rest)) 0 s.size (0 + 1) { psCode with name := w1, head := [a, b, c] } (cutB s).2 (rawLine (w0 :: w1 :: rest)) (by decide) hcl (.inl rfl) h rfl (fun b hb => by cases hb)
    refine ⟨w1, a, b, c, _, r3, r4, rfl, hnm, ga, gb, gc, r2, ?_⟩
    unfold printSC
    rw [hhd]
    refine r1.trans ?_
    rw [← hws, ← cut_forth s hw]
 ·rw [zD h0] at h; exact absurd h h0
end Go.Proofs.YtniknpjeknmpjaaGreatDoor.PlainText
namespace Go.Proofs.YtniknpjeknmpjaaGreatDoor.RTextCodes.Pure
open Go Go.RowKit Go.Proofs.YtniknpjeknmpjaaGreatDoorW.PrintWords Go.Proofs.YtniknpjeknmpjaaGreatDoorW.PrintMore Go.Proofs.YtniknpjeknmpjaaGreatDoor.Q Go.Proofs.YtniknpjeknmpjaaGreatDoor.Plain Go.Proofs.YtniknpjeknmpjaaGreatDoor.PlainNum Go.Proofs.YtniknpjeknmpjaaGreatDoor.PlainName Go.Proofs.YtniknpjeknmpjaaGreatDoor.PlainText
set_option linter.unusedVariables false
set_option linter.unusedSimpArgs false
theorem i64w {n : Int} (h : (Lit.int .i64 n).wf = true) : -9223372036854775808 ≤ n ∧ n ≤ 9223372036854775807 := i64_range h
theorem again {a0 : ByteArray} {a1 a2 a3 : Int} {l : List (List SIns)} (hL : Light l) (he : (printSC a0 a1 a2 a3 l).2 = 0) : ∃ V, text_ParseCode.f ⟨(printSC a0 a1 a2 a3 l).1.toArray⟩ = some V ∧ V.2.2.2.2.2.1 = 0 ∧ V.2.2.2.2.2.2 = 0 ∧ text_PrintCode.f V.1 V.2.1 V.2.2.1 V.2.2.2.1 V.2.2.2.2.1 = some (⟨(printSC a0 a1 a2 a3 l).1.toArray⟩, 0) := by
 have hz : (⟨(printSC a0 a1 a2 a3 l).1.toArray⟩ : ByteArray).size = (printSC a0 a1 a2 a3 l).1.length := by show (printSC a0 a1 a2 a3 l).1.toArray.size = _; simp
 have hsm := print_smallC hL he
 obtain ⟨hr, -⟩ := print_runsC he
 have hp := parse_told hr (by omega)
 obtain ⟨s, hs⟩ : ∃ s : ByteArray, s = ⟨(printSC a0 a1 a2 a3 l).1.toArray⟩ := ⟨_, rfl⟩
 rw [← hs] at hp hz ⊢
 have h0 : (parseAll psCode s).2.1 = 0 := by rw [hp]
 obtain ⟨nm, a, b, c, l2, e1, e2, e3, hn, ga, gb, gc, hT, hpr⟩ := parseAll_forthC h0
 have hV : text_ParseCode.f s = some (nm, a, b, c, l2, 0, 0) := by
  unfold text_ParseCode.f
  rw [zC (by omega), zC h0, e1, e2, e3]
  rfl
 have ho : printOkBC nm a b c l2 = true := by
  unfold printOkBC
  rw [name_eq, hpr]
  have hz2 : s.data.toList.length = s.size := by simp
  simp only [Bool.and_eq_true, decide_eq_true_eq]
  rw [hz2]
  exact ⟨⟨⟨⟨⟨rfl, part_ok (p := .num a) ga⟩, part_ok (p := .num b) gb⟩, part_ok (p := .num c) gc⟩, List.all_eq_true.2 fun xs hx => List.all_eq_true.2 fun x hy => told_ok (hT xs hx x hy) (by omega)⟩, by omega⟩
 refine ⟨_, hV, rfl, rfl, ?_⟩
 unfold text_PrintCode.f
 rw [zC ho, hpr]
 rfl
theorem TextCodes : TextCodes.Pure := by
 intro a0 a1 a2 a3 l h0 h1 h2 h3 ⟨_, _, hl⟩
 refine Ev.rounds ?_
 obtain ⟨b, hb, hlight⟩ := heavy_ev l
 unfold cubbylaw08_TextCodes.f
 refine Ev.bind hb ?_
 have yes : Ev (fun k => cubbylaw08_TextCodes.j0 k true a0 a1 a2 a3 l) true := Ev.step (f := fun _ => some true) (fun k => by simp only [cubbylaw08_TextCodes.j0]; rw [zC (by simp)]) (Ev.now _)
 cases b with
 | true => exact yes
 | false =>
  obtain ⟨h4, h5, h6⟩ := hlight rfl
  by_cases h8 : (a0.size : Int) > 256
  ·exact Ev.congr (fun k => by rw [zD (by simp), zF h8]) yes
  refine Ev.congr (f := fun k => cubbylaw08_TextCodes.j0 k false a0 a1 a2 a3 l) (fun k => by rw [zD (by simp), zG h8]) ?_
  have hL : Light l := ⟨h4, h5, fun xs hx x hy => by
   obtain ⟨_, _, hz⟩ := hl xs hx
   obtain ⟨g0, g1, g2, g3, _, _, _, g5⟩ := hz x hy
   obtain ⟨t1, t2⟩ := h6 xs hx x hy
   exact ⟨i64w g1, i64w g2, i64w g3, t2, t1, fun n hn => i64w (g5 n hn)⟩⟩
  have h7 : a0.size ≤ 256 := by omega
  have hp := print_eqC h7 (i64w h1) (i64w h2) (i64w h3) hL
  refine Ev.step (fun k => by simp only [cubbylaw08_TextCodes.j0]; rw [zD (by simp), hp]; rfl) (Ev.bind (refprint_evC h7 (i64w h1) (i64w h2) (i64w h3) hL) (f := fun k (bt344 : ByteArray × Int) => (if (toldC a0 a1 a2 a3 l).1.toList = bt344.1.toList then (cubbylaw08_TextCodes.j1 k (toldC a0 a1 a2 a3 l).1 (toldC a0 a1 a2 a3 l).2 ((toldC a0 a1 a2 a3 l).2 != bt344.2)) else (cubbylaw08_TextCodes.j1 k (toldC a0 a1 a2 a3 l).1 (toldC a0 a1 a2 a3 l).2 true))) ?_)
  simp only [if_true, bne_self_eq_false]
  by_cases he : (printSC a0 a1 a2 a3 l).2 = 0
  ·have et : toldC a0 a1 a2 a3 l = (⟨(printSC a0 a1 a2 a3 l).1.toArray⟩, 0) := zC he
   rw [et]
   obtain ⟨V, q1, q2, q3, q4⟩ := again hL he
   refine Ev.step (f := fun _ => some true) (fun k => ?_) (Ev.now _)
   simp only [cubbylaw08_TextCodes.j1]
   rw [zD (by simp), zC trivial, q1]
   simp only [zJ]
   rw [q4]
   simp only [zJ]
   rw [zC q3, zC q2, zC trivial]
   simp
  ·have et : toldC a0 a1 a2 a3 l = (emp, (printSC a0 a1 a2 a3 l).2) := zD he
   rw [et]
   refine Ev.step (f := fun _ => some true) (fun k => ?_) (Ev.now _)
   simp only [cubbylaw08_TextCodes.j1]
   rw [zD (by simp), zD he, toList_data]
   rfl
end Go.Proofs.YtniknpjeknmpjaaGreatDoor.RTextCodes.Pure
namespace Go.Proofs.YtniknpjeknmpjaaGreatDoor.RTextCodes
open Go.ChangeShapes Go.WideShapes Go.ChangeAt
open Go.ChangeMaps (open_string shut_string)
open Go Go.RowKit Go.Proofs.YtniknpjeknmpjaaGreatDoorW.PrintWords Go.Proofs.YtniknpjeknmpjaaGreatDoorW.PrintLast Go.Proofs.YtniknpjeknmpjaaGreatDoorW.PrintMore Go.Proofs.YtniknpjeknmpjaaGreatDoor.Q Go.Proofs.YtniknpjeknmpjaaGreatDoor.Open
set_option linter.unusedVariables false
theorem own : ownKnob Tryz.prog.godebug = none := by kernel_rfl
theorem laidOut : laidOutB Tryz.prog = true := by kernel_rfl
theorem opensIns : Opens Tryz.prog 44 kIns GIns :=
 (Opens.iso (fun x : SIns => (x.f0, x.f1, x.f2, x.f3, x.f4, x.f5)) (fun y => ⟨y.1, y.2.1, y.2.2.1, y.2.2.2.1, y.2.2.2.2.1, y.2.2.2.2.2⟩) (fun _ => rfl) (Opens.struct Tryz.underlying44 (by kernel_rfl) (OpensFs.cons rfl (Opens.int (Tryz.underlying3) (by kernel_rfl)) (OpensFs.cons rfl (Opens.int (Tryz.underlying3) (by kernel_rfl)) (OpensFs.cons rfl (Opens.int (Tryz.underlying3) (by kernel_rfl)) (OpensFs.cons rfl (Opens.int (Tryz.underlying3) (by kernel_rfl)) (OpensFs.cons rfl (Opens.string (Tryz.underlying9) (by kernel_rfl)) (OpensFs.one rfl (Opens.slice (B := 8) (Tryz.underlying42) (by kernel_rfl) (by kernel_rfl) (Opens.int (Tryz.underlying3) (by kernel_rfl))))))))))).imp (fun _ h => h)
set_option maxRecDepth 100000 in
theorem lifted (os : Os) (started : os.Started) (H : Type) (enc : TypeId × Value → H) :
 ReturnsInHanded {} Tryz.checked os 4 .any (fun w args => (Rows.textCodesSpec.pre enc Tryz.prog Tryz.f4 [] false w args ∧ laidMetH Tryz.prog Rows.textCodesRow.laid w) ∧ sizedMet enc Tryz.prog Tryz.f4 (OpenSpec.ofChange Rows.textCodesSpec) false w args) (Rows.textCodesSpec.post enc Tryz.prog Tryz.f4 false true false false) := by
 refine returnsInHanded_of_change_and (C := Tryz.checked) (X := fun w _ => laidMetH Tryz.prog Rows.textCodesRow.laid w) (fun _ _ _ hh h => h.of_heap hh) own started (by kernel_rfl) Tryz.func4
  (ChangeSpec.witness_shaped (enc := enc) (C := Tryz.checked) (os := os) (X := fun w _ => laidMetH Tryz.prog Rows.textCodesRow.laid w) false (World.laidAll Tryz.prog os Rows.textCodesRow.laid) #[.agg #[.string ByteArray.empty, .int .i64 0, .int .i64 0, .int .i64 0, .slice none 0 0]] 8 (World.laidAll_os _ _ _)
    (World.shaped_of_ZipB (by kernel_rfl) (by kernel_rfl)) (by kernel_rfl) (by kernel_rfl) (by kernel_rfl)
    (by rw [MakeChecks.laidMetH_plain _ _ _ (by kernel_rfl)]; exact laidMet_laidAll _ (by kernel_rfl) (by kernel_rfl))) ?_
 intro W base args ds gs before hval0 hW hcnd hsz0 hL0 _
 rw [MakeChecks.laidMetH_plain _ _ _ (by kernel_rfl)] at hL0
 have LAIDF : LaidW W := LaidW.of_met (show laidMet Tryz.prog laidList W from hL0)
 have hsz : (DataW.weightsEach Tryz.prog (Tryz.f4.params.toList ++ Rows.textCodesSpec.plain.varTypes Tryz.prog) (ds ++ gs)).all (· ≤ reachBytes) = true := hsz0
 have hval : ∀ (j : Nat) t v, Tryz.f4.params[j]? = some t → args[j]? = some v → Value.okWide Tryz.prog W .any base t v := hval0
 have hW' := hW
 obtain ⟨p, q, hA0, hV, rfl, hfz, hnd⟩ := hW
 have hA : DataW.TrodAll enc Tryz.prog W 0 (fun _ => true) true Tryz.f4.params.toList args.toList ds p := hA0
 rw [Tryz.params4] at hA hval hsz
 obtain ⟨v0, vs0, d0, ds0, p0, q0, hargs, rfl, rfl, h0, r0⟩ := trodAll_cons hA
 obtain ⟨rfl, rfl, rfl⟩ := trodAll_nil r0
 obtain rfl : args = #[v0] := by cases args; simp_all
 obtain ⟨rfl, rfl⟩ := trodVars_none hV
 have lt0 : ∀ x ∈ p0, x.block < W.heap.size := by obtain ⟨m, hm⟩ := h0; exact DataW.trod_lt m _ _ _ hm
 obtain ⟨cs0, rfl, -⟩ := okWide_struct Tryz.underlying35 (hval 0 35 v0 rfl rfl)
 obtain ⟨⟨a0_0, a0_1, a0_2, a0_3, l0_4⟩, hk0, gg0⟩ := (Opens.struct Tryz.underlying35 (by kernel_rfl) (OpensFs.cons rfl (Opens.string (Tryz.underlying9) (by kernel_rfl)) (OpensFs.cons rfl (Opens.int (Tryz.underlying3) (by kernel_rfl)) (OpensFs.cons rfl (Opens.int (Tryz.underlying3) (by kernel_rfl)) (OpensFs.cons rfl (Opens.int (Tryz.underlying3) (by kernel_rfl)) (OpensFs.one rfl (Opens.slice (B := 24) (Tryz.underlying22) (by kernel_rfl) (by kernel_rfl) (Opens.slice (B := 72) (Tryz.underlying41) (by kernel_rfl) (by kernel_rfl) opensIns))))))) : Opens Tryz.prog 35 (Kd.pair Kd.string (Kd.pair (Kd.int .i64) (Kd.pair (Kd.int .i64) (Kd.pair (Kd.int .i64) (Kd.slice 41 (Kd.slice 44 kIns)))))) (fun y => ((y.1).size ≤ 140737488351232 ∧ ((Lit.int .i64 (y.2.1)).wf = true ∧ ((Lit.int .i64 (y.2.2.1)).wf = true ∧ ((Lit.int .i64 (y.2.2.2.1)).wf = true ∧ ((y.2.2.2.2).length * 24 ≤ 140737488351232 ∧ (y.2.2.2.2).length ≤ maxLen ∧ ∀ y1 ∈ (y.2.2.2.2), ((y1).length * 72 ≤ 140737488351232 ∧ (y1).length ≤ maxLen ∧ ∀ y2 ∈ (y1), GIns (y2))))))))).arg h0 hsz (j := 0) rfl rfl
 obtain ⟨g0_0, g0_1, g0_2, g0_3, g0_4⟩ := gg0
 obtain ⟨_, _, h0_, rfl, ⟨_, _, rfl, rfl, ⟨_, _, rfl, rfl, ⟨_, _, rfl, rfl, ⟨A0_4, c0_4, rfl, hc0_4, hr0_4⟩⟩⟩⟩⟩ := hk0
 obtain rfl : cs0 = #[.string a0_0, .int .i64 a0_1, .int .i64 a0_2, .int .i64 a0_3, .slice A0_4 l0_4.length c0_4] := by
  cases cs0
  simp [Value.cells] at h0_
  simp [h0_]
 clear hA0 hval0 hsz0 hsz
 obtain ⟨k, hf⟩ := Pure.TextCodes a0_0 a0_1 a0_2 a0_3 l0_4 g0_0 g0_1 g0_2 g0_3 g0_4
 refine (Q.cubbylaw08_TextCodes.calls k a0_0 a0_1 a0_2 a0_3 A0_4 c0_4 l0_4 true W LAIDF rfl hr0_4 hc0_4 hf).mono ?_
 rintro e W' ⟨rfl, hd⟩
 have bel : Below W.heap.size W W' := hd
 exact ⟨_, rfl, _, _, _, [], _, [], hW', trodAll_mk1 (shut_bool Tryz.underlying4 _), (trodAll_cons_mk (Below.trod laidOut (by kernel_rfl) (zB (by kernel_rfl)) h0 bel lt0) trodAll_mk0), rfl, bel.frame _, fun h => by cases h⟩
theorem over : Rows.textCodesRow.holds Tryz.pinned (OpenSpec.ofChange Rows.textCodesSpec) :=
 OpenClaim.holds_of_wide 4 Tryz.f4 rfl rfl rfl rfl rfl rfl rfl ⟨rfl, rfl, rfl, rfl, rfl⟩ rfl rfl rfl rfl rfl (by kernel_rfl) Tryz.func4 (by kernel_rfl)
  (zB (by kernel_rfl)) (by unfold Func.isWrapper; first | (rw [zC (by decide +kernel)]; kernel_rfl) | (rw [zD (by decide +kernel)]; exact ⟨rfl, rfl⟩))
  (fun os started H enc _ => lifted os started H enc)
end Go.Proofs.YtniknpjeknmpjaaGreatDoor.RTextCodes
namespace Go.Proofs.YtniknpjeknmpjaaGreatDoor
theorem textCodes_holds : Rows.TextCodesSaid := RTextCodes.over
theorem textCodes_card : Rows.TextCodesCardSaid :=
 Claim7.holds_tied_plain_at .later [] [.data, .data, .data, .data, .sentinel, .sentinel, .pinned] true (true, "28e4f1c8989f8f4d08a0e5dcb87c6a5c8c7849d6e3bc898c2b42379bb70cfe4a") true textCodes_holds (fun _ h => by cases h) (by kernel_rfl) (fun _ h => by cases h) textCodes_row_tie rfl ⟨rfl, rfl⟩ (by kernel_rfl) rfl
  (fun f fn hf hfn => by
    obtain rfl : f = 4 := zI ((show Tryz.prog.funcNamed "cubby/cubbylaw08.TextCodes" = some 4 by kernel_rfl).symm.trans hf) |>.symm
    obtain rfl : fn = Tryz.f4 := (zI (Tryz.func4.symm.trans hfn)).symm
    exact ⟨by kernel_rfl, fun j t ht => by
     rw [Tryz.params4] at ht
     have hm : t ∈ [35] := by simpa using Array.mem_of_getElem? ht
     have hall : ([35].all fun u => !Tryz.prog.wantsStandIn u) = true := by kernel_rfl
     exact (show Tryz.prog.wantsStandIn t = false by simpa using List.all_eq_true.1 hall t hm)⟩)
  (by kernel_rfl)
#print axioms textCodes_card
end Go.Proofs.YtniknpjeknmpjaaGreatDoor
