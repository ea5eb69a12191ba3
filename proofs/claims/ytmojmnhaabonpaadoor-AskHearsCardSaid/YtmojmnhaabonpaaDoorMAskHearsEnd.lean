/- For every input the law AskHears returns true, and its arguments read behind the call as they did: no condition. -/
import Derived.Test.YtmojmnhaabonpaaDoorRows
import Derived.WalkKit
import Derived.ProofKit
import Derived.OpenShut
import Derived.ShutString
import Derived.ChangeOld
import Derived.Below
import Derived.SizedLaws
import Derived.Test.YtmojmnhaabonpaaDoorCards
import Derived.Test.YtmojmnhaabonpaaDoorTie
import Derived.LaidMore
import Derived.Lay
import Derived.SevenTiedAt
import Derived.Stop.Joined
import Derived.Lib.LaidU8
import Derived.Test.YtmojmnhaabonpaaDoorMAskHears1
import Derived.Test.YtmojmnhaabonpaaDoorMAskHears2
namespace Go.Proofs.YtmojmnhaabonpaaDoor.PlainNum
open Go Go.RowKit Go.Proofs.YtmojmnhaabonpaaDoorW.PrintWords Go.Proofs.YtmojmnhaabonpaaDoorW.PrintMore Go.Proofs.YtmojmnhaabonpaaDoor.Q Go.Proofs.YtmojmnhaabonpaaDoor.Plain
set_option linter.unusedVariables false
def wordsL : List UInt8 → List (List UInt8)
 | [] => [[]]
 | b :: l => if b = 32 then [] :: wordsL l else match wordsL l with
  | w :: r => (b :: w) :: r
  | [] => [[b]]
theorem wordsL_ne : ∀ l, wordsL l ≠ []
 | [] => by simp [wordsL]
 | b :: l => by
  unfold wordsL
  split
  ·simp
  ·split <;> simp
theorem wordsL_one : ∀ {a : List UInt8}, (32 : UInt8) ∉ a → wordsL a = [a]
 | [], _ => rfl
 | b :: a, h => by
  have h1 : ¬ b = 32 := fun e => h (by rw [e]; exact List.mem_cons_self)
  unfold wordsL
  rw [zD h1, wordsL_one (fun hm => h (List.mem_cons_of_mem _ hm))]
theorem wordsL_cons : ∀ {a : List UInt8} (b : List UInt8), (32 : UInt8) ∉ a → wordsL (a ++ 32 :: b) = a :: wordsL b
 | [], b, _ => by simp [wordsL]
 | c :: a, b, h => by
  have h1 : ¬ c = 32 := fun e => h (by rw [e]; exact List.mem_cons_self)
  simp only [List.cons_append, wordsL, zD h1, wordsL_cons b (fun hm => h (List.mem_cons_of_mem _ hm))]
def unw : List (List UInt8) → List UInt8
 | [] => []
 | [w] => w
 | w :: v :: r => w ++ 32 :: unw (v :: r)
theorem unw_words : ∀ l, unw (wordsL l) = l
 | [] => rfl
 | b :: l => by
  have ih := unw_words l
  have hne := wordsL_ne l
  unfold wordsL
  split
  ·rename_i h
   cases hw : wordsL l with
   | nil => exact absurd hw hne
   | cons w r => rw [hw] at ih; simp only [unw, List.nil_append, ih, h]
  ·cases hw : wordsL l with
   | nil => exact absurd hw hne
   | cons w r =>
    rw [hw] at ih
    cases r with
    | nil => simp only [unw] at ih ⊢; rw [ih]
    | cons v r => simp only [unw, List.cons_append] at ih ⊢; rw [ih]
def bytesOfL (ws : List ByteArray) : List (List UInt8) := ws.map fun w => w.data.toList
theorem bytes_inj {ws vs : List ByteArray} (h : bytesOfL ws = bytesOfL vs) : ws = vs := by
 exact (List.map_inj_right (f := fun w : ByteArray => w.data.toList) (fun x y hxy => ba_ext hxy)).1 h
theorem ex_list (s : ByteArray) (i j : Nat) : (s.extract i j).data.toList = (s.data.toList.drop i).take (j - i) := by
 rw [ByteArray.data_extract, Array.toList_extract]
 first | done | rfl | simp [List.extract]
theorem index_none : ∀ {l : List UInt8}, Lib.indexByte l 32 = -1 → (32 : UInt8) ∉ l
 | [], _ => by simp
 | b :: l, h => by
  unfold Lib.indexByte at h
  split at h
  ·simp at h
  ·rename_i hb
   have hge := Lib.indexByte_ge l 32
   split at h
   ·rename_i h2
    have := index_none (by simpa using h2)
    intro hm
    rcases List.mem_cons.1 hm with h3 | h3
    ·exact hb (by simp [h3])
    ·exact this h3
   ·rename_i h2
    have h3 : Lib.indexByte l 32 ≠ -1 := by simpa using h2
    omega
theorem index_some : ∀ {l : List UInt8} {i : Nat}, Lib.indexByte l 32 = (i : Int) → i < l.length ∧ l = l.take i ++ 32 :: l.drop (i + 1) ∧ (32 : UInt8) ∉ l.take i
 | [], i, h => by simp only [Lib.indexByte] at h; omega
 | b :: l, i, h => by
  unfold Lib.indexByte at h
  split at h
  ·rename_i hb
   obtain rfl : i = 0 := by omega
   have : b = 32 := by simpa using hb
   subst this
   simp
  ·rename_i hb
   have hge := Lib.indexByte_ge l 32
   split at h
   ·omega
   ·rename_i h2
    have h3 : Lib.indexByte l 32 ≠ -1 := by simpa using h2
    obtain ⟨q, hq⟩ : ∃ q : Nat, Lib.indexByte l 32 = q := ⟨(Lib.indexByte l 32).toNat, by omega⟩
    obtain rfl : i = q + 1 := by omega
    obtain ⟨h4, h5, h6⟩ := index_some hq
    refine ⟨by simp; omega, ?_, ?_⟩
    ·rw [List.take_succ_cons, List.drop_succ_cons, List.cons_append, ← h5]
    ·rw [List.take_succ_cons]
     intro hm
     rcases List.mem_cons.1 hm with h7 | h7
     ·exact hb (by simp [h7])
     ·exact h6 h7
theorem splitB_words : ∀ (k : Nat) (s : ByteArray), s.data.toList.count 32 ≤ k → bytesOfL (Lib.splitB blank1 0 k s) = wordsL s.data.toList
 | 0, s, h => by
  have hn : (32 : UInt8) ∉ s.data.toList := fun hm => by have := List.count_pos_iff.2 hm; omega
  rw [wordsL_one hn]; rfl
 | k + 1, s, h => by
  have hi : Lib.indexB s blank1 = Lib.indexByte s.data.toList 32 := by show Lib.index s.data.toList [32] = _; rw [Lib.index_one]
  unfold Lib.splitB
  rw [hi]
  have hge := Lib.indexByte_ge s.data.toList 32
  by_cases h1 : Lib.indexByte s.data.toList 32 = -1
  ·rw [zC (by rw [h1]; rfl), wordsL_one (index_none h1)]; rfl
  ·obtain ⟨i, hq⟩ : ∃ i : Nat, Lib.indexByte s.data.toList 32 = i := ⟨(Lib.indexByte s.data.toList 32).toNat, by omega⟩
   obtain ⟨h2, h3, h4⟩ := index_some hq
   rw [zD (by simpa using h1), hq, Int.toNat_natCast]
   have hsz : s.size = s.data.toList.length := by simp
   have e1 : (s.extract 0 (i + 0)).data.toList = s.data.toList.take i := by rw [ex_list]; simp
   have e2 : (s.extract (i + blank1.size) s.size).data.toList = s.data.toList.drop (i + 1) := by
    rw [ex_list, hsz]
    show (s.data.toList.drop (i + 1)).take _ = _
    have hb1 : blank1.size = 1 := rfl
    rw [List.take_of_length_le (by rw [List.length_drop, hb1]; omega)]
   have hc : (s.data.toList.drop (i + 1)).count 32 ≤ k := by
    have := congrArg (List.count 32) h3
    rw [List.count_append, List.count_cons_self] at this
    omega
   have ih := splitB_words k (s.extract (i + blank1.size) s.size) (by rw [e2]; exact hc)
   have hw := wordsL_cons (s.data.toList.drop (i + 1)) h4
   rw [← h3] at hw
   rw [hw, ← e2, ← ih]
   show (s.extract 0 (i + 0)).data.toList :: _ = _
   rw [e1]
   rfl
theorem wordsOf_bytes (s : ByteArray) : bytesOfL (wordsOf s) = wordsL s.data.toList := by
 refine splitB_words _ s ?_
 show _ ≤ Lib.count s.data.toList [32]
 rw [Lib.count_one]
 exact Nat.le_refl _
theorem wordsOf_of {s : ByteArray} {ws : List ByteArray} (h : bytesOfL ws = wordsL s.data.toList) : wordsOf s = ws := bytes_inj ((wordsOf_bytes s).trans h.symm)
theorem refwords_loop (s : ByteArray) (hs : s.size ≤ 1000000) : ∀ (d i f : Nat) (out : List ByteArray), s.size + 1 - i = d → i ≤ s.size + 1 → f ≤ i → out.length ≤ i → (i ≤ s.size → (32 : UInt8) ∉ (s.data.toList.drop f).take (i - f)) →
 ∃ r, Ev (fun k => cubbyref21_words.l0 k s out (f : Int) (i : Int)) r ∧ bytesOfL r = bytesOfL out ++ (if i ≤ s.size then wordsL (s.data.toList.drop f) else []) := by
 have hsz : s.size = s.data.toList.length := by simp
 intro d
 induction d with
 | zero =>
  intro i f out hd hi hf ho hn
  refine ⟨out, ⟨1, fun k hk => ?_⟩, by rw [zD (by omega), List.append_nil]⟩
  obtain ⟨q, rfl⟩ : ∃ q, k = q + 1 := ⟨k - 1, by omega⟩
  simp only [cubbyref21_words.l0]
  rw [zD (by omega)]
 | succ d ih =>
  intro i f out hd hi hf ho hn
  have hie : i ≤ s.size := by omega
  have hex : (s.extract f i).data.toList = (s.data.toList.drop f).take (i - f) := ex_list s f i
  have hnn := hn hie
  by_cases hend : i = s.size
  ·obtain ⟨r, hr, hr2⟩ := ih (i + 1) (i + 1) (out ++ [s.extract f i]) (by omega) (by omega) (Nat.le_refl _) (by simp; omega) (fun h => absurd h (by omega))
   refine ⟨r, Ev.step (fun k => ?_) hr, ?_⟩
   ·simp only [cubbyref21_words.l0]
    rw [zC (by omega), zC (by omega), zC (by omega), zC (by omega), zC (by omega), wrap_nat (by omega), Int.toNat_natCast, Int.toNat_natCast]
   ·rw [hr2, zD (by omega), List.append_nil, zC hie]
    have e : (s.data.toList.drop f).take (i - f) = s.data.toList.drop f := List.take_of_length_le (by simp; omega)
    rw [e] at hnn hex
    rw [wordsL_one hnn]
    simp only [bytesOfL, List.map_append, List.map_cons, List.map_nil, hex]
  ·have hlt : i < s.data.toList.length := by omega
   have hbt := bt_get hlt
   have hsplit : s.data.toList.drop f = (s.data.toList.drop f).take (i - f) ++ s.data.toList[i] :: s.data.toList.drop (i + 1) := by
    have h1 := (List.take_append_drop (i - f) (s.data.toList.drop f)).symm
    rw [List.drop_drop, show f + (i - f) = i by omega, List.drop_eq_getElem_cons hlt] at h1
    exact h1
   by_cases hb : s.data.toList[i] = 32
   ·obtain ⟨r, hr, hr2⟩ := ih (i + 1) (i + 1) (out ++ [s.extract f i]) (by omega) (by omega) (Nat.le_refl _) (by simp; omega) (fun h => by simp)
    refine ⟨r, Ev.step (fun k => ?_) hr, ?_⟩
    ·simp only [cubbyref21_words.l0]
     rw [zC (by omega), zD (by omega), zC (by omega), zC (by omega), hbt, hb, zC (by decide), zC (by omega), zC (by omega), zC (by omega), wrap_nat (by omega), Int.toNat_natCast, Int.toNat_natCast]
    ·rw [hr2, zC (by omega), zC hie]
     rw [hb] at hsplit
     rw [hsplit, wordsL_cons _ hnn]
     simp only [bytesOfL, List.map_append, List.map_cons, List.map_nil, hex, List.append_assoc, List.cons_append, List.nil_append]
   ·obtain ⟨r, hr, hr2⟩ := ih (i + 1) f out (by omega) (by omega) (by omega) (by omega) (fun h => by
     have e : (s.data.toList.drop f).take (i + 1 - f) = (s.data.toList.drop f).take (i - f) ++ [s.data.toList[i]] := by
      rw [show i + 1 - f = (i - f) + 1 by omega, List.take_succ_eq_append_getElem (by simp; omega)]
      simp only [List.getElem_drop, show f + (i - f) = i by omega]
     rw [e]
     intro hm
     rcases List.mem_append.1 hm with h1 | h1
     ·exact hnn h1
     ·exact hb (List.mem_singleton.1 h1).symm)
    refine ⟨r, Ev.step (fun k => ?_) hr, ?_⟩
    ·simp only [cubbyref21_words.l0]
     have hne : ¬ ((s.data.toList[i]).toNat : Int) = 32 := fun e => hb (by
      have : (s.data.toList[i]).toNat = 32 := by omega
      exact UInt8.toNat_inj.1 this)
     rw [zC (by omega), zD (by omega), zC (by omega), zC (by omega), hbt, zD hne, wrap_nat (by omega)]
    ·rw [hr2, zC hie, zC (by omega)]
theorem refwords_ev (s : ByteArray) (hs : s.size ≤ 1000000) : Ev (fun k => cubbyref21_words.f k s) (wordsOf s) := by
 obtain ⟨r, hr, hr2⟩ := refwords_loop s hs _ 0 0 [] rfl (by omega) (Nat.le_refl _) (Nat.zero_le _) (fun _ => by simp)
 rw [zC (by omega), List.drop_zero] at hr2
 rw [wordsOf_of (ws := r) (by rw [hr2]; rfl)]
 exact hr
def sp : ByteArray := ⟨#[32]⟩
def IsNum (n : Int) : Prop := 0 ≤ n ∧ n < 2147483648
instance (n : Int) : Decidable (IsNum n) := by unfold IsNum; infer_instance
def tellL (w : ByteArray) : List Int → ByteArray
 | [] => w
 | n :: l => tellL (w ++ (sp ++ num n)) l
def tellOr (w : ByteArray) (l : List Int) : ByteArray × Int := if ∀ n ∈ l, IsNum n then (tellL w l, 0) else (noS, 210)
def tellA (k a b c : Int) (t : ByteArray) : ByteArray × Int :=
 if k = 1 then tellOr okS [a] else if k = 2 then (codeS ++ t, 0) else if k = 3 then (missS, 0) else if k = 4 then tellOr errorS [a, b] else if k = 5 then tellOr statsS [a, b, c] else (noS, 210)
theorem apsz (a b : ByteArray) : (a ++ b).size = a.size + b.size := ByteArray.size_append
theorem apas (a b c : ByteArray) : a ++ b ++ c = a ++ (b ++ c) := ByteArray.append_assoc
theorem line_loop (L : List Int) : ∀ (l : List Int) (j : Nat) (w : ByteArray), L.drop j = l → j ≤ L.length → L.length ≤ 1000 → w.size ≤ 1000 + 100 * j →
 Ev (fun k => ask_line.l0 k w L (L.length : Int) (j : Int)) (tellOr w l)
 | [], j, w, hl, hj, hL, hw => by
  have : j = L.length := by have := congrArg List.length hl; simp at this; omega
  refine ⟨1, fun k hk => ?_⟩
  obtain ⟨q, rfl⟩ : ∃ q, k = q + 1 := ⟨k - 1, by omega⟩
  simp only [ask_line.l0]
  rw [zD (by omega)]
  rfl
 | n :: l, j, w, hl, hj, hL, hw => by
  have hlt : j < L.length := by
   rcases Nat.lt_or_ge j L.length with h | h
   ·exact h
   ·rw [List.drop_eq_nil_of_le h] at hl; cases hl
  rw [drop_cons hlt] at hl
  simp only [List.cons.injEq] at hl
  obtain ⟨hn, hl⟩ := hl
  have hrd : rd L (j : Int) = n := by rw [rd_get hlt, hn]
  have bad : ¬ IsNum n → tellOr w (n :: l) = (noS, 210) := fun h => zD (fun ha => h (ha n List.mem_cons_self))
  by_cases h1 : n < 0
  ·rw [bad (fun h => by have := h.1; omega)]
   refine ⟨1, fun k hk => ?_⟩
   obtain ⟨q, rfl⟩ : ∃ q, k = q + 1 := ⟨k - 1, by omega⟩
   simp only [ask_line.l0]
   rw [zC (by omega), zC (by omega), zC (by omega), hrd, zC h1]
   rfl
  by_cases h2 : n ≥ 2147483648
  ·rw [bad (fun h => by have := h.2; omega)]
   refine ⟨1, fun k hk => ?_⟩
   obtain ⟨q, rfl⟩ : ∃ q, k = q + 1 := ⟨k - 1, by omega⟩
   simp only [ask_line.l0]
   rw [zC (by omega), zC (by omega), zC (by omega), hrd, zD h1, zC h2]
   rfl
  have hz := num_size (n := n) (by omega)
  have hsp : sp.size = 1 := rfl
  have hsz : (w ++ (sp ++ num n)).size = w.size + (1 + (num n).size) := by rw [apsz, apsz, hsp]
  have ih := line_loop L l (j + 1) (w ++ (sp ++ num n)) hl (by omega) hL (by rw [hsz]; omega)
  have e : tellOr w (n :: l) = tellOr (w ++ (sp ++ num n)) l := by
   unfold tellOr
   have : (∀ m ∈ n :: l, IsNum m) ↔ ∀ m ∈ l, IsNum m := ⟨fun h m hm => h m (List.mem_cons_of_mem _ hm), fun h m hm => by
    rcases List.mem_cons.1 hm with hm | hm
    ·rw [hm]; exact ⟨by omega, by omega⟩
    ·exact h m hm⟩
   simp only [this, tellL]
  rw [e]
  have hi : strconv_Itoa_28.f n = some (num n) := by unfold strconv_Itoa_28.f; rw [zC (by omega), itoa_num (by omega)]
  refine Ev.step (fun k => ?_) ih
  simp only [ask_line.l0]
  rw [zC (by omega), zC (by omega), zC (by omega), hrd, zD h1, zD h2, hi, zJ, zC (by omega), zC (by rw [apsz]; show _ + (1 + _) ≤ _; omega), wrap_nat (by omega)]
  rfl
theorem line_ev (w : ByteArray) (l : List Int) (hl : l.length ≤ 1000) (hw : w.size ≤ 1000) : Ev (fun k => ask_line.f k w l) (tellOr w l) := line_loop l l 0 w rfl (Nat.zero_le _) hl (by omega)
theorem tell_ev (k a b c : Int) (t : ByteArray) (ht : t.size ≤ 1000000) : Ev (fun q => ask_Tell.f q k a b c t) (tellA k a b c t) := by
 unfold ask_Tell.f tellA
 by_cases h1 : k = 1
 ·simp only [zC h1]; exact Ev.bind (line_ev okS [a] (by simp) (by decide)) (Ev.now _)
 simp only [zD h1]
 by_cases h2 : k = 2
 ·simp only [zC h2, zC (show 5 + t.size ≤ 9223372036854775807 by omega)]; exact Ev.now _
 simp only [zD h2]
 by_cases h3 : k = 3
 ·simp only [zC h3]; exact Ev.bind (line_ev missS [] (by simp) (by decide)) (Ev.now _)
 simp only [zD h3]
 by_cases h4 : k = 4
 ·simp only [zC h4]; exact Ev.bind (line_ev errorS [a, b] (by simp) (by decide)) (Ev.now _)
 simp only [zD h4]
 by_cases h5 : k = 5
 ·simp only [zC h5]; exact Ev.bind (line_ev statsS [a, b, c] (by simp) (by decide)) (Ev.now _)
 simp only [zD h5]
 exact Ev.now _
theorem number_eq (n : Int) : cubbyref21_number.f n = some (decide (IsNum n)) := by
 unfold cubbyref21_number.f IsNum
 by_cases h : n ≥ 0
 ·simp [h]
 ·have : ¬ 0 ≤ n := h
  simp [this]
theorem tellOr_yes {w : ByteArray} {l : List Int} (h : ∀ n ∈ l, IsNum n) : tellOr w l = (tellL w l, 0) := zC h
theorem tellOr_no {w : ByteArray} {l : List Int} {n : Int} (hm : n ∈ l) (h : ¬ IsNum n) : tellOr w l = (noS, 210) := zD (fun ha => h (ha n hm))
theorem reftell_ev (k a b c : Int) (t : ByteArray) (ht : t.size ≤ 1000000) : Ev (fun q => cubbyref21_Tell.f q k a b c t) (tellA k a b c t) := by
 have hz : ∀ {n : Int}, IsNum n → (num n).size ≤ 10 := fun h => num_size h.2
 have hd : ∀ {n : Int}, IsNum n → Ev (fun q => cubbyref08_Digits.f q n) (num n) := fun h => digits_ev h.1 h.2
 have j2 : ∀ x : Bool, (x = true ↔ k = 5 ∧ IsNum a ∧ IsNum b ∧ IsNum c) → ¬ k = 1 → ¬ k = 2 → ¬ k = 3 → ¬ k = 4 → Ev (fun q => cubbyref21_Tell.j2 q x k a b c t) (tellA k a b c t) := by
  intro x hx n1 n2 n3 n4
  by_cases h : x = true
  ·obtain ⟨h5, ha, hb, hc⟩ := hx.1 h
   have e : tellA k a b c t = ((((((⟨#[115, 116, 97, 116, 115, 32]⟩ : ByteArray) ++ num a) ++ (⟨#[32]⟩ : ByteArray)) ++ num b) ++ (⟨#[32]⟩ : ByteArray)) ++ num c, 0) := by
    unfold tellA
    rw [zD n1, zD n2, zD n3, zD n4, zC h5, tellOr_yes (by intro n hn; simp at hn; rcases hn with rfl | rfl | rfl <;> assumption)]
    have e0 : (⟨#[115, 116, 97, 116, 115, 32]⟩ : ByteArray) = statsS ++ sp := rfl
    have e1 : (⟨#[32]⟩ : ByteArray) = sp := rfl
    rw [e0, e1]
    simp only [tellL, apas]
   rw [e]
   have za := hz ha; have zb := hz hb; have zc := hz hc
   have s1 : (⟨#[115, 116, 97, 116, 115, 32]⟩ : ByteArray).size = 6 := rfl
   have s2 : (⟨#[32]⟩ : ByteArray).size = 1 := rfl
   refine Ev.step (fun q => by simp only [cubbyref21_Tell.j2]; rw [zC h]) (Ev.bind (hd ha) ?_)
   simp only [zC (show 6 + (num a).size ≤ 9223372036854775807 by omega), zC (show ((⟨#[115, 116, 97, 116, 115, 32]⟩ : ByteArray) ++ num a).size + 1 ≤ 9223372036854775807 by rw [apsz, s1]; omega)]
   refine Ev.bind (hd hb) ?_
   simp only [zC (show (((⟨#[115, 116, 97, 116, 115, 32]⟩ : ByteArray) ++ num a) ++ (⟨#[32]⟩ : ByteArray)).size + (num b).size ≤ 9223372036854775807 by rw [apsz, apsz, s1, s2]; omega), zC (show ((((⟨#[115, 116, 97, 116, 115, 32]⟩ : ByteArray) ++ num a) ++ (⟨#[32]⟩ : ByteArray)) ++ num b).size + 1 ≤ 9223372036854775807 by rw [apsz, apsz, apsz, s1, s2]; omega)]
   refine Ev.bind (hd hc) ?_
   simp only [zC (show (((((⟨#[115, 116, 97, 116, 115, 32]⟩ : ByteArray) ++ num a) ++ (⟨#[32]⟩ : ByteArray)) ++ num b) ++ (⟨#[32]⟩ : ByteArray)).size + (num c).size ≤ 9223372036854775807 by rw [apsz, apsz, apsz, apsz, s1, s2]; omega)]
   exact Ev.now _
  ·have e : tellA k a b c t = (noS, 210) := by
    unfold tellA
    rw [zD n1, zD n2, zD n3, zD n4]
    by_cases h5 : k = 5
    ·rw [zC h5]
     by_cases ha : IsNum a
     ·by_cases hb : IsNum b
      ·exact tellOr_no (n := c) (by simp) (fun hc => h (hx.2 ⟨h5, ha, hb, hc⟩))
      ·exact tellOr_no (n := b) (by simp) hb
     ·exact tellOr_no (n := a) (by simp) ha
    ·rw [zD h5]
   rw [e]
   exact Ev.step (fun q => by simp only [cubbyref21_Tell.j2]; rw [zD h]; rfl) (Ev.now _)
 have j1 : ∀ x : Bool, (x = true ↔ k = 4 ∧ IsNum a ∧ IsNum b) → ¬ k = 1 → ¬ k = 2 → ¬ k = 3 → Ev (fun q => cubbyref21_Tell.j1 q (decide (IsNum a)) (decide (IsNum b)) (decide (IsNum c)) x k a b c t) (tellA k a b c t) := by
  intro x hx n1 n2 n3
  by_cases h : x = true
  ·obtain ⟨h4, ha, hb⟩ := hx.1 h
   have e : tellA k a b c t = ((((⟨#[101, 114, 114, 111, 114, 32]⟩ : ByteArray) ++ num a) ++ (⟨#[32]⟩ : ByteArray)) ++ num b, 0) := by
    unfold tellA
    rw [zD n1, zD n2, zD n3, zC h4, tellOr_yes (by intro n hn; simp at hn; rcases hn with rfl | rfl <;> assumption)]
    have e0 : (⟨#[101, 114, 114, 111, 114, 32]⟩ : ByteArray) = errorS ++ sp := rfl
    have e1 : (⟨#[32]⟩ : ByteArray) = sp := rfl
    rw [e0, e1]
    simp only [tellL, apas]
   rw [e]
   have za := hz ha; have zb := hz hb
   have s1 : (⟨#[101, 114, 114, 111, 114, 32]⟩ : ByteArray).size = 6 := rfl
   have s2 : (⟨#[32]⟩ : ByteArray).size = 1 := rfl
   refine Ev.step (fun q => by simp only [cubbyref21_Tell.j1]; rw [zC h]) (Ev.bind (hd ha) ?_)
   simp only [zC (show 6 + (num a).size ≤ 9223372036854775807 by omega), zC (show ((⟨#[101, 114, 114, 111, 114, 32]⟩ : ByteArray) ++ num a).size + 1 ≤ 9223372036854775807 by rw [apsz, s1]; omega)]
   refine Ev.bind (hd hb) ?_
   simp only [zC (show (((⟨#[101, 114, 114, 111, 114, 32]⟩ : ByteArray) ++ num a) ++ (⟨#[32]⟩ : ByteArray)).size + (num b).size ≤ 9223372036854775807 by rw [apsz, apsz, s1, s2]; omega)]
   exact Ev.now _
  ·by_cases n4 : k = 4
   ·have e : tellA k a b c t = (noS, 210) := by
     unfold tellA
     rw [zD n1, zD n2, zD n3, zC n4]
     by_cases ha : IsNum a
     ·exact tellOr_no (n := b) (by simp) (fun hb => h (hx.2 ⟨n4, ha, hb⟩))
     ·exact tellOr_no (n := a) (by simp) ha
    rw [e]
    refine Ev.step (fun q => by simp only [cubbyref21_Tell.j1]; rw [zD h, zD (by omega)]) (Ev.step (fun q => by simp only [cubbyref21_Tell.j2]; rw [zD (by simp)]; rfl) (Ev.now _))
   ·by_cases h5 : k = 5
    ·by_cases ha : IsNum a
     ·by_cases hb : IsNum b
      ·exact Ev.step (fun q => by simp only [cubbyref21_Tell.j1]; rw [zD h, zC h5, zC (by simpa using ha), zC (by simpa using hb)]) (j2 (decide (IsNum c)) (by simp [h5, ha, hb]) n1 n2 n3 n4)
      ·exact Ev.step (fun q => by simp only [cubbyref21_Tell.j1]; rw [zD h, zC h5, zC (by simpa using ha), zD (by simpa using hb)]) (j2 false (by simp [hb]) n1 n2 n3 n4)
     ·exact Ev.step (fun q => by simp only [cubbyref21_Tell.j1]; rw [zD h, zC h5, zD (by simpa using ha)]) (j2 false (by simp [ha]) n1 n2 n3 n4)
    ·exact Ev.step (fun q => by simp only [cubbyref21_Tell.j1]; rw [zD h, zD h5]) (j2 false (by simp [h5]) n1 n2 n3 n4)
 have j0 : ∀ x : Bool, (x = true ↔ k = 1 ∧ IsNum a) → Ev (fun q => cubbyref21_Tell.j0 q (decide (IsNum a)) (decide (IsNum b)) (decide (IsNum c)) x k a b c t) (tellA k a b c t) := by
  intro x hx
  by_cases h : x = true
  ·obtain ⟨h1, ha⟩ := hx.1 h
   have e : tellA k a b c t = ((⟨#[111, 107, 32]⟩ : ByteArray) ++ num a, 0) := by
    unfold tellA
    rw [zC h1, tellOr_yes (by intro n hn; simp at hn; rw [hn]; exact ha)]
    have e0 : (⟨#[111, 107, 32]⟩ : ByteArray) = okS ++ sp := rfl
    rw [e0]
    simp only [tellL, apas]
   rw [e]
   have za := hz ha
   refine Ev.step (fun q => by simp only [cubbyref21_Tell.j0]; rw [zC h]) (Ev.bind (hd ha) ?_)
   simp only [zC (show 3 + (num a).size ≤ 9223372036854775807 by omega)]
   exact Ev.now _
  by_cases n2 : k = 2
  ·have e : tellA k a b c t = (codeS ++ t, 0) := by unfold tellA; rw [zD (by omega), zC n2]
   rw [e]
   exact Ev.step (fun q => by simp only [cubbyref21_Tell.j0]; rw [zD h, zC n2, zC (by omega)]; rfl) (Ev.now _)
  by_cases n3 : k = 3
  ·have e : tellA k a b c t = (missS, 0) := by unfold tellA; rw [zD (by omega), zD n2, zC n3]
   rw [e]
   exact Ev.step (fun q => by simp only [cubbyref21_Tell.j0]; rw [zD h, zD n2, zC n3]; rfl) (Ev.now _)
  by_cases n1 : k = 1
  ·have e : tellA k a b c t = (noS, 210) := by unfold tellA; rw [zC n1]; exact tellOr_no (n := a) (by simp) (fun ha => h (hx.2 ⟨n1, ha⟩))
   rw [e]
   refine Ev.step (fun q => by simp only [cubbyref21_Tell.j0]; rw [zD h, zD n2, zD n3, zD (by omega)]) (Ev.step (fun q => by simp only [cubbyref21_Tell.j1]; rw [zD (by simp), zD (by omega)]) (Ev.step (fun q => by simp only [cubbyref21_Tell.j2]; rw [zD (by simp)]; rfl) (Ev.now _)))
  by_cases n4 : k = 4
  ·by_cases ha : IsNum a
   ·exact Ev.step (fun q => by simp only [cubbyref21_Tell.j0]; rw [zD h, zD n2, zD n3, zC n4, zC (by simpa using ha)]) (j1 (decide (IsNum b)) (by simp [n4, ha]) n1 n2 n3)
   ·exact Ev.step (fun q => by simp only [cubbyref21_Tell.j0]; rw [zD h, zD n2, zD n3, zC n4, zD (by simpa using ha)]) (j1 false (by simp [ha]) n1 n2 n3)
  ·exact Ev.step (fun q => by simp only [cubbyref21_Tell.j0]; rw [zD h, zD n2, zD n3, zD n4]) (j1 false (by simp [n4]) n1 n2 n3)
 unfold cubbyref21_Tell.f
 simp only [number_eq, zJ]
 by_cases h1 : k = 1
 ·simp only [zC h1]; exact j0 (decide (IsNum a)) (by simp [h1])
 ·simp only [zD h1]; exact j0 false (by simp [h1])
theorem tl_data {a b : ByteArray} : a.toList = b.toList ↔ a.data.toList = b.data.toList := by rw [toList_data, toList_data]
theorem size_len (s : ByteArray) : s.data.toList.length = s.size := by simp
theorem prefix_eq (s p : ByteArray) : strings_CutPrefix.f s p = some (if s.data.toList.take p.size = p.data.toList then (s.extract p.size s.size, true) else (s, false)) := by
 unfold strings_CutPrefix.f stringslite_CutPrefix.f stringslite_HasPrefix.f
 by_cases c : (s.size : Int) ≥ (p.size : Int)
 ·have e : ((s.extract 0 ((p.size : Int)).toNat).toList == p.toList) = decide (s.data.toList.take p.size = p.data.toList) := by
   rw [Bool.eq_iff_iff, beq_iff_eq, decide_eq_true_iff, tl_data, Int.toNat_natCast, ex_list]
   simp
  rw [zC c, zC (by omega), zC c, e, zJ]
  by_cases c1 : s.data.toList.take p.size = p.data.toList
  ·rw [zF c1, zC rfl, zC c1, zC (by omega), zC c, zJ, Int.toNat_natCast]
  ·rw [zG c1, zD Bool.false_ne_true, zD c1, zJ]
 ·have c1 : ¬ s.data.toList.take p.size = p.data.toList := by
   intro h
   have := congrArg List.length h
   rw [List.length_take, size_len, size_len] at this
   omega
  rw [zD c, zJ, zD Bool.false_ne_true, zD c1, zJ]
noncomputable def nr (t : ByteArray) : Int × Bool := Classical.choose (number_total t)
theorem nr_ev (t : ByteArray) : Ev (fun k => cubbyref08_Number.f k t) (nr t) := (Classical.choose_spec (number_total t)).1
theorem nr_is (t : ByteArray) : (nr t).2 = true → IsNum (nr t).1 := (Classical.choose_spec (number_total t)).2
theorem ev_unique {α : Type} {g : Nat → Option α} {a b : α} (h : Ev g a) (h' : Ev g b) : a = b := by
 obtain ⟨K, h⟩ := h
 obtain ⟨K', h'⟩ := h'
 exact zI ((h (max K K') (by omega)).symm.trans (h' (max K K') (by omega)))
theorem nr_num {n : Int} (h : IsNum n) : nr (num n) = (n, true) := ev_unique (nr_ev _) (number_num h.1 h.2)
noncomputable def vo (t : ByteArray) : Int := if (nr t).2 = true then (nr t).1 else 0
theorem vo_is (t : ByteArray) : IsNum (vo t) := by
 unfold vo
 split
 ·rename_i h; exact nr_is t h
 ·exact ⟨by omega, by omega⟩
theorem vo_num {n : Int} (h : IsNum n) : vo (num n) = n := by unfold vo; rw [nr_num h]; rfl
noncomputable def at_ (ws : List ByteArray) (i : Nat) : Int := match ws[i]? with | some t => vo t | none => 0
theorem at_is (ws : List ByteArray) (i : Nat) : IsNum (at_ ws i) := by
 unfold at_
 split
 ·exact vo_is _
 ·exact ⟨by omega, by omega⟩
theorem l0_end {s : ByteArray} {ws : List ByteArray} {l : List Int} {i : Nat} {R : Int × Int × Int × Int × ByteArray × Int} (hi : ws.length ≤ i ∨ i = 4) (hb : i ≤ 4) (h : Ev (fun k => cubbyref21_Hear.l1 k s l 1) R) : Ev (fun k => cubbyref21_Hear.l0 k s ws l (i : Int)) R := by
 have hj : Ev (fun k => cubbyref21_Hear.j1 k s ws l (i : Int) false) R := Ev.step (fun k => by simp only [cubbyref21_Hear.j1]; rw [zD (by simp)]) h
 refine Ev.step (fun k => ?_) hj
 simp only [cubbyref21_Hear.l0]
 by_cases h1 : (i : Int) < (ws.length : Int)
 ·rw [zC h1, zG (by omega)]
 ·rw [zD h1]
theorem set_same {l : List Int} {j : Nat} {x : Int} (h : l[j]? = some x) : l.set j x = l := by
 apply List.ext_getElem?
 intro m
 by_cases hm : j = m
 ·subst hm; rw [List.getElem?_set_self (List.getElem?_eq_some_iff.1 h).1, h]
 ·rw [List.getElem?_set_ne hm]
theorem l0_step {s : ByteArray} {ws : List ByteArray} {l : List Int} {i : Nat} {R : Int × Int × Int × Int × ByteArray × Int} (h0 : 1 ≤ i) (hi : i < 4) (hl : l.length = 3) (hz : l[i - 1]? = some 0)
 (h : Ev (fun k => cubbyref21_Hear.l0 k s ws (l.set (i - 1) (at_ ws i)) ((i + 1 : Nat) : Int)) R) (hend : ws.length ≤ i → Ev (fun k => cubbyref21_Hear.l0 k s ws l (i : Int)) R) : Ev (fun k => cubbyref21_Hear.l0 k s ws l (i : Int)) R := by
 by_cases h1 : i < ws.length
 ·refine Ev.step (f := fun k => cubbyref21_Hear.j1 k s ws l (i : Int) true) (fun k => ?_) (Ev.step (fun k => ?_) (Ev.bind (nr_ev ws[i]) (f := fun k bt170 => (if bt170.2 = true then cubbyref21_Hear.l0 k s ws (l.set (i - 1) bt170.1) ((i + 1 : Nat) : Int) else cubbyref21_Hear.l0 k s ws l ((i + 1 : Nat) : Int))) ?_))
  ·simp only [cubbyref21_Hear.l0]
   rw [zC (by omega), zF (by omega)]
  ·simp only [cubbyref21_Hear.j1]
   have e1 : wrap64 ((i : Int) - 1) = ((i - 1 : Nat) : Int) := wrap_pred h0 (by omega)
   have e2 : rdOf ByteArray.empty ws (i : Int) = ws[i] := by show ws.getD _ _ = _; rw [Int.toNat_natCast, List.getD_eq_getElem?_getD, List.getElem?_eq_getElem h1]; rfl
   rw [zC trivial, zC (by omega), zC (by omega), e1, e2, wrap_nat (by omega), Int.toNat_natCast]
   congr 1
   funext bt
   by_cases hb : bt.2 = true
   ·rw [zC hb, zC hb, zC (by omega), zC (by rw [hl]; omega)]
   ·rw [zD hb, zD hb]
  ·have e : at_ ws i = vo ws[i] := by unfold at_; rw [List.getElem?_eq_getElem h1]
   rw [e] at h
   unfold vo at h
   by_cases h2 : (nr ws[i]).2 = true
   ·simp only [zC h2] at h ⊢; exact h
   ·simp only [zD h2] at h ⊢
    rw [set_same hz] at h
    exact h
 ·exact hend (by omega)
theorem l0_ev {s : ByteArray} {ws : List ByteArray} {R : Int × Int × Int × Int × ByteArray × Int} (h : Ev (fun k => cubbyref21_Hear.l1 k s [at_ ws 1, at_ ws 2, at_ ws 3] 1) R) : Ev (fun k => cubbyref21_Hear.l0 k s ws [0, 0, 0] 1) R := by
 have z : ∀ i, ws.length ≤ i → at_ ws i = 0 := fun i hi => by unfold at_; rw [List.getElem?_eq_none hi]
 refine l0_step (i := 1) (by omega) (by omega) rfl rfl ?_ (fun hl => ?_)
 ·refine l0_step (i := 2) (by omega) (by omega) rfl rfl ?_ (fun hl => ?_)
  ·refine l0_step (i := 3) (by omega) (by omega) rfl rfl ?_ (fun hl => ?_)
   ·exact l0_end (i := 4) (.inr rfl) (by omega) h
   ·exact l0_end (i := 3) (.inl hl) (by omega) (by rw [z 3 hl] at h; exact h)
  ·exact l0_end (i := 2) (.inl hl) (by omega) (by rw [z 3 (by omega), z 2 hl] at h; exact h)
 ·exact l0_end (i := 1) (.inl hl) (by omega) (by rw [z 3 (by omega), z 2 (by omega), z 1 hl] at h; exact h)
def textOf (s : ByteArray) (k : Int) : ByteArray := if k = 2 ∧ 4 < s.size then s.extract 5 s.size else noS
def replyOf (s : ByteArray) (a b c : Int) (k : Int) : Int × Int × Int × Int × ByteArray := (k, if k = 1 ∨ k > 3 then a else 0, if k > 3 then b else 0, if k = 5 then c else 0, textOf s k)
def tellR (r : Int × Int × Int × Int × ByteArray) : ByteArray × Int := tellA r.1 r.2.1 r.2.2.1 r.2.2.2.1 r.2.2.2.2
theorem l1_step {s : ByteArray} {a b c : Int} {R : Int × Int × Int × Int × ByteArray × Int} (k k' : Int) (hk' : k + 1 = k') (hs : s.size ≤ 1000000) (h1 : 1 ≤ k) (h5 : k ≤ 5)
 (hyes : (tellR (replyOf s a b c k)).2 = 0 ∧ (tellR (replyOf s a b c k)).1 = s → R = ((replyOf s a b c k).1, (replyOf s a b c k).2.1, (replyOf s a b c k).2.2.1, (replyOf s a b c k).2.2.2.1, (replyOf s a b c k).2.2.2.2, 0))
 (hno : ¬ ((tellR (replyOf s a b c k)).2 = 0 ∧ (tellR (replyOf s a b c k)).1 = s) → Ev (fun q => cubbyref21_Hear.l1 q s [a, b, c] k') R) : Ev (fun q => cubbyref21_Hear.l1 q s [a, b, c] k) R := by
 subst hk'
 have htx : (textOf s k).size ≤ 1000000 := by
  unfold textOf
  split
  ·rw [ByteArray.size_extract]; omega
  ·decide
 have hw : wrap64 (k + 1) = k + 1 := wrap_id (by omega) (by omega)
 -- the last part
 have fin : ∀ (A B C : Int) (f : Nat → Option (Int × Int × Int × Int × ByteArray × Int)), replyOf s a b c k = (k, A, B, C, textOf s k) → (∀ q, f q = (cubbyref21_Tell.f q k A B C (textOf s k)).bind fun t => (if t.2 = 0 then (if t.1.toList = s.toList then some (k, A, B, C, textOf s k, 0) else cubbyref21_Hear.l1 q s [a, b, c] (wrap64 (k + 1))) else cubbyref21_Hear.l1 q s [a, b, c] (wrap64 (k + 1)))) → Ev f R := by
  intro A B C f hr hf
  refine Ev.congr hf (Ev.bind (reftell_ev k A B C _ htx) ?_)
  have et : tellA k A B C (textOf s k) = tellR (replyOf s a b c k) := by rw [hr]; rfl
  rw [et]
  by_cases c1 : (tellR (replyOf s a b c k)).2 = 0
  ·simp only [zC c1]
   by_cases c2 : (tellR (replyOf s a b c k)).1.toList = s.toList
   ·simp only [zC c2]
    have := hyes ⟨c1, toList_inj.1 c2⟩
    rw [hr] at this
    rw [this]
    exact Ev.now _
   ·simp only [zD c2, hw]
    exact hno (fun h => c2 (by rw [h.2]))
  ·simp only [zD c1, hw]
   exact hno (fun h => c1 h.1)
 have e7 : ∀ (A B : Int), replyOf s a b c k = (k, A, B, if k = 5 then c else 0, textOf s k) → Ev (fun q => cubbyref21_Hear.j7 q s [a, b, c] k k A B 0 (textOf s k)) R := by
  intro A B hr
  by_cases c5 : k = 5
  ·rw [zC c5] at hr
   have hf := fin A B c (fun q => (cubbyref21_Tell.f q k A B c (textOf s k)).bind fun t => (if t.2 = 0 then (if t.1.toList = s.toList then some (k, A, B, c, textOf s k, 0) else cubbyref21_Hear.l1 q s [a, b, c] (wrap64 (k + 1))) else cubbyref21_Hear.l1 q s [a, b, c] (wrap64 (k + 1)))) hr (fun _ => rfl)
   refine Ev.step (fun q => ?_) hf
   simp only [cubbyref21_Hear.j7]
   rw [zC c5, zC (by simp)]
   rfl
  ·rw [zD c5] at hr
   have hf := fin A B 0 (fun q => (cubbyref21_Tell.f q k A B 0 (textOf s k)).bind fun t => (if t.2 = 0 then (if t.1.toList = s.toList then some (k, A, B, 0, textOf s k, 0) else cubbyref21_Hear.l1 q s [a, b, c] (wrap64 (k + 1))) else cubbyref21_Hear.l1 q s [a, b, c] (wrap64 (k + 1)))) hr (fun _ => rfl)
   refine Ev.step (fun q => ?_) hf
   simp only [cubbyref21_Hear.j7]
   rw [zD c5]
 have e6 : ∀ (A : Int), replyOf s a b c k = (k, A, if k > 3 then b else 0, if k = 5 then c else 0, textOf s k) → Ev (fun q => cubbyref21_Hear.j6 q s [a, b, c] k k A 0 0 (textOf s k)) R := by
  intro A hr
  by_cases c3 : k > 3
  ·rw [zC c3] at hr
   exact Ev.step (fun q => by simp only [cubbyref21_Hear.j6]; rw [zC c3, zC (by simp)]; rfl) (e7 A b hr)
  ·rw [zD c3] at hr
   exact Ev.step (fun q => by simp only [cubbyref21_Hear.j6]; rw [zD c3]) (e7 A 0 hr)
 have e5 : ∀ x : Bool, (x = true ↔ k = 1 ∨ k > 3) → Ev (fun q => cubbyref21_Hear.j5 q s [a, b, c] k x k 0 0 0 (textOf s k)) R := by
  intro x hx
  by_cases c1 : x = true
  ·exact Ev.step (fun q => by simp only [cubbyref21_Hear.j5]; rw [zC c1, zC (by simp)]; rfl) (e6 a (by unfold replyOf; rw [zC (hx.1 c1)]))
  ·exact Ev.step (fun q => by simp only [cubbyref21_Hear.j5]; rw [zD c1]) (e6 0 (by unfold replyOf; rw [zD (fun h => c1 (hx.2 h))]))
 have e4 : Ev (fun q => cubbyref21_Hear.j4 q s [a, b, c] k k 0 0 0 (textOf s k)) R := by
  by_cases c1 : k = 1
  ·exact Ev.step (fun q => by simp only [cubbyref21_Hear.j4]; rw [zC c1]) (e5 true (by simp [c1]))
  ·exact Ev.step (fun q => by simp only [cubbyref21_Hear.j4]; rw [zD c1]) (e5 (decide (k > 3)) (by simp [c1]))
 have e3 : ∀ x : Bool, (x = true ↔ k = 2 ∧ 4 < s.size) → Ev (fun q => cubbyref21_Hear.j3 q s [a, b, c] k x k 0 0 0 (⟨#[]⟩ : ByteArray)) R := by
  intro x hx
  by_cases c1 : x = true
  ·have h2 := hx.1 c1
   have et : textOf s k = s.extract 5 s.size := zC h2
   rw [et] at e4
   exact Ev.step (fun q => by simp only [cubbyref21_Hear.j3]; rw [zC c1, zC (by omega)]) e4
  ·have et : textOf s k = noS := zD (fun h => c1 (hx.2 h))
   rw [et] at e4
   exact Ev.step (fun q => by simp only [cubbyref21_Hear.j3]; rw [zD c1]; rfl) e4
 by_cases c2 : k = 2
 ·exact Ev.step (fun q => by simp only [cubbyref21_Hear.l1]; rw [zC h5, zC c2]) (e3 (decide ((s.size : Int) > 4)) (by simp [c2]; omega))
 ·exact Ev.step (fun q => by simp only [cubbyref21_Hear.l1]; rw [zC h5, zD c2]) (e3 false (by simp [c2]))
theorem l1_end (s : ByteArray) (l : List Int) : Ev (fun q => cubbyref21_Hear.l1 q s l 6) (0, 0, 0, 0, noS, 210) := Ev.step (fun q => by simp only [cubbyref21_Hear.l1]; rw [zD (by omega)]; rfl) (Ev.now _)
def tailB (xs : List Int) : List UInt8 := xs.flatMap fun x => 32 :: Lib.decDigits x.toNat
theorem tellL_bytes : ∀ (xs : List Int) (w : ByteArray), (tellL w xs).data.toList = w.data.toList ++ tailB xs
 | [], w => by simp [tellL, tailB]
 | x :: xs, w => by
  have e : (sp ++ num x).data.toList = 32 :: Lib.decDigits x.toNat := by rw [ByteArray.data_append, Array.toList_append, num_list]; rfl
  unfold tellL
  rw [tellL_bytes xs, ByteArray.data_append, Array.toList_append, e]
  simp [tailB]
theorem dec_blank (u : Nat) : (32 : UInt8) ∉ Lib.decDigits u := fun h => by have := (dec_mem u 32 h).1; simp at this
theorem words_tail : ∀ (xs : List Int) {a : List UInt8}, (32 : UInt8) ∉ a → wordsL (a ++ tailB xs) = a :: xs.map fun x => Lib.decDigits x.toNat
 | [], a, h => by simp only [tailB, List.flatMap_nil, List.append_nil, List.map_nil]; exact wordsL_one h
 | x :: xs, a, h => by
  have e : a ++ tailB (x :: xs) = a ++ 32 :: (Lib.decDigits x.toNat ++ tailB xs) := by simp [tailB]
  rw [e, wordsL_cons _ h, words_tail xs (dec_blank _)]
  rfl
theorem bytes_num (w : ByteArray) (xs : List Int) : bytesOfL (w :: xs.map num) = w.data.toList :: xs.map fun x => Lib.decDigits x.toNat := by
 simp only [bytesOfL, List.map_cons, List.map_map]
 first | done | (congr 1; done) | (congr 1; apply List.map_congr_left; intro x _; exact num_list x)
theorem tell_words {s w : ByteArray} {xs : List Int} (hw : (32 : UInt8) ∉ w.data.toList) : tellL w xs = s ↔ wordsOf s = w :: xs.map num := by
 have hb : wordsL (tellL w xs).data.toList = bytesOfL (w :: xs.map num) := by rw [tellL_bytes, words_tail xs hw, bytes_num]
 constructor
 ·rintro rfl
  exact wordsOf_of hb.symm
 ·intro h
  have h2 := wordsOf_bytes s
  rw [h, ← hb] at h2
  have h3 := congrArg unw h2
  rw [unw_words, unw_words] at h3
  exact ba_ext h3
theorem map_some : ∀ {l : List ByteArray} {ys : List Int}, l.mapM numOf = some ys → l = ys.map num ∧ ∀ y ∈ ys, IsNum y
 | [], ys, h => by
  simp only [List.mapM_nil] at h
  obtain rfl := zI h
  exact ⟨rfl, by simp⟩
 | t :: l, ys, h => by
  simp only [List.mapM_cons, Option.bind_eq_bind, Option.bind_eq_some_iff] at h
  obtain ⟨y, hy, zs, hz, h⟩ := h
  obtain rfl := zI h
  obtain ⟨h1, h2⟩ := map_some hz
  obtain ⟨a, b, c⟩ := numOf_some hy
  refine ⟨by rw [h1, c]; rfl, fun q hq => ?_⟩
  rcases List.mem_cons.1 hq with hq | hq
  ·rw [hq]; exact ⟨a, b⟩
  ·exact h2 q hq
theorem map_num : ∀ {ys : List Int}, (∀ y ∈ ys, IsNum y) → (ys.map num).mapM numOf = some ys
 | [], _ => rfl
 | y :: ys, h => by
  have h1 := h y List.mem_cons_self
  simp only [List.map_cons, List.mapM_cons, numOf_num h1.1 h1.2, Option.bind_eq_bind, zJ]
  rw [map_num (fun q hq => h q (List.mem_cons_of_mem _ hq))]
  rfl
theorem numbers_iff {s w : ByteArray} {n : Nat} {ys : List Int} : numbersOf s w n = some ys ↔ wordsOf s = w :: ys.map num ∧ ys.length = n ∧ ∀ y ∈ ys, IsNum y := by
 unfold numbersOf
 constructor
 ·intro h
  split at h
  ·rename_i hc
   obtain ⟨h1, h2⟩ := map_some h
   cases hw : wordsOf s with
   | nil => rw [hw] at hc; simp at hc
   | cons a l =>
    rw [hw] at hc h1
    simp only [List.getElem?_cons_zero, Option.some.injEq] at hc
    simp only [List.drop_succ_cons, List.drop_zero] at h1
    refine ⟨by rw [hc.1, h1], ?_, h2⟩
    have := hc.2
    rw [h1] at this
    simpa using this
  ·cases h
 ·rintro ⟨h1, h2, h3⟩
  rw [h1, zC ⟨rfl, by simp [h2]⟩]
  exact map_num h3
def hearA (s : ByteArray) : Int × Int × Int × Int × ByteArray × Int :=
 if s.data.toList.take 5 = codeS.data.toList then (2, 0, 0, 0, s.extract 5 s.size, 0) else if s = missS then (3, 0, 0, 0, noS, 0) else heardOf s
theorem hear_eq {s : ByteArray} (hs : s.size ≤ 1000000) : ask_Hear.f s = some (hearA s) := by
 unfold ask_Hear.f hearA
 rw [prefix_eq s codeS]
 have h5 : codeS.size = 5 := rfl
 rw [h5]
 by_cases h : s.data.toList.take 5 = codeS.data.toList
 ·rw [zC h, zC h]; rfl
 ·rw [zD h, zD h, zJ, zD (by simp)]
  by_cases h2 : s = missS
  ·rw [zC (by rw [h2]), zC h2]
  ·rw [zD (fun e => h2 (toList_inj.1 e)), zD h2, zC (by omega)]
theorem at_num {s w : ByteArray} {ys : List Int} (h : wordsOf s = w :: ys.map num) (i : Nat) (hy : ∀ y ∈ ys, IsNum y) : at_ (wordsOf s) (i + 1) = ys.getD i 0 := by
 unfold at_
 rw [h, List.getElem?_cons_succ, List.getElem?_map, List.getD_eq_getElem?_getD]
 cases e : ys[i]? with
 | none => rfl
 | some y => exact vo_num (hy y (List.mem_of_getElem? e))
theorem blank_ok : (32 : UInt8) ∉ okS.data.toList := by decide
theorem blank_error : (32 : UInt8) ∉ errorS.data.toList := by decide
theorem blank_stats : (32 : UInt8) ∉ statsS.data.toList := by decide
theorem head_of {s w : ByteArray} {xs : List Int} (h : tellL w xs = s) : s.data.toList = w.data.toList ++ tailB xs := by rw [← h, tellL_bytes]
theorem refhear_ev {s : ByteArray} (hs : s.size ≤ 1000000) : Ev (fun k => cubbyref21_Hear.f k s) (hearA s) := by
 have hL := size_len s
 obtain ⟨ws, hws⟩ : ∃ ws, wordsOf s = ws := ⟨_, rfl⟩
 have ia := at_is ws 1
 have ib := at_is ws 2
 have ic := at_is ws 3
 have r1 : ∀ b c, tellR (replyOf s (at_ ws 1) b c 1) = (tellL okS [at_ ws 1], 0) := fun b c => by
  rw [show replyOf s (at_ ws 1) b c 1 = (1, at_ ws 1, 0, 0, noS) by simp [replyOf, textOf]]
  show tellA _ _ _ _ _ = _
  unfold tellA
  rw [zC rfl]
  exact tellOr_yes (by intro n hn; rw [List.mem_singleton.1 hn]; exact ia)
 have r4 : ∀ c, tellR (replyOf s (at_ ws 1) (at_ ws 2) c 4) = (tellL errorS [at_ ws 1, at_ ws 2], 0) := fun c => by
  rw [show replyOf s (at_ ws 1) (at_ ws 2) c 4 = (4, at_ ws 1, at_ ws 2, 0, noS) by simp [replyOf, textOf]]
  show tellA _ _ _ _ _ = _
  unfold tellA
  rw [zD (by omega), zD (by omega), zD (by omega), zC rfl]
  exact tellOr_yes (by intro n hn; simp at hn; rcases hn with rfl | rfl <;> assumption)
 have r5 : tellR (replyOf s (at_ ws 1) (at_ ws 2) (at_ ws 3) 5) = (tellL statsS [at_ ws 1, at_ ws 2, at_ ws 3], 0) := by
  rw [show replyOf s (at_ ws 1) (at_ ws 2) (at_ ws 3) 5 = (5, at_ ws 1, at_ ws 2, at_ ws 3, noS) by simp [replyOf, textOf]]
  show tellA _ _ _ _ _ = _
  unfold tellA
  rw [zD (by omega), zD (by omega), zD (by omega), zD (by omega), zC rfl]
  exact tellOr_yes (by intro n hn; simp at hn; rcases hn with rfl | rfl | rfl <;> assumption)
 -- what each reply's text says of the words
 have w1 : ∀ ys, numbersOf s okS 1 = some ys → ys = [at_ ws 1] ∧ tellL okS [at_ ws 1] = s := fun ys h => by
  obtain ⟨a, b, c⟩ := numbers_iff.1 h
  have e1 := at_num a 0 c
  rw [hws] at e1
  obtain ⟨y, rfl⟩ : ∃ y, ys = [y] := by match ys, b with | [y], _ => exact ⟨y, rfl⟩
  simp only [List.getD_cons_zero] at e1
  rw [e1]
  exact ⟨rfl, (tell_words blank_ok).2 a⟩
 have w4 : ∀ ys, numbersOf s errorS 2 = some ys → ys = [at_ ws 1, at_ ws 2] ∧ tellL errorS [at_ ws 1, at_ ws 2] = s := fun ys h => by
  obtain ⟨a, b, c⟩ := numbers_iff.1 h
  have e1 := at_num a 0 c
  have e2 := at_num a 1 c
  rw [hws] at e1 e2
  obtain ⟨y, z, rfl⟩ : ∃ y z, ys = [y, z] := by match ys, b with | [y, z], _ => exact ⟨y, z, rfl⟩
  simp only [List.getD_cons_zero, List.getD_cons_succ] at e1 e2
  rw [e1, e2]
  exact ⟨rfl, (tell_words blank_error).2 a⟩
 have w5 : ∀ ys, numbersOf s statsS 3 = some ys → ys = [at_ ws 1, at_ ws 2, at_ ws 3] ∧ tellL statsS [at_ ws 1, at_ ws 2, at_ ws 3] = s := fun ys h => by
  obtain ⟨a, b, c⟩ := numbers_iff.1 h
  have e1 := at_num a 0 c
  have e2 := at_num a 1 c
  have e3 := at_num a 2 c
  rw [hws] at e1 e2 e3
  obtain ⟨y, z, q, rfl⟩ : ∃ y z q, ys = [y, z, q] := by match ys, b with | [y, z, q], _ => exact ⟨y, z, q, rfl⟩
  simp only [List.getD_cons_zero, List.getD_cons_succ] at e1 e2 e3
  rw [e1, e2, e3]
  exact ⟨rfl, (tell_words blank_stats).2 a⟩
 have v1 : tellL okS [at_ ws 1] = s → numbersOf s okS 1 = some [at_ ws 1] := fun h => numbers_iff.2 ⟨(tell_words blank_ok).1 h, rfl, by intro n hn; rw [List.mem_singleton.1 hn]; exact ia⟩
 have v4 : tellL errorS [at_ ws 1, at_ ws 2] = s → numbersOf s errorS 2 = some [at_ ws 1, at_ ws 2] := fun h => numbers_iff.2 ⟨(tell_words blank_error).1 h, rfl, by intro n hn; simp at hn; rcases hn with rfl | rfl <;> assumption⟩
 have v5 : tellL statsS [at_ ws 1, at_ ws 2, at_ ws 3] = s → numbersOf s statsS 3 = some [at_ ws 1, at_ ws 2, at_ ws 3] := fun h => numbers_iff.2 ⟨(tell_words blank_stats).1 h, rfl, by intro n hn; simp at hn; rcases hn with rfl | rfl | rfl <;> assumption⟩
 have code_of : ∀ l : List UInt8, s.data.toList = 111 :: l ∨ s.data.toList = 101 :: l ∨ s.data.toList = 115 :: l → ¬ s.data.toList.take 5 = codeS.data.toList ∧ s ≠ missS := fun l h => by
  refine ⟨fun e => ?_, fun e => ?_⟩
  ·have := congrArg List.head? e
   rcases h with h | h | h <;> rw [h] at this <;> simp [codeS] at this
  ·rw [e] at h
   rcases h with h | h | h <;> simp [missS] at h
 have hno : ∀ x : Option (List Int), (∀ ys, x = some ys → False) → x = none := fun x h => by cases x with | none => rfl | some y => exact (h y rfl).elim
 refine Ev.bind (g := fun k => cubbyref21_words.f k s) (f := fun k t163 => cubbyref21_Hear.l0 k s t163 [0, 0, 0] 1) (refwords_ev s hs) ?_
 rw [hws]
 refine l0_ev ?_
 refine l1_step 1 2 rfl hs (by omega) (by omega) (fun h => ?_) (fun h1 => ?_)
 ·rw [r1] at h
  have hh := head_of h.2
  obtain ⟨n1, n2⟩ := code_of _ (.inl (hh.trans rfl))
  unfold hearA
  rw [zD n1, zD n2]
  unfold heardOf
  rw [v1 h.2]
  rfl
 rw [r1] at h1
 have n1 : numbersOf s okS 1 = none := hno _ (fun ys hy => h1 ⟨rfl, (w1 ys hy).2⟩)
 refine l1_step 2 3 rfl hs (by omega) (by omega) (fun h => ?_) (fun h2 => ?_)
 ·have h' : codeS ++ textOf s 2 = s := h.2
  have hp : s.data.toList.take 5 = codeS.data.toList := by
   have := congrArg (fun q : ByteArray => q.data.toList.take 5) h'
   simp only [ByteArray.data_append, Array.toList_append] at this
   rw [← this]
   rfl
  have h4 : 4 < s.size := by
   have := congrArg List.length hp
   rw [List.length_take] at this
   have e : codeS.data.toList.length = 5 := rfl
   omega
  unfold hearA
  rw [zC hp]
  have et : textOf s 2 = s.extract 5 s.size := zC ⟨rfl, h4⟩
  show _ = (_, _, _, _, textOf s 2, _)
  rw [et]
  rfl
 have p2 : ¬ s.data.toList.take 5 = codeS.data.toList := fun hp => h2 (by
  have h4 : 4 < s.size := by
   have := congrArg List.length hp
   rw [List.length_take] at this
   have e : codeS.data.toList.length = 5 := rfl
   omega
  refine ⟨rfl, ?_⟩
  show codeS ++ textOf s 2 = s
  have et : textOf s 2 = s.extract 5 s.size := zC ⟨rfl, h4⟩
  rw [et]
  refine ba_ext ?_
  rw [ByteArray.data_append, Array.toList_append, ex_list, List.take_of_length_le (by rw [List.length_drop]; omega), ← hp, List.take_append_drop])
 refine l1_step 3 4 rfl hs (by omega) (by omega) (fun h => ?_) (fun h3 => ?_)
 ·have h' : missS = s := h.2
  unfold hearA
  rw [zD p2, zC h'.symm]
  rfl
 have p3 : s ≠ missS := fun e => h3 ⟨rfl, e.symm⟩
 have eA : hearA s = heardOf s := by unfold hearA; rw [zD p2, zD p3]
 rw [eA]
 unfold heardOf
 rw [n1]
 simp only
 refine l1_step 4 5 rfl hs (by omega) (by omega) (fun h => ?_) (fun h4 => ?_)
 ·rw [r4] at h
  rw [v4 h.2]
  rfl
 rw [r4] at h4
 have n4 : numbersOf s errorS 2 = none := hno _ (fun ys hy => h4 ⟨rfl, (w4 ys hy).2⟩)
 rw [n4]
 simp only
 refine l1_step 5 6 rfl hs (by omega) (by omega) (fun h => ?_) (fun h5 => ?_)
 ·rw [r5] at h
  rw [v5 h.2]
  rfl
 rw [r5] at h5
 have n5 : numbersOf s statsS 3 = none := hno _ (fun ys hy => h5 ⟨rfl, (w5 ys hy).2⟩)
 rw [n5]
 exact l1_end s _
end Go.Proofs.YtmojmnhaabonpaaDoor.PlainNum
namespace Go.Proofs.YtmojmnhaabonpaaDoor.RAskHears.Pure
open Go Go.RowKit Go.Proofs.YtmojmnhaabonpaaDoorW.PrintWords Go.Proofs.YtmojmnhaabonpaaDoorW.PrintMore Go.Proofs.YtmojmnhaabonpaaDoor.Q Go.Proofs.YtmojmnhaabonpaaDoor.Plain Go.Proofs.YtmojmnhaabonpaaDoor.PlainNum
set_option linter.unusedVariables false
theorem AskHears : AskHears.Pure := by
 intro s k a b c t h1 h2 h3 h4 h5 h6
 refine Ev.rounds ?_
 have hyes : Ev (fun q => cubbylaw21_AskHears.j0 q s true k a b c t) true := Ev.step (f := fun _ => some true) (fun q => by simp only [cubbylaw21_AskHears.j0]; rw [zC trivial]) (Ev.now _)
 by_cases c0 : (s.size : Int) > 4096
 ·exact Ev.congr (fun q => by unfold cubbylaw21_AskHears.f; rw [zC c0]) hyes
 by_cases c1 : (t.size : Int) > 4096
 ·exact Ev.congr (fun q => by unfold cubbylaw21_AskHears.f; rw [zD c0, zF c1]) hyes
 refine Ev.congr (fun q => by unfold cubbylaw21_AskHears.f; rw [zD c0, zG c1]) ?_
 refine Ev.step (fun q => by simp only [cubbylaw21_AskHears.j0]; rw [zD Bool.false_ne_true, hear_eq (by omega), zJ]) (Ev.bind (refhear_ev (by omega)) (Ev.bind (tell_ev k a b c t (by omega)) (Ev.bind (reftell_ev k a b c t (by omega)) ?_)))
 exact Ev.congr (f := fun _ => some true) (fun q => by simp only [if_true, beq_self_eq_true]) (Ev.now _)
end Go.Proofs.YtmojmnhaabonpaaDoor.RAskHears.Pure
namespace Go.Proofs.YtmojmnhaabonpaaDoor.RAskHears
open Go.ChangeShapes Go.WideShapes Go.ChangeAt
open Go.ChangeMaps (open_string shut_string)
open Go Go.RowKit Go.Proofs.YtmojmnhaabonpaaDoorW.PrintWords Go.Proofs.YtmojmnhaabonpaaDoorW.PrintLast Go.Proofs.YtmojmnhaabonpaaDoorW.PrintMore Go.Proofs.YtmojmnhaabonpaaDoor.Q Go.Proofs.YtmojmnhaabonpaaDoor.Open
set_option linter.unusedVariables false
theorem own : ownKnob Tryd.prog.godebug = none := by kernel_rfl
theorem laidOut : laidOutB Tryd.prog = true := by kernel_rfl
set_option maxRecDepth 100000 in
theorem lifted (os : Os) (started : os.Started) (H : Type) (enc : TypeId × Value → H) :
 ReturnsInHanded {} Tryd.checked os 3 .any (fun w args => (Rows.askHearsSpec.pre enc Tryd.prog Tryd.f3 [] false w args ∧ laidMetH Tryd.prog Rows.askHearsRow.laid w) ∧ sizedMet enc Tryd.prog Tryd.f3 (OpenSpec.ofChange Rows.askHearsSpec) false w args) (Rows.askHearsSpec.post enc Tryd.prog Tryd.f3 false true false false) := by
 refine returnsInHanded_of_change_and (C := Tryd.checked) (X := fun w _ => laidMetH Tryd.prog Rows.askHearsRow.laid w) (fun _ _ _ hh h => h.of_heap hh) own started (by kernel_rfl) Tryd.func3
  (ChangeSpec.witness_shaped (enc := enc) (C := Tryd.checked) (os := os) (X := fun w _ => laidMetH Tryd.prog Rows.askHearsRow.laid w) false (World.laidAll Tryd.prog os Rows.askHearsRow.laid) #[.string ByteArray.empty, .agg #[.int .i64 0, .int .i64 0, .int .i64 0, .int .i64 0, .string ByteArray.empty]] 8 (World.laidAll_os _ _ _)
    (World.shaped_of_ZipB (by kernel_rfl) (by kernel_rfl)) (by kernel_rfl) (by kernel_rfl) (by kernel_rfl)
    (by rw [MakeChecks.laidMetH_plain _ _ _ (by kernel_rfl)]; exact laidMet_laidAll _ (by kernel_rfl) (by kernel_rfl))) ?_
 intro W base args ds gs before hval0 hW hcnd hsz0 hL0 _
 rw [MakeChecks.laidMetH_plain _ _ _ (by kernel_rfl)] at hL0
 have LAIDF : LaidW W := LaidW.of_met (show laidMet Tryd.prog laidList W from hL0)
 have hsz : (DataW.weightsEach Tryd.prog (Tryd.f3.params.toList ++ Rows.askHearsSpec.plain.varTypes Tryd.prog) (ds ++ gs)).all (· ≤ reachBytes) = true := hsz0
 have hval : ∀ (j : Nat) t v, Tryd.f3.params[j]? = some t → args[j]? = some v → Value.okWide Tryd.prog W .any base t v := hval0
 have hW' := hW
 obtain ⟨p, q, hA0, hV, rfl, hfz, hnd⟩ := hW
 have hA : DataW.TrodAll enc Tryd.prog W 0 (fun _ => true) true Tryd.f3.params.toList args.toList ds p := hA0
 rw [Tryd.params3] at hA hval hsz
 obtain ⟨v0, vs0, d0, ds0, p0, q0, hargs, rfl, rfl, h0, r0⟩ := trodAll_cons hA
 obtain ⟨v1, vs1, d1, ds1, p1, q1, rfl, rfl, rfl, h1, r1⟩ := trodAll_cons r0
 obtain ⟨rfl, rfl, rfl⟩ := trodAll_nil r1
 obtain rfl : args = #[v0, v1] := by cases args; simp_all
 obtain ⟨rfl, rfl⟩ := trodVars_none hV
 have lt0 : ∀ x ∈ p0, x.block < W.heap.size := by obtain ⟨m, hm⟩ := h0; exact DataW.trod_lt m _ _ _ hm
 obtain ⟨a0, rfl, rfl, rfl, w0⟩ := open_string Tryd.underlying9 (hval 0 9 v0 rfl rfl) h0
 have g0 : a0.size ≤ 140737488351232 := by
  have z := sized_string hsz (j := 0) (t := 9) rfl rfl
  rw [Array.length_toList] at z
  exact z
 have lt1 : ∀ x ∈ p1, x.block < W.heap.size := by obtain ⟨m, hm⟩ := h1; exact DataW.trod_lt m _ _ _ hm
 obtain ⟨cs1, rfl, -⟩ := okWide_struct Tryd.underlying23 (hval 1 23 v1 rfl rfl)
 obtain ⟨⟨a1_0, a1_1, a1_2, a1_3, a1_4⟩, hk1, gg1⟩ := (Opens.struct Tryd.underlying23 (by kernel_rfl) (OpensFs.cons rfl (Opens.int (Tryd.underlying3) (by kernel_rfl)) (OpensFs.cons rfl (Opens.int (Tryd.underlying3) (by kernel_rfl)) (OpensFs.cons rfl (Opens.int (Tryd.underlying3) (by kernel_rfl)) (OpensFs.cons rfl (Opens.int (Tryd.underlying3) (by kernel_rfl)) (OpensFs.one rfl (Opens.string (Tryd.underlying9) (by kernel_rfl))))))) : Opens Tryd.prog 23 (Kd.pair (Kd.int .i64) (Kd.pair (Kd.int .i64) (Kd.pair (Kd.int .i64) (Kd.pair (Kd.int .i64) Kd.string)))) (fun y => ((Lit.int .i64 (y.1)).wf = true ∧ ((Lit.int .i64 (y.2.1)).wf = true ∧ ((Lit.int .i64 (y.2.2.1)).wf = true ∧ ((Lit.int .i64 (y.2.2.2.1)).wf = true ∧ (y.2.2.2.2).size ≤ 140737488351232)))))).arg h1 hsz (j := 1) rfl rfl
 obtain ⟨g1_0, g1_1, g1_2, g1_3, g1_4⟩ := gg1
 obtain ⟨_, _, h0_, rfl, ⟨_, _, rfl, rfl, ⟨_, _, rfl, rfl, ⟨_, _, rfl, rfl, rfl⟩⟩⟩⟩ := hk1
 obtain rfl : cs1 = #[.int .i64 a1_0, .int .i64 a1_1, .int .i64 a1_2, .int .i64 a1_3, .string a1_4] := by
  cases cs1
  simp [Value.cells] at h0_
  simp [h0_]
 clear hA0 hval0 hsz0 hsz
 obtain ⟨k, hf⟩ := Pure.AskHears a0 a1_0 a1_1 a1_2 a1_3 a1_4 g0 g1_0 g1_1 g1_2 g1_3 g1_4
 refine (Q.cubbylaw21_AskHears.calls k a0 a1_0 a1_1 a1_2 a1_3 a1_4 true W LAIDF rfl  hf).mono ?_
 rintro e W' ⟨rfl, hd⟩
 have bel : Below W.heap.size W W' := hd
 exact ⟨_, rfl, _, _, _, [], _, [], hW', trodAll_mk1 (shut_bool Tryd.underlying4 _), (trodAll_cons_mk (Below.trod laidOut (by kernel_rfl) (zB (by kernel_rfl)) h0 bel lt0) (trodAll_cons_mk (Below.trod laidOut (by kernel_rfl) (zB (by kernel_rfl)) h1 bel lt1) trodAll_mk0)), rfl, bel.frame _, fun h => by cases h⟩
theorem over : Rows.askHearsRow.holds Tryd.pinned (OpenSpec.ofChange Rows.askHearsSpec) :=
 OpenClaim.holds_of_wide 3 Tryd.f3 rfl rfl rfl rfl rfl rfl rfl ⟨rfl, rfl, rfl, rfl, rfl⟩ rfl rfl rfl rfl rfl (by kernel_rfl) Tryd.func3 (by kernel_rfl)
  (zB (by kernel_rfl)) (by unfold Func.isWrapper; first | (rw [zC (by decide +kernel)]; kernel_rfl) | (rw [zD (by decide +kernel)]; exact ⟨rfl, rfl⟩))
  (fun os started H enc _ => lifted os started H enc)
end Go.Proofs.YtmojmnhaabonpaaDoor.RAskHears
namespace Go.Proofs.YtmojmnhaabonpaaDoor
theorem askHears_holds : Rows.AskHearsSaid := RAskHears.over
theorem askHears_card : Rows.AskHearsCardSaid :=
 Claim7.holds_tied_plain_at .later [] [.data, .data, .data, .data, .sentinel, .sentinel, .pinned] true (true, "fd5c55a3e85524a783e020c83ca468e8894ce98b3bc4ba02a3da3b94c409b69a") true askHears_holds (fun _ h => by cases h) (by kernel_rfl) (fun _ h => by cases h) askHears_row_tie rfl ⟨rfl, rfl⟩ (by kernel_rfl) rfl
  (fun f fn hf hfn => by
    obtain rfl : f = 3 := zI ((show Tryd.prog.funcNamed "cubby/cubbylaw21.AskHears" = some 3 by kernel_rfl).symm.trans hf) |>.symm
    obtain rfl : fn = Tryd.f3 := (zI (Tryd.func3.symm.trans hfn)).symm
    exact ⟨by kernel_rfl, fun j t ht => by
     rw [Tryd.params3] at ht
     have hm : t ∈ [9, 23] := by simpa using Array.mem_of_getElem? ht
     have hall : ([9, 23].all fun u => !Tryd.prog.wantsStandIn u) = true := by kernel_rfl
     exact (show Tryd.prog.wantsStandIn t = false by simpa using List.all_eq_true.1 hall t hm)⟩)
  (by kernel_rfl)
#print axioms askHears_card
end Go.Proofs.YtmojmnhaabonpaaDoor
