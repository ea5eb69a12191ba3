/- For every input the law TextPrints returns true, and its arguments read behind the call as they did: no condition. -/
import Derived.Test.YtniknpjeknmpjaaGreatDoorRows
import Derived.WalkKit
import Derived.ProofKit
import Derived.OpenShut
import Derived.ShutString
import Derived.ChangeOld
import Derived.Below
import Derived.SizedLaws
import Derived.Test.YtniknpjeknmpjaaGreatDoorCards
import Derived.Test.YtniknpjeknmpjaaGreatDoorTie
import Derived.LaidMore
import Derived.Lay
import Derived.SevenTiedAt
import Derived.Stop.Joined
import Derived.Lib.LaidU8
import Derived.Test.YtniknpjeknmpjaaGreatDoorMTextPrints1
import Derived.Test.YtniknpjeknmpjaaGreatDoorMTextPrints2
import Derived.Test.YtniknpjeknmpjaaGreatDoorMTextPrints3
import Derived.Test.YtniknpjeknmpjaaGreatDoorMTextPrints4
namespace Go.Proofs.YtniknpjeknmpjaaGreatDoor.PlainText
open Go Go.RowKit Go.Proofs.YtniknpjeknmpjaaGreatDoorW.PrintWords Go.Proofs.YtniknpjeknmpjaaGreatDoorW.PrintMore Go.Proofs.YtniknpjeknmpjaaGreatDoor.Q Go.Proofs.YtniknpjeknmpjaaGreatDoor.Plain Go.Proofs.YtniknpjeknmpjaaGreatDoor.PlainNum Go.Proofs.YtniknpjeknmpjaaGreatDoor.PlainName
set_option linter.unusedVariables false
set_option linter.unusedSimpArgs false
def PartGood : Part → Prop
 | .num n => good n = true
 | .nm s => nameOk s = true
theorem part_num {n : Int} (h : good n = true) : Part.str (.num n) = num n := by
 have hg : 0 ≤ n ∧ n < 2147483648 := by simpa [good] using h
 exact itoa_num hg.1
theorem part_read {n : Int} (h : good n = true) : numOf (Part.str (.num n)) = some n := by
 have hg : 0 ≤ n ∧ n < 2147483648 := by simpa [good] using h
 rw [part_num h]
 exact numOf_num hg.1 hg.2
def copyF (x y : SIns) (c : UInt8) : SIns :=
 if c = 78 then { y with f4 := x.f4 } else if c = 76 then { y with f5 := y.f5 ++ x.f5 } else if c = 68 then { y with f1 := x.f1 } else if c = 65 then { y with f2 := x.f2 } else if c = 66 then { y with f3 := x.f3 } else y
theorem nums_mapM : ∀ (l : List Int), (∀ n ∈ l, good n = true) → ((l.map Part.num).map Part.str).mapM numOf = some l
 | [], _ => rfl
 | n :: l, h => by
  rw [List.map_cons, List.map_cons, List.mapM_cons, part_read (h n List.mem_cons_self), nums_mapM l (fun m hm => h m (List.mem_cons_of_mem _ hm))]
  rfl
theorem at_pre (pre : List ByteArray) (t : ByteArray) (r : List ByteArray) : (pre ++ t :: r)[pre.length]? = some t := by
 rw [List.getElem?_append_right (Nat.le_refl _), Nat.sub_self]; rfl
theorem fill_back (x : SIns) : ∀ (fs : List UInt8) (pre : List ByteArray) (y : SIns), (∀ c ∈ fs, c = 68 ∨ c = 65 ∨ c = 66 ∨ c = 78 ∨ c = 76) → (76 : UInt8) ∉ fs.dropLast → (∀ p ∈ partsOf x fs, PartGood p) →
 fillR (pre ++ (partsOf x fs).map Part.str) fs pre.length y = (0, fs.foldl (copyF x) y)
 | [], pre, y, _, _, _ => rfl
 | c :: r, pre, y, hc, hL, hg => by
  have hp : partsOf x (c :: r) = fieldParts x c ++ partsOf x r := List.flatMap_cons
  have hcr : ∀ d ∈ r, d = 68 ∨ d = 65 ∨ d = 66 ∨ d = 78 ∨ d = 76 := fun d hd => hc d (List.mem_cons_of_mem _ hd)
  have hLr : (76 : UInt8) ∉ r.dropLast := by
   cases r with
   | nil => simp
   | cons d r => exact fun h => hL (by rw [List.dropLast_cons_cons]; exact List.mem_cons_of_mem _ h)
  rw [hp] at hg ⊢
  have hgr : ∀ p ∈ partsOf x r, PartGood p := fun p h => hg p (List.mem_append_right _ h)
  have num1 : ∀ (n : Int), ¬ c = 78 → ¬ c = 76 → fieldParts x c = [.num n] → setF c n y = copyF x y c → fillR (pre ++ (fieldParts x c ++ partsOf x r).map Part.str) (c :: r) pre.length y = (0, (c :: r).foldl (copyF x) y) := by
   intro n h1 h2 h3 h4
   have hn : good n = true := hg (.num n) (List.mem_append_left _ (by rw [h3]; exact List.mem_cons_self))
   have ih := fill_back x r (pre ++ [Part.str (.num n)]) (copyF x y c) hcr hLr hgr
   rw [List.append_assoc, List.length_append] at ih
   rw [h3]
   show fillR (pre ++ Part.str (.num n) :: (partsOf x r).map Part.str) _ _ _ = _
   rw [fillR_num h1 h2 (at_pre pre _ _), part_read hn]
   dsimp only
   rw [h4]
   exact ih
  rcases hc c List.mem_cons_self with rfl | rfl | rfl | rfl | rfl
  ·exact num1 x.f1 (by decide) (by decide) rfl rfl
  ·exact num1 x.f2 (by decide) (by decide) rfl rfl
  ·exact num1 x.f3 (by decide) (by decide) rfl rfl
  ·have hn : nameOk x.f4 = true := hg (.nm x.f4) (List.mem_append_left _ List.mem_cons_self)
   have ih := fill_back x r (pre ++ [x.f4]) (copyF x y 78) hcr hLr hgr
   rw [List.append_assoc, List.length_append] at ih
   show fillR (pre ++ x.f4 :: (partsOf x r).map Part.str) _ _ _ = _
   rw [fillR_name (at_pre pre _ _), zC hn]
   exact ih
  ·have hr : r = [] := by
    cases r with
    | nil => rfl
    | cons d r => exact absurd (by rw [List.dropLast_cons_cons]; exact List.mem_cons_self) hL
   subst hr
   have hf : fieldParts x 76 ++ partsOf x [] = x.f5.map .num := List.append_nil _
   rw [hf] at hg ⊢
   rw [fillR_list, List.drop_left, nums_mapM x.f5 (fun n hn => hg (.num n) (List.mem_map.2 ⟨n, hn, rfl⟩))]
   rfl
theorem form_of {op o : Int} {code : Bool} {wd fs : ByteArray} (h : text_of.f op code = some (o, wd, fs, true)) :
 o = op ∧ (∀ c ∈ fs.data.toList, c = 68 ∨ c = 65 ∨ c = 66 ∨ c = 78 ∨ c = 76) ∧ (76 : UInt8) ∉ fs.data.toList.dropLast ∧ (32 : UInt8) ∉ wd.data.toList ∧ (10 : UInt8) ∉ wd.data.toList ∧ wd.data.toList ≠ [98, 108, 111, 99, 107] ∧ fs.size ≤ 3 ∧ wd.size ≤ 6 ∧ 0 ≤ op ∧ op < 23 ∧ (openF fs = false → (76 : UInt8) ∉ fs.data.toList) := by
 rcases op_cases op with rfl | rfl | rfl | rfl | rfl | rfl | rfl | rfl | rfl | rfl | rfl | rfl | rfl | rfl | rfl | rfl | rfl | ho
 case inr.inr.inr.inr.inr.inr.inr.inr.inr.inr.inr.inr.inr.inr.inr.inr.inr =>
  rw [text_of_none (.inr ho)] at h
  cases h
 all_goals
  cases code
  all_goals
   first
    | (cases h; done)
    | (injection h with h
       simp only [Prod.mk.injEq] at h
       obtain ⟨rfl, rfl, rfl, -⟩ := h
       exact ⟨rfl, by decide, by decide, by decide, by decide, by decide, by decide, by decide, by decide, by decide, by decide⟩)
theorem byFrom_none {wd : ByteArray} {code : Bool} : ∀ {k : Nat} {i : Int}, byFrom wd code k i = none → ∀ j, i ≤ j → j < i + k → isBy wd code j = none
 | 0, i, h, j, h1, h2 => by omega
 | k + 1, i, h, j, h1, h2 => by
  unfold byFrom at h
  split at h
  ·cases h
  ·next hn =>
   by_cases e : j = i
   ·rw [e]; exact hn
   ·exact byFrom_none h j (by omega) (by omega)
theorem by_back {op : Int} {code : Bool} {wd fs : ByteArray} (h : text_of.f op code = some (op, wd, fs, true)) : byOf wd code = some (op, wd, fs) := by
 obtain ⟨-, h2, h3⟩ := of_word h
 obtain ⟨-, -, -, -, -, -, -, -, h4, h5, -⟩ := form_of h
 have hb : isBy wd code op = some (op, wd, fs) := by rw [isBy_true h, zC rfl]
 cases hn : byOf wd code with
 | none =>
  have := byFrom_none hn op h4 (by omega)
  rw [hb] at this; cases this
 | some r =>
  obtain ⟨j, -, -, hj⟩ := byFrom_some hn
  obtain ⟨-, q2, -⟩ := isBy_some hj
  rw [h2] at q2
  subst q2
  rw [hb] at hj
  exact hj.symm
theorem words_flat : ∀ (ps : List (List UInt8)) (w : List UInt8), (32 : UInt8) ∉ w → (∀ p ∈ ps, (32 : UInt8) ∉ p) → wordsL (w ++ ps.flatMap (fun p => 32 :: p)) = w :: ps
 | [], w, h, _ => by rw [List.flatMap_nil, List.append_nil]; exact wordsL_one h
 | p :: ps, w, h, hp => by
  rw [List.flatMap_cons, List.cons_append, wordsL_cons _ h, words_flat ps p (hp p List.mem_cons_self) (fun q hq => hp q (List.mem_cons_of_mem _ hq))]
theorem low_no {s : ByteArray} (h : nameOk s = true) (b : UInt8) (hb : b = 32 ∨ b = 10) : b ∉ s.data.toList := by
 unfold nameOk at h
 simp only [Bool.and_eq_true] at h
 intro hm
 have := List.all_eq_true.1 h.2 b hm
 rcases hb with rfl | rfl <;> simp [lowD] at this
theorem part_no {p : Part} (h : PartGood p) (b : UInt8) (hb : b = 32 ∨ b = 10) : b ∉ p.str.data.toList := by
 cases p with
 | num n =>
  rw [show (Part.num n).str = num n from part_num h, num_list]
  intro hm
  have := dec_mem n.toNat b hm
  rcases hb with rfl | rfl <;> simp at this
 | nm s => exact low_no h b hb
def bodyB (wd : ByteArray) (ps : List Part) : List UInt8 := wd.data.toList ++ ps.flatMap (fun p => 32 :: p.str.data.toList)
theorem body_words {wd : ByteArray} {ps : List Part} (h : (32 : UInt8) ∉ wd.data.toList) (hp : ∀ p ∈ ps, PartGood p) : wordsOf ⟨(bodyB wd ps).toArray⟩ = wd :: ps.map Part.str := by
 refine wordsOf_of ?_
 have := words_flat (ps.map fun p => p.str.data.toList) wd.data.toList h (fun q hq => by
  obtain ⟨p, hm, rfl⟩ := List.mem_map.1 hq
  exact part_no (hp p hm) 32 (.inl rfl))
 rw [List.flatMap_map] at this
 show _ = wordsL (bodyB wd ps)
 unfold bodyB
 rw [this]
 simp [bytesOfL]
theorem body_no10 {wd : ByteArray} {ps : List Part} (h : (10 : UInt8) ∉ wd.data.toList) (hp : ∀ p ∈ ps, PartGood p) : (10 : UInt8) ∉ bodyB wd ps := by
 unfold bodyB
 intro hm
 rcases List.mem_append.1 hm with hm | hm
 ·exact h hm
 ·obtain ⟨p, hpm, hm⟩ := List.mem_flatMap.1 hm
  rcases List.mem_cons.1 hm with hm | hm
  ·exact absurd hm (by decide)
  ·exact part_no (hp p hpm) 10 (.inr rfl) hm
def stepW (n : Nat) (st : PS) (ws : List ByteArray) : Int × PS := if n = 0 then topP st ws else lineP st ws
theorem step_cut (n : Nat) (st : PS) (b rest : List UInt8) (h : (10 : UInt8) ∉ b) : stepP n st (cutB ⟨(b ++ 10 :: rest).toArray⟩).1 = stepW n st (wordsOf ⟨b.toArray⟩) ∧ (cutB ⟨(b ++ 10 :: rest).toArray⟩).2 = ⟨rest.toArray⟩ := by
 have hd : (⟨(b ++ 10 :: rest).toArray⟩ : ByteArray).data.toList = b ++ 10 :: rest := rfl
 have h1 : (⟨(b ++ 10 :: rest).toArray⟩ : ByteArray).data.toList[b.length]? = some 10 := by
  rw [hd, List.getElem?_append_right (Nat.le_refl _), Nat.sub_self]; rfl
 have h2 : ∀ j, j < b.length → (⟨(b ++ 10 :: rest).toArray⟩ : ByteArray).data.toList[j]? ≠ some 10 := fun j hj he => by
  rw [hd, List.getElem?_append_left hj] at he
  exact h (List.mem_of_getElem? he)
 obtain ⟨q1, q2, q3⟩ := cut_found h1 h2
 have e1 : (⟨(b ++ 10 :: rest).toArray⟩ : ByteArray).extract 0 b.length = ⟨b.toArray⟩ := ba_ext (by
  rw [ex_list, hd]; simp)
 have e2 : (⟨(b ++ 10 :: rest).toArray⟩ : ByteArray).extract (b.length + 1) (⟨(b ++ 10 :: rest).toArray⟩ : ByteArray).size = ⟨rest.toArray⟩ := ba_ext (by
  rw [ex_list, hd]
  have hz : (⟨(b ++ 10 :: rest).toArray⟩ : ByteArray).size = b.length + 1 + rest.length := by show (b ++ 10 :: rest).toArray.size = _; simp; omega
  rw [hz, show b ++ 10 :: rest = (b ++ [10]) ++ rest by simp, List.drop_append_of_le_length (by simp)]
  rw [List.drop_eq_nil_of_le (by simp)]
  simp)
 refine ⟨?_, q3.trans e2⟩
 unfold stepP stepW
 rw [q1, zD (by decide), q2, e1]
def Runs (st : PS) (n : Nat) (t : List UInt8) (st' : PS) (m : Nat) : Prop := m ≤ t.length ∧ ∀ (k : Nat) (rest : List UInt8), parseR (k + m) n st ⟨(t ++ rest).toArray⟩ = parseR k (n + m) st' ⟨rest.toArray⟩
theorem Runs.none (st : PS) (n : Nat) : Runs st n [] st 0 := ⟨Nat.le_refl _, fun k rest => rfl⟩
theorem Runs.more {st st1 st2 : PS} {n m1 m2 : Nat} {t1 t2 : List UInt8} (h1 : Runs st n t1 st1 m1) (h2 : Runs st1 (n + m1) t2 st2 m2) : Runs st n (t1 ++ t2) st2 (m1 + m2) := ⟨by rw [List.length_append]; exact Nat.add_le_add h1.1 h2.1, fun k rest => by
 rw [List.append_assoc, show k + (m1 + m2) = (k + m2) + m1 by omega, h1.2 (k + m2) (t2 ++ rest), h2.2 k rest, Nat.add_assoc]⟩
theorem Runs.one {st st' : PS} {n : Nat} {b : List UInt8} (hb : (10 : UInt8) ∉ b) (h : stepW n st (wordsOf ⟨b.toArray⟩) = (0, st')) : Runs st n (b ++ [10]) st' 1 := ⟨by simp, fun k rest => by
 rw [List.append_assoc, List.singleton_append]
 obtain ⟨q1, q2⟩ := step_cut n st b rest hb
 rw [h] at q1
 conv => lhs; unfold parseR
 have hz : ¬ (⟨(b ++ 10 :: rest).toArray⟩ : ByteArray).size = 0 := by
  show ¬ (b ++ 10 :: rest).toArray.size = 0
  simp
 rw [zD hz, q1, zC rfl, q2]⟩
def normI (code : Bool) (x : SIns) : SIns := match text_of.f x.f0 code with
 | some (op, _, fs, true) => fs.data.toList.foldl (copyF x) (insOp op)
 | _ => x
def putL (st : PS) (x : SIns) : PS := { st with blocks := st.blocks.set (st.blocks.length - 1) (st.blocks.getD (st.blocks.length - 1) [] ++ [x]) }
theorem errs_good : ∀ (ps : List Part) (e : Int), errsOf e ps = 0 → e = 0 ∧ ∀ p ∈ ps, p.err = 0
 | [], e, h => ⟨h, fun p hp => by cases hp⟩
 | p :: ps, e, h => by
  have h1 : errsOf e (p :: ps) = errsOf (keepE e p.err) ps := rfl
  rw [h1] at h
  obtain ⟨q1, q2⟩ := errs_good ps _ h
  unfold keepE at q1
  split at q1
  ·next h0 =>
   refine ⟨h0, fun p' hp => ?_⟩
   rcases List.mem_cons.1 hp with rfl | hp
   ·exact q1
   ·exact q2 p' hp
  ·next h0 => exact absurd q1 h0
theorem name_good (nb : Bool) : ∀ (fs : List UInt8) (e : Int), nameErr nb e fs = 0 → e = 0 ∧ ((78 : UInt8) ∈ fs → nb = true)
 | [], e, h => ⟨h, fun h => by cases h⟩
 | c :: fs, e, h => by
  have h1 : nameErr nb e (c :: fs) = nameErr nb (if c = 78 then (if nb then e else keepE e 80) else e) fs := rfl
  rw [h1] at h
  obtain ⟨q1, q2⟩ := name_good nb fs _ h
  cases nb with
  | true => exact ⟨by simpa using q1, fun _ => rfl⟩
  | false =>
   by_cases hc : c = 78
   ·rw [zC hc, zD (by decide)] at q1
    unfold keepE at q1
    split at q1
    ·exact absurd q1 (by decide)
    ·next h0 => exact absurd q1 h0
   ·rw [zD hc] at q1
    refine ⟨q1, fun hm => ?_⟩
    rcases List.mem_cons.1 hm with rfl | hm
    ·exact absurd rfl hc
    ·exact q2 hm
theorem parts_good {x : SIns} {fs : List UInt8} (h : errsOf (nameErr (nameOk x.f4) 0 fs) (partsOf x fs) = 0) : ∀ p ∈ partsOf x fs, PartGood p := by
 obtain ⟨h1, h2⟩ := errs_good _ _ h
 obtain ⟨-, h3⟩ := name_good _ _ _ h1
 intro p hp
 cases p with
 | num n =>
  have := h2 _ hp
  rw [err_num] at this
  show good n = true
  cases hg : good n with
  | true => rfl
  | false => rw [hg] at this; exact absurd this (by decide)
 | nm s =>
  obtain ⟨c, hc, hp⟩ := List.mem_flatMap.1 hp
  unfold fieldParts at hp
  split at hp
  ·cases List.mem_singleton.1 hp
  split at hp
  ·cases List.mem_singleton.1 hp
  split at hp
  ·cases List.mem_singleton.1 hp
  split at hp
  ·next h78 =>
   cases List.mem_singleton.1 hp
   exact h3 (h78 ▸ hc)
  split at hp
  ·obtain ⟨n, -, e⟩ := List.mem_map.1 hp
   cases e
  ·cases hp
theorem parts_size (x : SIns) : ∀ fs : List UInt8, (∀ c ∈ fs, c = 68 ∨ c = 65 ∨ c = 66 ∨ c = 78 ∨ c = 76) → (76 : UInt8) ∉ fs → (partsOf x fs).length = fs.length
 | [], _, _ => rfl
 | c :: r, h, h76 => by
  have ih := parts_size x r (fun d hd => h d (List.mem_cons_of_mem _ hd)) (fun hm => h76 (List.mem_cons_of_mem _ hm))
  rw [show partsOf x (c :: r) = fieldParts x c ++ partsOf x r from List.flatMap_cons, List.length_append, ih, List.length_cons]
  rcases h c List.mem_cons_self with rfl | rfl | rfl | rfl | rfl
  ·show 1 + _ = _; omega
  ·show 1 + _ = _; omega
  ·show 1 + _ = _; omega
  ·show 1 + _ = _; omega
  ·exact absurd List.mem_cons_self h76
theorem parts_least (x : SIns) : ∀ fs : List UInt8, (∀ c ∈ fs, c = 68 ∨ c = 65 ∨ c = 66 ∨ c = 78 ∨ c = 76) → (76 : UInt8) ∉ fs.dropLast → fs.length ≤ (partsOf x fs).length + 1
 | [], _, _ => by simp
 | [c], _, _ => by simp
 | c :: d :: r, h, h76 => by
  have ih := parts_least x (d :: r) (fun e hd => h e (List.mem_cons_of_mem _ hd)) (fun hm => h76 (by rw [List.dropLast_cons_cons]; exact List.mem_cons_of_mem _ hm))
  rw [show partsOf x (c :: d :: r) = fieldParts x c ++ partsOf x (d :: r) from List.flatMap_cons, List.length_append, List.length_cons]
  have : (fieldParts x c).length = 1 := by
   rcases h c List.mem_cons_self with rfl | rfl | rfl | rfl | rfl
   ·rfl
   ·rfl
   ·rfl
   ·rfl
   ·exact absurd (by rw [List.dropLast_cons_cons]; exact List.mem_cons_self) h76
  omega
theorem ins_runs {code : Bool} {x : SIns} {s : List UInt8} {st : PS} {n : Nat} (hn : n ≠ 0) (hc : st.code = code) (hb : st.blocks ≠ []) (h : (insText code (s, 0) x).2 = 0) :
 ∃ t, (insText code (s, 0) x).1 = s ++ t ∧ Runs st n t (putL st (normI code x)) 1 := by
 subst hc
 obtain ⟨⟨o, wd, fs, is⟩, hof⟩ := text_of_total x.f0 st.code
 cases is with
 | false =>
  unfold insText at h
  rw [hof] at h
  exact absurd h (show ¬ keepE 0 80 = 0 by decide)
 | true =>
  obtain ⟨rfl, f1, f2, f3, f4, f5, -, -, -, -, f6⟩ := form_of hof
  have e : insText st.code (s, 0) x = (s ++ lineBytes wd (partsOf x fs.data.toList), errsOf (nameErr (nameOk x.f4) 0 fs.data.toList) (partsOf x fs.data.toList)) := by
   unfold insText; rw [hof]; dsimp only; rw [name_eq]; rfl
  rw [e] at h ⊢
  have hg := parts_good h
  refine ⟨_, rfl, ?_⟩
  rw [lineBytes_flat]
  refine Runs.one (b := bodyB wd (partsOf x fs.data.toList)) (body_no10 f4 hg) ?_
  rw [body_words f3 hg]
  unfold stepW
  rw [zD hn]
  unfold lineP
  have hsz : fs.data.toList.length = fs.size := by simp
  have hfill := fill_back x fs.data.toList [] (insOp x.f0) f1 f2 hg
  simp only [List.nil_append, List.length_nil] at hfill
  have hnb : ¬ (wd.toList = [98, 108, 111, 99, 107] ∧ (partsOf x fs.data.toList).map Part.str = []) := fun hh => f5 (by rw [← toList_data]; exact hh.1)
  have hcnt : ¬ (openF fs = false ∧ ((partsOf x fs.data.toList).map Part.str).length ≠ fs.size ∨ openF fs = true ∧ ((partsOf x fs.data.toList).map Part.str).length + 1 < fs.size) := by
   rw [List.length_map]
   rintro (⟨h1, h2⟩ | ⟨h1, h2⟩)
   ·exact h2 (by rw [parts_size x _ f1 (f6 h1), hsz])
   ·have := parts_least x _ f1 f2; omega
  simp only [zD hnb, by_back hof, zD hb, zD hcnt, hfill, if_true]
  have hnm : normI st.code x = fs.data.toList.foldl (copyF x) (insOp x.f0) := by unfold normI; rw [hof]
  rw [hnm]
  rfl
theorem block_runs {st : PS} {n : Nat} (hn : n ≠ 0) : Runs st n [98, 108, 111, 99, 107, 10] { st with blocks := st.blocks ++ [[]] } 1 := by
 refine Runs.one (b := [98, 108, 111, 99, 107]) (by decide) ?_
 have e : wordsOf ⟨([98, 108, 111, 99, 107] : List UInt8).toArray⟩ = [⟨#[98, 108, 111, 99, 107]⟩] := wordsOf_of (by decide)
 rw [e]
 unfold stepW
 rw [zD hn]
 have : (⟨#[98, 108, 111, 99, 107]⟩ : ByteArray).toList = [98, 108, 111, 99, 107] := by rw [toList_data]
 exact zC ⟨this, rfl⟩
theorem put_snoc (st : PS) (bs : List (List SIns)) (b : List SIns) (x : SIns) (h : st.blocks = bs ++ [b]) : putL st x = { st with blocks := bs ++ [b ++ [x]] } := by
 unfold putL
 rw [h]
 congr 1
 have hl : (bs ++ [b]).length - 1 = bs.length := by simp
 rw [hl, List.getD_eq_getElem?_getD, List.getElem?_append_right (Nat.le_refl _), Nat.sub_self]
 rw [List.set_append_right _ _ (Nat.le_refl _), Nat.sub_self]
 rfl
theorem inss_runs {code : Bool} : ∀ (xs : List SIns) (s : List UInt8) (st : PS) (bs : List (List SIns)) (b : List SIns) (n : Nat), n ≠ 0 → st.code = code → st.blocks = bs ++ [b] → (xs.foldl (insText code) (s, 0)).2 = 0 →
 ∃ t, (xs.foldl (insText code) (s, 0)).1 = s ++ t ∧ Runs st n t { st with blocks := bs ++ [b ++ xs.map (normI code)] } xs.length
 | [], s, st, bs, b, n, hn, hc, hb, h => ⟨[], (List.append_nil _).symm, by
  have : ({ st with blocks := bs ++ [b ++ ([] : List SIns).map (normI code)] } : PS) = st := by rw [List.map_nil, List.append_nil, ← hb]
  rw [this]
  exact Runs.none st n⟩
 | x :: xs, s, st, bs, b, n, hn, hc, hb, h => by
  rw [List.foldl_cons] at h ⊢
  have h0 : (insText code (s, 0) x).2 = 0 := by
   by_cases h0 : (insText code (s, 0) x).2 = 0
   ·exact h0
   ·rw [fold_err (fun s x h => keep_err h) xs _ h0] at h; exact absurd h h0
  obtain ⟨t1, e1, r1⟩ := ins_runs (st := st) (n := n) hn hc (by rw [hb]; simp) h0
  have e0 : insText code (s, 0) x = (s ++ t1, 0) := Prod.ext e1 h0
  rw [e0] at h ⊢
  rw [put_snoc st bs b _ hb] at r1
  obtain ⟨t2, e2, r2⟩ := inss_runs xs (s ++ t1) { st with blocks := bs ++ [b ++ [normI code x]] } bs (b ++ [normI code x]) (n + 1) (by omega) hc rfl h
  refine ⟨t1 ++ t2, by rw [e2, List.append_assoc], ?_⟩
  have := r1.more r2
  rw [List.length_cons, Nat.add_comm xs.length 1, List.map_cons, show b ++ normI code x :: xs.map (normI code) = b ++ [normI code x] ++ xs.map (normI code) by simp]
  exact this
theorem blks_runs {code : Bool} : ∀ (l : List (List SIns)) (s : List UInt8) (st : PS) (n : Nat), n ≠ 0 → st.code = code → (blksText code (s, 0) l).2 = 0 →
 ∃ t, (blksText code (s, 0) l).1 = s ++ t ∧ Runs st n t { st with blocks := st.blocks ++ l.map (fun xs => xs.map (normI code)) } (l.length + total l)
 | [], s, st, n, hn, hc, h => ⟨[], (List.append_nil _).symm, by
  have : ({ st with blocks := st.blocks ++ ([] : List (List SIns)).map (fun xs => xs.map (normI code)) } : PS) = st := by rw [List.map_nil, List.append_nil]
  rw [this]
  exact Runs.none st n⟩
 | xs :: l, s, st, n, hn, hc, h => by
  have e1 : blksText code (s, 0) (xs :: l) = blksText code (blkText code (s, 0) xs) l := rfl
  rw [e1] at h ⊢
  have h0 : (blkText code (s, 0) xs).2 = 0 := by
   by_cases h0 : (blkText code (s, 0) xs).2 = 0
   ·exact h0
   ·rw [blks_err h0] at h; exact absurd h h0
  have r0 := block_runs (st := st) (n := n) hn
  obtain ⟨t1, q1, r1⟩ := inss_runs (code := code) xs (s ++ [98, 108, 111, 99, 107, 10]) { st with blocks := st.blocks ++ [[]] } st.blocks [] (n + 1) (by omega) hc rfl h0
  have e0 : blkText code (s, 0) xs = (s ++ [98, 108, 111, 99, 107, 10] ++ t1, 0) := Prod.ext q1 h0
  rw [e0] at h ⊢
  obtain ⟨t2, q2, r2⟩ := blks_runs l (s ++ [98, 108, 111, 99, 107, 10] ++ t1) { st with blocks := st.blocks ++ [[] ++ xs.map (normI code)] } (n + 1 + xs.length) (by omega) hc h
  refine ⟨[98, 108, 111, 99, 107, 10] ++ t1 ++ t2, by rw [q2]; simp, ?_⟩
  rw [Nat.add_assoc] at r2
  have hr := (r0.more r1).more r2
  rw [show (xs :: l).length + total (xs :: l) = 1 + xs.length + (l.length + total l) by simp [total]; omega]
  rw [List.map_cons, show st.blocks ++ (xs.map (normI code)) :: l.map (fun xs => xs.map (normI code)) = st.blocks ++ [[] ++ xs.map (normI code)] ++ l.map (fun xs => xs.map (normI code)) by simp]
  exact hr
theorem head_runs {a0 : ByteArray} {a1 a2 : Int} (h : (printHead a0 a1 a2).2 = 0) : Runs psFunc 0 (printHead a0 a1 a2).1 { psFunc with name := a0, head := [a1, a2] } 1 ∧ nameOk a0 = true ∧ good a1 = true ∧ good a2 = true := by
 unfold printHead at h ⊢
 rw [name_eq] at h
 obtain ⟨h1, h2⟩ := errs_good _ _ h
 have hn : nameOk a0 = true := by
  cases hk : nameOk a0 with
  | true => rfl
  | false => rw [hk] at h1; exact absurd h1 (by decide)
 have g : ∀ n : Int, Part.num n ∈ [Part.nm a0, .num a1, .num a2] → good n = true := fun n hm => by
  have := h2 _ hm
  rw [err_num] at this
  cases hg : good n with
  | true => rfl
  | false => rw [hg] at this; exact absurd this (by decide)
 have g1 := g a1 (by simp)
 have g2 := g a2 (by simp)
 refine ⟨?_, hn, g1, g2⟩
 have hg : ∀ p ∈ [Part.nm a0, .num a1, .num a2], PartGood p := fun p hp => by
  simp only [List.mem_cons, List.not_mem_nil, or_false] at hp
  rcases hp with rfl | rfl | rfl
  ·exact hn
  ·exact g1
  ·exact g2
 dsimp only
 rw [lineBytes_flat]
 refine Runs.one (b := bodyB (⟨#[102, 117, 110, 99]⟩ : ByteArray) [Part.nm a0, .num a1, .num a2]) (body_no10 (by decide) hg) ?_
 rw [body_words (by decide) hg]
 unfold stepW
 rw [zC rfl]
 have hm : ([Part.num a1, .num a2].map Part.str).mapM numOf = some [a1, a2] := nums_mapM [a1, a2] (fun n hn => by
  simp only [List.mem_cons, List.not_mem_nil, or_false] at hn
  rcases hn with rfl | rfl
  ·exact g1
  ·exact g2)
 have hc : (⟨#[102, 117, 110, 99]⟩ : ByteArray).toList = psFunc.first.toList ∧ ((([Part.num a1, .num a2].map Part.str).length + 2 : Nat) : Int) = psFunc.heads + 2 ∧ nameOk a0 = true := ⟨rfl, rfl, hn⟩
 refine (zC hc).trans ?_
 rw [hm]
 rfl
theorem print_runs {a0 : ByteArray} {a1 a2 : Int} {l : List (List SIns)} (h : (printS a0 a1 a2 l).2 = 0) :
 Runs psFunc 0 (printS a0 a1 a2 l).1 ⟨false, psFunc.first, 2, a0, [a1, a2], l.map (fun xs => xs.map (normI false))⟩ (1 + l.length + total l) ∧ nameOk a0 = true ∧ good a1 = true ∧ good a2 = true := by
 unfold printS at h ⊢
 have h0 : (printHead a0 a1 a2).2 = 0 := by
  by_cases h0 : (printHead a0 a1 a2).2 = 0
  ·exact h0
  ·rw [blks_err h0] at h; exact absurd h h0
 obtain ⟨r0, g⟩ := head_runs h0
 have e0 : printHead a0 a1 a2 = ((printHead a0 a1 a2).1, 0) := Prod.ext rfl h0
 rw [e0] at h ⊢
 obtain ⟨t, e1, r1⟩ := blks_runs (code := false) l (printHead a0 a1 a2).1 { psFunc with name := a0, head := [a1, a2] } (0 + 1) (by decide) rfl h
 refine ⟨?_, g⟩
 rw [e1, show 1 + l.length + total l = 1 + (l.length + total l) by omega]
 exact r0.more r1
theorem part_len {p : Part} (h : PartGood p) : p.str.data.toList.length ≤ 12 := by
 cases p with
 | num n =>
  have hg : 0 ≤ n ∧ n < 2147483648 := by have h : good n = true := h; simpa [good] using h
  rw [show (Part.num n).str = num n from part_num h]
  have := num_size hg.2
  show (num n).data.toList.length ≤ 12
  simp only [Array.length_toList]
  show (num n).size ≤ 12
  omega
 | nm s =>
  have h : nameOk s = true := h
  unfold nameOk at h
  simp only [Bool.and_eq_true, decide_eq_true_eq] at h
  show s.data.toList.length ≤ 12
  simp only [Array.length_toList]
  show s.size ≤ 12
  omega
theorem flat_small : ∀ (ps : List Part), (∀ p ∈ ps, PartGood p) → (ps.flatMap (fun p => 32 :: p.str.data.toList)).length ≤ 13 * ps.length
 | [], _ => by simp
 | p :: ps, h => by
  have h1 := part_len (h p List.mem_cons_self)
  have h2 := flat_small ps (fun q hq => h q (List.mem_cons_of_mem _ hq))
  simp only [List.flatMap_cons, List.length_append, List.length_cons]
  omega
theorem parts_most (x : SIns) : ∀ fs : List UInt8, (∀ c ∈ fs, c = 68 ∨ c = 65 ∨ c = 66 ∨ c = 78 ∨ c = 76) → (76 : UInt8) ∉ fs.dropLast → (partsOf x fs).length + 1 ≤ fs.length + max 1 x.f5.length
 | [], _, _ => by show 0 + 1 ≤ 0 + _; omega
 | [c], h, _ => by
  rw [show partsOf x [c] = fieldParts x c ++ [] from List.flatMap_cons, List.append_nil]
  rcases h c List.mem_cons_self with rfl | rfl | rfl | rfl | rfl
  ·show 1 + 1 ≤ 1 + _; omega
  ·show 1 + 1 ≤ 1 + _; omega
  ·show 1 + 1 ≤ 1 + _; omega
  ·show 1 + 1 ≤ 1 + _; omega
  ·show (x.f5.map Part.num).length + 1 ≤ 1 + _; rw [List.length_map]; omega
 | c :: d :: r, h, h76 => by
  have ih := parts_most x (d :: r) (fun e hd => h e (List.mem_cons_of_mem _ hd)) (fun hm => h76 (by rw [List.dropLast_cons_cons]; exact List.mem_cons_of_mem _ hm))
  rw [show partsOf x (c :: d :: r) = fieldParts x c ++ partsOf x (d :: r) from List.flatMap_cons, List.length_append, List.length_cons]
  have : (fieldParts x c).length = 1 := by
   rcases h c List.mem_cons_self with rfl | rfl | rfl | rfl | rfl
   ·rfl
   ·rfl
   ·rfl
   ·rfl
   ·exact absurd (by rw [List.dropLast_cons_cons]; exact List.mem_cons_self) h76
  omega
theorem ins_small {code : Bool} {x : SIns} {s : List UInt8} (h5 : x.f5.length ≤ 20) (h : (insText code (s, 0) x).2 = 0) : (insText code (s, 0) x).1.length ≤ s.length + 293 := by
 obtain ⟨⟨o, wd, fs, is⟩, hof⟩ := text_of_total x.f0 code
 cases is with
 | false =>
  unfold insText at h
  rw [hof] at h
  exact absurd h (show ¬ keepE 0 80 = 0 by decide)
 | true =>
  obtain ⟨rfl, f1, f2, f3, f4, f5, f7, f8, -, -, f6⟩ := form_of hof
  have e : insText code (s, 0) x = (s ++ lineBytes wd (partsOf x fs.data.toList), errsOf (nameErr (nameOk x.f4) 0 fs.data.toList) (partsOf x fs.data.toList)) := by
   unfold insText; rw [hof]; dsimp only; rw [name_eq]; rfl
  rw [e] at h ⊢
  have hg := parts_good h
  have h1 := flat_small _ hg
  have h2 := parts_most x _ f1 f2
  have hsz : fs.data.toList.length = fs.size := by simp
  have hwz : wd.data.toList.length = wd.size := by simp
  dsimp only
  rw [lineBytes_flat, List.length_append, List.length_append, List.length_append, hwz, List.length_singleton]
  omega
theorem inss_small {code : Bool} : ∀ (xs : List SIns) (s : List UInt8), (∀ x ∈ xs, x.f5.length ≤ 20) → (xs.foldl (insText code) (s, 0)).2 = 0 → (xs.foldl (insText code) (s, 0)).1.length ≤ s.length + 293 * xs.length
 | [], s, _, _ => by simp
 | x :: xs, s, h5, h => by
  rw [List.foldl_cons] at h ⊢
  have h0 : (insText code (s, 0) x).2 = 0 := by
   by_cases h0 : (insText code (s, 0) x).2 = 0
   ·exact h0
   ·rw [fold_err (fun s x h => keep_err h) xs _ h0] at h; exact absurd h h0
  have h1 := ins_small (h5 x List.mem_cons_self) h0
  have e0 : insText code (s, 0) x = ((insText code (s, 0) x).1, 0) := Prod.ext rfl h0
  rw [e0] at h ⊢
  have h2 := inss_small xs _ (fun y hy => h5 y (List.mem_cons_of_mem _ hy)) h
  rw [List.length_cons]
  omega
theorem blks_small {code : Bool} : ∀ (l : List (List SIns)) (s : List UInt8), (∀ xs ∈ l, ∀ x ∈ xs, x.f5.length ≤ 20) → (blksText code (s, 0) l).2 = 0 → (blksText code (s, 0) l).1.length ≤ s.length + 6 * l.length + 293 * total l
 | [], s, _, _ => by simp [blksText, total]
 | xs :: l, s, h5, h => by
  have e1 : blksText code (s, 0) (xs :: l) = blksText code (blkText code (s, 0) xs) l := rfl
  rw [e1] at h ⊢
  have h0 : (blkText code (s, 0) xs).2 = 0 := by
   by_cases h0 : (blkText code (s, 0) xs).2 = 0
   ·exact h0
   ·rw [blks_err h0] at h; exact absurd h h0
  have h1 : (blkText code (s, 0) xs).1.length ≤ (s ++ [98, 108, 111, 99, 107, 10]).length + 293 * xs.length := inss_small xs (s ++ [98, 108, 111, 99, 107, 10]) (h5 xs List.mem_cons_self) h0
  have e0 : blkText code (s, 0) xs = ((blkText code (s, 0) xs).1, 0) := Prod.ext rfl h0
  rw [e0] at h ⊢
  have h2 := blks_small l _ (fun y hy => h5 y (List.mem_cons_of_mem _ hy)) h
  have e2 : total (xs :: l) = xs.length + total l := by simp [total]
  have e3 : (s ++ ([98, 108, 111, 99, 107, 10] : List UInt8)).length = s.length + 6 := by rw [List.length_append]; rfl
  rw [e3] at h1
  rw [e2, List.length_cons]
  omega
theorem print_small {a0 : ByteArray} {a1 a2 : Int} {l : List (List SIns)} (hl : Light l) (h : (printS a0 a1 a2 l).2 = 0) : (printS a0 a1 a2 l).1.length ≤ 88300 := by
 have hw := h
 unfold printS at h ⊢
 have h0 : (printHead a0 a1 a2).2 = 0 := by
  by_cases h0 : (printHead a0 a1 a2).2 = 0
  ·exact h0
  ·rw [blks_err h0] at h; exact absurd h h0
 obtain ⟨-, hn, g1, g2⟩ := head_runs h0
 have hg : ∀ p ∈ [Part.nm a0, .num a1, .num a2], PartGood p := fun p hp => by
  simp only [List.mem_cons, List.not_mem_nil, or_false] at hp
  rcases hp with rfl | rfl | rfl
  ·exact hn
  ·exact g1
  ·exact g2
 have hh : (printHead a0 a1 a2).1.length ≤ 44 := by
  unfold printHead
  dsimp only
  have := flat_small _ hg
  rw [lineBytes_flat, List.length_append, List.length_append]
  have e4 : (⟨#[102, 117, 110, 99]⟩ : ByteArray).data.toList.length = 4 := rfl
  simp only [List.length_singleton, List.length_cons, List.length_nil] at this ⊢
  omega
 have e0 : printHead a0 a1 a2 = ((printHead a0 a1 a2).1, 0) := Prod.ext rfl h0
 rw [e0] at h ⊢
 have h2 := blks_small l _ (fun xs hx x hy => (hl.lite xs hx x hy).ln) h
 have := hl.len
 have := hl.tot
 omega
structure Told (code : Bool) (x : SIns) (B : Nat) : Prop where
 at_ : ∃ wd fs, text_of.f x.f0 code = some (x.f0, wd, fs, true) ∧ (∀ p ∈ partsOf x fs.data.toList, PartGood p)
 len : x.f5.length ≤ B
theorem errs_zero : ∀ (ps : List Part), (∀ p ∈ ps, PartGood p) → errsOf 0 ps = 0
 | [], _ => rfl
 | p :: ps, h => by
  have h1 : errsOf 0 (p :: ps) = errsOf (keepE 0 p.err) ps := rfl
  have h2 : p.err = 0 := by
   cases p with
   | num n => rw [err_num, zC (show good n = true from h _ List.mem_cons_self)]
   | nm s => rfl
  rw [h1, h2]
  exact errs_zero ps (fun q hq => h q (List.mem_cons_of_mem _ hq))
theorem name_zero {x : SIns} : ∀ (fs : List UInt8), (∀ p ∈ partsOf x fs, PartGood p) → nameErr (nameOk x.f4) 0 fs = 0
 | [], _ => rfl
 | c :: fs, h => by
  have hp : partsOf x (c :: fs) = fieldParts x c ++ partsOf x fs := List.flatMap_cons
  rw [hp] at h
  have h1 : nameErr (nameOk x.f4) 0 (c :: fs) = nameErr (nameOk x.f4) (if c = 78 then (if nameOk x.f4 then 0 else keepE 0 80) else 0) fs := rfl
  have h2 : (if c = 78 then (if nameOk x.f4 = true then (0 : Int) else keepE 0 80) else 0) = 0 := by
   by_cases hc : c = 78
   ·subst hc
    have : nameOk x.f4 = true := h (.nm x.f4) (List.mem_append_left _ List.mem_cons_self)
    rw [zC rfl, zC this]
   ·rw [zD hc]
  rw [h1, h2]
  exact name_zero fs (fun p hp => h p (List.mem_append_right _ hp))
theorem told_text {code : Bool} {x : SIns} {B : Nat} (h : Told code x B) (s : List UInt8) : ∃ wd fs, text_of.f x.f0 code = some (x.f0, wd, fs, true) ∧ insText code (s, 0) x = (s ++ lineBytes wd (partsOf x fs.data.toList), 0) := by
 obtain ⟨wd, fs, ho, hg⟩ := h.at_
 refine ⟨wd, fs, ho, ?_⟩
 unfold insText
 rw [ho]
 dsimp only
 rw [name_eq]
 show (_, errsOf (nameErr (nameOk x.f4) 0 _) _) = _
 rw [name_zero _ hg, errs_zero _ hg]
def rawLine (ws : List ByteArray) : List UInt8 := unw (bytesOfL ws) ++ [10]
theorem parse_told {st st' : PS} {t : List UInt8} {m : Nat} (h : Runs st 0 t st' m) (hm : 1 ≤ m) : parseAll st ⟨t.toArray⟩ = (0, 0, st') := by
 have hz : (⟨t.toArray⟩ : ByteArray).size = t.length := by show t.toArray.size = _; simp
 have h1 := h.1
 have h2 := h.2 (t.length + 1 - m) []
 rw [List.append_nil] at h2
 unfold parseAll
 rw [zD (by omega), hz, show t.length + 1 = (t.length + 1 - m) + m by omega, h2]
 cases t.length + 1 - m with
 | zero => rfl
 | succ k => unfold parseR; rw [zC (show (⟨([] : List UInt8).toArray⟩ : ByteArray).size = 0 from rfl)]
end Go.Proofs.YtniknpjeknmpjaaGreatDoor.PlainText
namespace Go.Proofs.YtniknpjeknmpjaaGreatDoor.Plain
open Go Go.RowKit Go.Proofs.YtniknpjeknmpjaaGreatDoorW.PrintWords Go.Proofs.YtniknpjeknmpjaaGreatDoorW.PrintMore
theorem scan {α : Type} (g : Nat → Nat → Option α) (n : Nat) (R : Nat → α) (hend : Ev (fun k => g k n) (R n)) (hstep : ∀ i, i < n → Ev (fun k => g k (i + 1)) (R (i + 1)) → Ev (fun k => g k i) (R i)) : ∀ i, i ≤ n → Ev (fun k => g k i) (R i) := by
 have h : ∀ d i, i + d = n → Ev (fun k => g k i) (R i) := by
  intro d
  induction d with
  | zero =>
   intro i hi
   obtain rfl : i = n := by omega
   exact hend
  | succ d ih =>
   intro i hi
   exact hstep i (by omega) (ih (i + 1) (by omega))
 intro i hi
 exact h (n - i) i (by omega)
theorem seek {α : Type} (g : Nat → Nat → Option α) (n : Nat) (bad : Nat → Prop) (e r : α) (hbad : ∀ i, i < n → bad i → Ev (fun k => g k i) e) (hgo : ∀ i, i < n → ¬ bad i → ∀ r', Ev (fun k => g k (i + 1)) r' → Ev (fun k => g k i) r')
 (hr : (∃ i, i < n ∧ bad i) → r = e) (hend : (∀ i, i < n → ¬ bad i) → Ev (fun k => g k n) r) : Ev (fun k => g k 0) r := by
 by_cases h : ∃ i, i < n ∧ bad i
 ·obtain rfl := hr h
  obtain ⟨m, hm, hb⟩ := h
  refine scan g m (fun _ => r) (hbad m hm hb) ?_ 0 (Nat.zero_le _)
  intro i hi hE
  by_cases c : bad i
  ·exact hbad i (by omega) c
  ·exact hgo i (by omega) c _ hE
 ·have hn : ∀ i, i < n → ¬ bad i := fun i hi hb => h ⟨i, hi, hb⟩
  refine scan g n (fun _ => r) (hend hn) ?_ 0 (Nat.zero_le _)
  intro i hi hE
  exact hgo i hi (hn i hi) _ hE
end Go.Proofs.YtniknpjeknmpjaaGreatDoor.Plain
namespace Go.Proofs.YtniknpjeknmpjaaGreatDoor.PlainIr
open Go Go.RowKit Go.Proofs.YtniknpjeknmpjaaGreatDoorW.PrintWords Go.Proofs.YtniknpjeknmpjaaGreatDoorW.PrintMore Go.Proofs.YtniknpjeknmpjaaGreatDoor.Q Go.Proofs.YtniknpjeknmpjaaGreatDoor.Plain
set_option linter.unusedVariables false
set_option linter.unusedSimpArgs false
theorem op_cases {op : Int} (h : 1 ≤ op ∧ op ≤ 14) : op = 1 ∨ op = 2 ∨ op = 3 ∨ op = 4 ∨ op = 5 ∨ op = 6 ∨ op = 7 ∨ op = 8 ∨ op = 9 ∨ op = 10 ∨ op = 11 ∨ op = 12 ∨ op = 13 ∨ op = 14 := by omega
def uses (op a b : Int) (args : List Int) : List Int :=
 if op = 2 ∨ op = 8 ∨ op = 10 ∨ op = 13 ∨ op = 14 then [a] else if (3 ≤ op ∧ op ≤ 7) ∨ op = 9 then [a, b] else if op = 11 then args else []
def defOf (op d : Int) : Int := if (1 ≤ op ∧ op ≤ 8) ∨ op = 11 then d else -1
def lastOp (op : Int) : Bool := decide (12 ≤ op ∧ op ≤ 14)
def targets7 (op d a b : Int) : List Int := if op = 12 then [a] else if op = 13 then [b, d] else []
theorem refdef_eq (op d a b : Int) (nm : ByteArray) (args : List Int) : cubbyref07_Def.f op d a b nm args = some (defOf op d) := by
 unfold cubbyref07_Def.f defOf
 by_cases h : (1 ≤ op ∧ op ≤ 8) ∨ op = 11
 ·rw [zC h]
  repeat' split
  all_goals first | rfl | omega
 ·rw [zD h]
  repeat' split
  all_goals first | rfl | omega
theorem reflast_eq (op : Int) : cubbyref07_Last.f op = some (lastOp op) := by
 unfold cubbyref07_Last.f lastOp
 split
 ·rw [zF (by omega)]
 ·split
  ·rw [zF (by omega)]
  ·by_cases h : op = 14
   ·rw [zF (by omega), beq_iff_eq.2 h]
   ·rw [zG (by omega), beq_eq_false_iff_ne.2 h]
theorem reftargets_eq (op d a b : Int) (nm : ByteArray) (args : List Int) : cubbyref07_Targets.f op d a b nm args = some (targets7 op d a b) := by
 unfold cubbyref07_Targets.f targets7
 simp only [zJ]
 split
 ·rw [zC (by simp)]; rfl
 ·split
  ·rw [zC (by simp)]; rfl
  ·rfl
theorem refuses_j1 (k : Nat) (op : Int) (c : Bool) (d a b : Int) (nm : ByteArray) (args : List Int) (ha : args.length ≤ 17592186043904) (hc : c = decide ((3 ≤ op ∧ op ≤ 7) ∨ op = 9)) (h : ¬ (op = 2 ∨ op = 8 ∨ op = 10 ∨ op = 13 ∨ op = 14)) :
 cubbyref07_Uses.j1 (k + 1) [] op c op d a b nm args = some (uses op a b args) := by
 simp only [cubbyref07_Uses.j1, zJ]
 unfold uses
 rw [zD h]
 by_cases h2 : (3 ≤ op ∧ op ≤ 7) ∨ op = 9
 ·rw [zC (by rw [hc]; exact zF h2), zC (by simp), zC h2]
  rfl
 ·rw [zD (by rw [hc]; simpa using h2), zD h2]
  split
  ·rw [zC (by simp; omega)]
   rfl
  ·rfl
theorem refuses_ev (op d a b : Int) (nm : ByteArray) (args : List Int) (ha : args.length ≤ 17592186043904) : Ev (fun k => cubbyref07_Uses.f k op d a b nm args) (uses op a b args) := by
 refine ⟨2, fun k hk => ?_⟩
 obtain ⟨k, rfl⟩ : ∃ m, k = m + 2 := ⟨k - 2, by omega⟩
 show cubbyref07_Uses.f (k + 2) op d a b nm args = some (uses op a b args)
 unfold cubbyref07_Uses.f
 simp only [zJ]
 have yes : (op = 2 ∨ op = 8 ∨ op = 10 ∨ op = 13 ∨ op = 14) → cubbyref07_Uses.j0 (k + 2) [] op true op d a b nm args = some (uses op a b args) := fun h => by
  simp only [cubbyref07_Uses.j0, if_true]
  rw [zC (by simp)]
  unfold uses
  rw [zC h]
  rfl
 by_cases h1 : op = 2
 ·rw [zC h1, beq_iff_eq.2 h1]
  exact yes (.inl h1)
 rw [zD h1]
 by_cases h2 : op = 8
 ·rw [zC h2, beq_iff_eq.2 h2]
  exact yes (by omega)
 rw [zD h2]
 by_cases h3 : op = 10
 ·rw [zC h3, beq_iff_eq.2 h3]
  exact yes (by omega)
 rw [zD h3]
 by_cases h4 : op = 14
 ·rw [zC h4, beq_iff_eq.2 h4]
  exact yes (by omega)
 rw [zD h4]
 by_cases h5 : op = 13
 ·rw [beq_iff_eq.2 h5]
  exact yes (by omega)
 rw [beq_eq_false_iff_ne.2 h5]
 simp only [cubbyref07_Uses.j0]
 rw [zD (by simp)]
 have g : ∀ c, c = decide ((3 ≤ op ∧ op ≤ 7) ∨ op = 9) → cubbyref07_Uses.j1 (k + 1) [] op c op d a b nm args = some (uses op a b args) := fun c hc => refuses_j1 k op c d a b nm args ha hc (by omega)
 repeat' split
 all_goals
  refine g _ ?_
  first
  | (rename_i h; rw [beq_iff_eq.2 h, zF (by omega)])
  | (by_cases h9 : op = 9
     ·rw [beq_iff_eq.2 h9, zF (by omega)]
     ·rw [beq_eq_false_iff_ne.2 h9, zG (by omega)])
end Go.Proofs.YtniknpjeknmpjaaGreatDoor.PlainIr
namespace Go.Proofs.YtniknpjeknmpjaaGreatDoor.Q
open Go.RowKit Go.Shelf Go.Proofs.YtniknpjeknmpjaaGreatDoorW.PrintWords Go.Proofs.YtniknpjeknmpjaaGreatDoorW.PrintLast Go.Proofs.YtniknpjeknmpjaaGreatDoorW.PrintMore
set_option linter.unusedVariables false
def oddReg (regs n : Int) : Bool := decide (n < 0 ∨ regs ≤ n)
end Go.Proofs.YtniknpjeknmpjaaGreatDoor.Q
namespace Go.Proofs.YtniknpjeknmpjaaGreatDoor.PlainOne
open Go Go.RowKit Go.Proofs.YtniknpjeknmpjaaGreatDoorW.PrintWords Go.Proofs.YtniknpjeknmpjaaGreatDoorW.PrintMore Go.Proofs.YtniknpjeknmpjaaGreatDoor.Q Go.Proofs.YtniknpjeknmpjaaGreatDoor.Plain Go.Proofs.YtniknpjeknmpjaaGreatDoor.PlainIr Go.Proofs.YtniknpjeknmpjaaGreatDoor.PlainName
set_option linter.unusedVariables false
set_option linter.unusedSimpArgs false
def hasD (op : Int) : Prop := (1 ≤ op ∧ op ≤ 8) ∨ op = 11
instance (op : Int) : Decidable (hasD op) := by unfold hasD; infer_instance
def bareP (op d a b : Int) (nm : ByteArray) (args : List Int) : Prop :=
 (op = 11 ∨ (nm.toList = ([] : List UInt8) ∧ args.length = 0)) ∧ ((op = 9 ∨ op = 10 ∨ op = 12 ∨ op = 14) → d = 0) ∧ (op = 11 → a = 0) ∧ ((op = 1 ∨ op = 2 ∨ op = 8 ∨ op = 10 ∨ op = 11 ∨ op = 12 ∨ op = 14) → b = 0)
instance (op d a b : Int) (nm : ByteArray) (args : List Int) : Decidable (bareP op d a b nm args) := by unfold bareP; infer_instance
def e5 (op : Int) (args : List Int) : Int := if op = 11 ∧ 4 < args.length then 192 else 0
def e4 (op : Int) (nm : ByteArray) (args : List Int) : Int := if op = 11 ∧ nameOk nm = false then 70 else e5 op args
def e3 (blocks op d a b : Int) (nm : ByteArray) (args : List Int) : Int := if (targets7 op d a b).any (oddReg blocks) = true then 74 else e4 op nm args
def e2 (blocks op d a b : Int) (nm : ByteArray) (args : List Int) : Int := if op = 1 ∧ (a < 0 ∨ 65536 ≤ a) then 81 else e3 blocks op d a b nm args
def e1 (regs blocks op d a b : Int) (nm : ByteArray) (args : List Int) : Int := if (hasD op ∧ oddReg regs d = true) ∨ (uses op a b args).any (oddReg regs) = true then 73 else e2 blocks op d a b nm args
def oneE (regs blocks op d a b : Int) (nm : ByteArray) (args : List Int) (last : Bool) : Int := if (1 ≤ op ∧ op ≤ 14) ∧ lastOp op = last ∧ bareP op d a b nm args then e1 regs blocks op d a b nm args else 72
theorem odd_iff (m n : Int) : oddReg m n = true ↔ n < 0 ∨ m ≤ n := by
 unfold oddReg
 exact decide_eq_true_iff
theorem any_odd {m : Int} {l : List Int} : l.any (oddReg m) = true ↔ ∃ i : Nat, i < l.length ∧ oddReg m (rd l (i : Int)) = true := by
 rw [List.any_eq_true]
 constructor
 ·rintro ⟨x, hx, h⟩
  obtain ⟨i, hi, rfl⟩ := List.mem_iff_getElem.1 hx
  exact ⟨i, hi, by rw [rd_get hi]; exact h⟩
 ·rintro ⟨i, hi, h⟩
  rw [rd_get hi] at h
  exact ⟨_, List.getElem_mem hi, h⟩

theorem refwithin_ev (l : List Int) (most : Int) (hl : l.length ≤ 4611686018427387904) : Ev (fun k => cubbyref07_within.f k l most) (!(l.any (oddReg most))) := by
 show Ev (fun k => cubbyref07_within.l0 k l most ((0 : Nat) : Int)) _
 refine seek (fun k i => cubbyref07_within.l0 k l most (i : Int)) l.length (fun i => oddReg most (rd l (i : Int)) = true) false _ ?_ ?_ ?_ ?_
 ·intro i hi hb
  rw [odd_iff] at hb
  refine Ev.step (f := fun _ => some false) (fun k => ?_) (Ev.now _)
  simp only [cubbyref07_within.l0]
  rw [zC (by omega), zC (by omega)]
  split
  ·rfl
  ·rw [zC (by omega)]
 ·intro i hi hb r' hE
  rw [odd_iff] at hb
  refine Ev.step (fun k => ?_) hE
  simp only [cubbyref07_within.l0]
  rw [zC (by omega), zC (by omega), zD (by omega), zD (by omega), wrap_nat (by omega)]
 ·intro h
  rw [any_odd.2 h]
  rfl
 ·intro h
  have : l.any (oddReg most) = false := by
   rw [← Bool.not_eq_true, any_odd]
   rintro ⟨i, hi, hb⟩
   exact h i hi hb
  rw [this]
  exact Ev.step (f := fun _ => some true) (fun k => by simp only [cubbyref07_within.l0]; rw [zD (by omega)]) (Ev.now _)
theorem refbare_ev (op d a b : Int) (nm : ByteArray) (args : List Int) (h : 1 ≤ op ∧ op ≤ 14) : Ev (fun k => cubbyref07_bare.f k op d a b nm args) (decide (bareP op d a b nm args)) := by
 have h3 : ∀ B, (B = true ↔ op = 10 ∨ op = 12 ∨ op = 14) → (op = 10 ∨ op = 11 ∨ op = 12 ∨ op = 14) → Ev (fun k => cubbyref07_bare.j3 k op B op d a b nm args) (if op = 11 then decide (a = 0 ∧ b = 0) else decide (d = 0 ∧ b = 0)) := by
  intro B hB ho
  refine Ev.step (f := fun _ => some _) (fun k => ?_) (Ev.now _)
  simp only [cubbyref07_bare.j3]
  by_cases c : op = 11
  ·rw [zD (by rw [hB]; omega), zC c, zC c]
   by_cases c1 : a = 0
   ·rw [zC c1]
    simp [c1]
    rfl
   ·rw [zD c1]
    simp [c1]
  ·rw [zC (by rw [hB]; omega), zD c]
   by_cases c1 : d = 0
   ·rw [zC c1]
    simp [c1]
    rfl
   ·rw [zD c1]
    simp [c1]
 have h2 : ∀ B, (B = true ↔ (3 ≤ op ∧ op ≤ 7) ∨ op = 13) → ¬ (op = 1 ∨ op = 2 ∨ op = 8) → Ev (fun k => cubbyref07_bare.j2 k op B op d a b nm args) (if (3 ≤ op ∧ op ≤ 7) ∨ op = 13 then true else if op = 9 then decide (d = 0) else if op = 11 then decide (a = 0 ∧ b = 0) else decide (d = 0 ∧ b = 0)) := by
  intro B hB ho
  by_cases c : (3 ≤ op ∧ op ≤ 7) ∨ op = 13
  ·rw [zC c]
   exact Ev.step (f := fun _ => some true) (fun k => by simp only [cubbyref07_bare.j2]; rw [zC (hB.2 c)]) (Ev.now _)
  ·rw [zD c]
   by_cases c1 : op = 9
   ·rw [zC c1]
    exact Ev.step (f := fun _ => some (d == 0)) (fun k => by simp only [cubbyref07_bare.j2]; rw [zD (by rw [hB]; exact c), zC c1]) (Ev.now _)
   ·rw [zD c1]
    by_cases c2 : op = 10
    ·exact Ev.step (fun k => by simp only [cubbyref07_bare.j2]; rw [zD (by rw [hB]; exact c), zD c1, zC c2]) (h3 (op == 10) (by rw [beq_iff_eq]; omega) (by omega))
    ·by_cases c3 : op = 14
     ·exact Ev.step (fun k => by simp only [cubbyref07_bare.j2]; rw [zD (by rw [hB]; exact c), zD c1, zD c2, zC c3]) (h3 (op == 14) (by rw [beq_iff_eq]; omega) (by omega))
     ·exact Ev.step (fun k => by simp only [cubbyref07_bare.j2]; rw [zD (by rw [hB]; exact c), zD c1, zD c2, zD c3]) (h3 (op == 12) (by rw [beq_iff_eq]; omega) (by omega))
 have h1 : ∀ B, (B = true ↔ op = 1 ∨ op = 2 ∨ op = 8) → Ev (fun k => cubbyref07_bare.j1 k op B op d a b nm args) (if op = 1 ∨ op = 2 ∨ op = 8 then decide (b = 0) else if (3 ≤ op ∧ op ≤ 7) ∨ op = 13 then true else if op = 9 then decide (d = 0) else if op = 11 then decide (a = 0 ∧ b = 0) else decide (d = 0 ∧ b = 0)) := by
  intro B hB
  by_cases c : op = 1 ∨ op = 2 ∨ op = 8
  ·rw [zC c]
   exact Ev.step (f := fun _ => some (b == 0)) (fun k => by simp only [cubbyref07_bare.j1]; rw [zC (hB.2 c)]) (Ev.now _)
  ·rw [zD c]
   have hn : ¬ B = true := by rw [hB]; exact c
   by_cases c3 : op = 3
   ·exact Ev.step (fun k => by simp only [cubbyref07_bare.j1]; rw [zD hn, zC c3]) (h2 (op == 3) (by rw [beq_iff_eq]; omega) c)
   by_cases c4 : op = 4
   ·exact Ev.step (fun k => by simp only [cubbyref07_bare.j1]; rw [zD hn, zD c3, zC c4]) (h2 (op == 4) (by rw [beq_iff_eq]; omega) c)
   by_cases c5 : op = 5
   ·exact Ev.step (fun k => by simp only [cubbyref07_bare.j1]; rw [zD hn, zD c3, zD c4, zC c5]) (h2 (op == 5) (by rw [beq_iff_eq]; omega) c)
   by_cases c6 : op = 6
   ·exact Ev.step (fun k => by simp only [cubbyref07_bare.j1]; rw [zD hn, zD c3, zD c4, zD c5, zC c6]) (h2 (op == 6) (by rw [beq_iff_eq]; omega) c)
   by_cases c7 : op = 7
   ·exact Ev.step (fun k => by simp only [cubbyref07_bare.j1]; rw [zD hn, zD c3, zD c4, zD c5, zD c6, zC c7]) (h2 (op == 7) (by rw [beq_iff_eq]; omega) c)
   ·exact Ev.step (fun k => by simp only [cubbyref07_bare.j1]; rw [zD hn, zD c3, zD c4, zD c5, zD c6, zD c7]) (h2 (op == 13) (by rw [beq_iff_eq]; omega) c)
 have h0 : Ev (fun k => cubbyref07_bare.j0 k false op d a b nm args) (if op = 1 ∨ op = 2 ∨ op = 8 then decide (b = 0) else if (3 ≤ op ∧ op ≤ 7) ∨ op = 13 then true else if op = 9 then decide (d = 0) else if op = 11 then decide (a = 0 ∧ b = 0) else decide (d = 0 ∧ b = 0)) := by
  by_cases c1 : op = 1
  ·exact Ev.step (fun k => by simp only [cubbyref07_bare.j0]; rw [zD Bool.false_ne_true, zC c1]) (h1 (op == 1) (by rw [beq_iff_eq]; omega))
  by_cases c2 : op = 2
  ·exact Ev.step (fun k => by simp only [cubbyref07_bare.j0]; rw [zD Bool.false_ne_true, zD c1, zC c2]) (h1 (op == 2) (by rw [beq_iff_eq]; omega))
  ·exact Ev.step (fun k => by simp only [cubbyref07_bare.j0]; rw [zD Bool.false_ne_true, zD c1, zD c2]) (h1 (op == 8) (by rw [beq_iff_eq]; omega))
 have hsame : (op = 11 ∨ (nm.toList = ([] : List UInt8) ∧ args.length = 0)) → (if op = 1 ∨ op = 2 ∨ op = 8 then decide (b = 0) else if (3 ≤ op ∧ op ≤ 7) ∨ op = 13 then true else if op = 9 then decide (d = 0) else if op = 11 then decide (a = 0 ∧ b = 0) else decide (d = 0 ∧ b = 0)) = decide (bareP op d a b nm args) := by
  intro hb
  unfold bareP
  repeat' split
  all_goals first
   | (apply decide_eq_decide.2; constructor <;> intro hx <;> first | omega | (refine ⟨hb, ?_, ?_, ?_⟩ <;> omega))
   | (symm; apply zF; refine ⟨hb, ?_, ?_, ?_⟩ <;> omega)
 by_cases c : op = 11
 ·rw [← hsame (.inl c)]
  exact Ev.congr (fun k => by unfold cubbyref07_bare.f; rw [zC c]) h0
 ·by_cases c1 : nm.toList = ([] : List UInt8)
  ·refine Ev.congr (fun k => by unfold cubbyref07_bare.f; rw [zD c, zC c1]) ?_
   by_cases c2 : (args.length : Int) > 0
   ·rw [zF c2, zG (by unfold bareP; omega)]
    exact Ev.step (f := fun _ => some false) (fun k => by simp only [cubbyref07_bare.j0]; rw [zC trivial]) (Ev.now _)
   ·rw [zG c2, ← hsame (.inr ⟨c1, by omega⟩)]
    exact h0
  ·refine Ev.congr (fun k => by unfold cubbyref07_bare.f; rw [zD c, zD c1]) ?_
   rw [zG (p := bareP op d a b nm args) (by
    unfold bareP
    rintro ⟨h4 | h4, _⟩
    ·exact c h4
    ·exact c1 h4.1)]
   exact Ev.step (f := fun _ => some false) (fun k => by simp only [cubbyref07_bare.j0]; rw [zC trivial]) (Ev.now _)
theorem uses_short {op a b : Int} {args : List Int} (ha : args.length ≤ 17592186043904) : (uses op a b args).length ≤ 4611686018427387904 := by
 unfold uses
 repeat' split
 all_goals first | omega | simp
theorem targets_short (op d a b : Int) : (targets7 op d a b).length ≤ 4611686018427387904 := by
 unfold targets7
 repeat' split
 all_goals simp
theorem defOf_iff {op d : Int} : (defOf op d = -1 ↔ ¬ hasD op ∨ d = -1) ∧ (hasD op → defOf op d = d) := by
 unfold defOf hasD
 constructor
 ·split <;> omega
 ·intro h
  rw [zC h]
section
variable (op d a b : Int) (nm : ByteArray) (args : List Int)
theorem r4 (B : Bool) : Ev (fun k => cubbyref07_One.j4 k B op d a b nm args) (if B = true then 70 else e5 op args) := by
 refine Ev.step (f := fun _ => some _) (fun k => ?_) (Ev.now _)
 simp only [cubbyref07_One.j4]
 unfold e5
 repeat' split
 all_goals first | rfl | omega
theorem r3 (blocks : Int) (B : Bool) : Ev (fun k => cubbyref07_One.j3 k blocks B op d a b nm args) (if B = true then 81 else e3 blocks op d a b nm args) := by
 cases B
 ·rw [zD Bool.false_ne_true]
  refine Ev.step (fun k => by simp only [cubbyref07_One.j3]; rw [zD Bool.false_ne_true, reftargets_eq, zJ]) (Ev.bind (refwithin_ev (targets7 op d a b) blocks (targets_short op d a b)) ?_)
  unfold e3
  by_cases c : (targets7 op d a b).any (oddReg blocks) = true
  ·rw [zC c, c]
   exact Ev.congr (f := fun _ => some 74) (fun k => by rw [zD (by decide)]) (Ev.now _)
  ·rw [zD c, (Bool.not_eq_true _).mp c]
   unfold e4
   by_cases c1 : op = 11
   ·refine Ev.congr (fun k => by rw [zC (by decide), zC c1]) (Ev.bind (refname_ev nm) ?_)
    have := r4 op d a b nm args (!nameOk nm)
    cases hn : nameOk nm
    ·rw [hn] at this
     rw [zC ⟨c1, rfl⟩]
     exact this
    ·rw [hn] at this
     rw [zD (by simp)]
     exact this
   ·rw [zD (fun h => c1 h.1)]
    exact Ev.congr (fun k => by rw [zC (by decide), zD c1]) (r4 op d a b nm args false)
 ·exact Ev.step (f := fun _ => some 81) (fun k => by simp only [cubbyref07_One.j3]; rw [zC trivial]) (Ev.now _)
theorem r2 (blocks : Int) (B : Bool) : Ev (fun k => cubbyref07_One.j2 k blocks B op d a b nm args) (if B = true then 73 else e2 blocks op d a b nm args) := by
 cases B
 ·rw [zD Bool.false_ne_true]
  unfold e2
  by_cases c : op = 1
  ·by_cases c1 : a < 0
   ·rw [zC ⟨c, .inl c1⟩]
    exact Ev.step (fun k => by simp only [cubbyref07_One.j2]; rw [zD Bool.false_ne_true, zC c, zC c1]) (r3 op d a b nm args blocks true)
   ·refine Ev.step (fun k => by simp only [cubbyref07_One.j2]; rw [zD Bool.false_ne_true, zC c, zD c1]) ?_
    have := r3 op d a b nm args blocks (decide (a ≥ 65536))
    by_cases c2 : a ≥ 65536
    ·rw [zC ⟨c, .inr c2⟩]
     rw [zF c2] at this ⊢
     exact this
    ·rw [zD (by omega)]
     rw [zG c2] at this ⊢
     exact this
  ·rw [zD (by omega)]
   exact Ev.step (fun k => by simp only [cubbyref07_One.j2]; rw [zD Bool.false_ne_true, zD c]) (r3 op d a b nm args blocks false)
 ·exact Ev.step (f := fun _ => some 73) (fun k => by simp only [cubbyref07_One.j2]; rw [zC trivial]) (Ev.now _)
theorem r1 (h : 1 ≤ op ∧ op ≤ 14) (blocks : Int) (B : Bool) : Ev (fun k => cubbyref07_One.j1 k blocks B op d a b nm args) (if B = true ∨ (hasD op ∧ d = -1) then 73 else e2 blocks op d a b nm args) := by
 cases B
 ·have hd := (defOf_iff (op := op) (d := d)).1
  by_cases c : defOf op d = -1
  ·by_cases c9 : op = 9
   ·rw [zD (by unfold hasD; rintro (x | x) <;> first | exact absurd x (by decide) | omega)]
    exact Ev.step (fun k => by simp only [cubbyref07_One.j1]; rw [zD Bool.false_ne_true, refdef_eq, zJ, zC c, zC c9]) (r2 op d a b nm args blocks false)
   ·by_cases c10 : op = 10
    ·rw [zD (by unfold hasD; rintro (x | x) <;> first | exact absurd x (by decide) | omega)]
     exact Ev.step (fun k => by simp only [cubbyref07_One.j1]; rw [zD Bool.false_ne_true, refdef_eq, zJ, zC c, zD c9, zC c10]) (r2 op d a b nm args blocks false)
    ·refine Ev.step (fun k => by simp only [cubbyref07_One.j1]; rw [zD Bool.false_ne_true, refdef_eq, zJ, zC c, zD c9, zD c10, reflast_eq, zJ]) ?_
     have := r2 op d a b nm args blocks (!lastOp op)
     by_cases cl : 12 ≤ op ∧ op ≤ 14
     ·rw [zD (by unfold hasD; rintro (x | x) <;> first | exact absurd x (by decide) | omega)]
      rw [show lastOp op = true from zF cl] at this ⊢
      exact this
     ·rw [zC (.inr ⟨by unfold hasD; omega, by unfold hasD at hd; omega⟩)]
      rw [show lastOp op = false from zG cl] at this ⊢
      exact this
  ·rw [zD (by
    rintro (x | x)
    ·exact absurd x (by decide)
    ·exact c (hd.2 (.inr x.2)))]
   exact Ev.step (fun k => by simp only [cubbyref07_One.j1]; rw [zD Bool.false_ne_true, refdef_eq, zJ, zD c]) (r2 op d a b nm args blocks false)
 ·rw [zC (.inl rfl)]
  exact Ev.step (f := fun _ => some 73) (fun k => by simp only [cubbyref07_One.j1]; rw [zC trivial]) (Ev.now _)
theorem r0 (h : 1 ≤ op ∧ op ≤ 14) (ha : args.length ≤ 17592186043904) (regs blocks : Int) (B : Bool) : Ev (fun k => cubbyref07_One.j0 k regs blocks B op d a b nm args) (if B = true then 72 else e1 regs blocks op d a b nm args) := by
 cases B
 ·rw [zD Bool.false_ne_true]
  have hd := (defOf_iff (op := op) (d := d))
  have hj : Ev (fun k => (cubbyref07_Uses.f k op d a b nm args).bind fun t273 => (cubbyref07_within.f k t273 regs).bind fun t276 => cubbyref07_One.j1 k blocks (!t276) op d a b nm args) (if (uses op a b args).any (oddReg regs) = true ∨ (hasD op ∧ d = -1) then 73 else e2 blocks op d a b nm args) := by
   refine Ev.bind (refuses_ev op d a b nm args ha) (Ev.bind (refwithin_ev _ regs (uses_short ha)) ?_)
   have := r1 op d a b nm args h blocks ((uses op a b args).any (oddReg regs))
   rw [Bool.not_not]
   exact this
  by_cases c : defOf op d = -1
  ·refine Ev.step (fun k => by simp only [cubbyref07_One.j0]; rw [zD Bool.false_ne_true, refdef_eq, zJ, zC c]) ?_
   have e : e1 regs blocks op d a b nm args = (if (uses op a b args).any (oddReg regs) = true ∨ (hasD op ∧ d = -1) then 73 else e2 blocks op d a b nm args) := by
    unfold e1
    have h1 : ((hasD op ∧ oddReg regs d = true) ∨ (uses op a b args).any (oddReg regs) = true) ↔ ((uses op a b args).any (oddReg regs) = true ∨ (hasD op ∧ d = -1)) := by
     rw [odd_iff]
     have h2 := hd.1.1 c
     constructor
     ·rintro (⟨x, _⟩ | x)
      ·exact .inr ⟨x, by rcases h2 with h2 | h2; exact absurd x h2; exact h2⟩
      ·exact .inl x
     ·rintro (x | ⟨x, y⟩)
      ·exact .inr x
      ·exact .inl ⟨x, .inl (by omega)⟩
    simp only [h1]
   rw [e]
   exact hj
  ·have hh : hasD op := Decidable.byContradiction fun x => c (hd.1.2 (.inl x))
   have hdd := hd.2 hh
   have hne : d ≠ -1 := fun x => c (hd.1.2 (.inr x))
   by_cases c1 : d < 0
   ·have e : e1 regs blocks op d a b nm args = 73 := by
     unfold e1
     rw [zC (.inl ⟨hh, (odd_iff _ _).2 (.inl c1)⟩)]
    rw [e]
    have := r1 op d a b nm args h blocks true
    rw [zC (.inl rfl)] at this
    exact Ev.step (fun k => by simp only [cubbyref07_One.j0]; rw [zD Bool.false_ne_true, refdef_eq, zJ, zD c, zJ, zC (by omega)]) this
   ·by_cases c2 : d ≥ regs
    ·have e : e1 regs blocks op d a b nm args = 73 := by
      unfold e1
      rw [zC (.inl ⟨hh, (odd_iff _ _).2 (.inr c2)⟩)]
     rw [e]
     have := r1 op d a b nm args h blocks true
     rw [zC (.inl rfl)] at this
     exact Ev.step (fun k => by simp only [cubbyref07_One.j0]; rw [zD Bool.false_ne_true, refdef_eq, zJ, zD c, zJ, zD (by omega), zJ, zC (by omega)]) this
    ·have e : e1 regs blocks op d a b nm args = (if (uses op a b args).any (oddReg regs) = true ∨ (hasD op ∧ d = -1) then 73 else e2 blocks op d a b nm args) := by
      unfold e1
      have h1 : ((hasD op ∧ oddReg regs d = true) ∨ (uses op a b args).any (oddReg regs) = true) ↔ ((uses op a b args).any (oddReg regs) = true ∨ (hasD op ∧ d = -1)) := by
       rw [odd_iff]
       constructor
       ·rintro (⟨_, x⟩ | x)
        ·omega
        ·exact .inl x
       ·rintro (x | ⟨_, y⟩)
        ·exact .inr x
        ·exact absurd y hne
      simp only [h1]
     rw [e]
     exact Ev.step (fun k => by simp only [cubbyref07_One.j0]; rw [zD Bool.false_ne_true, refdef_eq, zJ, zD c, zJ, zD (by omega), zJ, zD (by omega)]) hj
 ·exact Ev.step (f := fun _ => some 72) (fun k => by simp only [cubbyref07_One.j0]; rw [zC trivial]) (Ev.now _)
theorem refone_ev (ha : args.length ≤ 17592186043904) (regs blocks : Int) (last : Bool) : Ev (fun k => cubbyref07_One.f k op d a b nm args regs blocks last) (oneE regs blocks op d a b nm args last) := by
 unfold oneE
 have hyes : Ev (fun k => cubbyref07_One.j0 k regs blocks true op d a b nm args) 72 := Ev.step (f := fun _ => some 72) (fun k => by simp only [cubbyref07_One.j0]; rw [zC trivial]) (Ev.now _)
 by_cases c0 : op < 1
 ·rw [zD (by omega)]
  exact Ev.congr (fun k => by unfold cubbyref07_One.f; rw [zC c0]) hyes
 by_cases c1 : op > 14
 ·rw [zD (by omega)]
  exact Ev.congr (fun k => by unfold cubbyref07_One.f; rw [zD c0, zC c1]) hyes
 have h : 1 ≤ op ∧ op ≤ 14 := by omega
 by_cases c2 : lastOp op = last
 ·refine Ev.congr (fun k => by unfold cubbyref07_One.f; rw [zD c0, zD c1, reflast_eq, zJ, zD (by simp [c2])]) (Ev.bind (refbare_ev op d a b nm args h) ?_)
  have := r0 op d a b nm args h ha regs blocks (!decide (bareP op d a b nm args))
  by_cases c3 : bareP op d a b nm args
  ·rw [zC ⟨h, c2, c3⟩]
   rw [zF c3] at this ⊢
   exact this
  ·rw [zD (fun x => c3 x.2.2)]
   rw [zG c3] at this ⊢
   exact this
 ·rw [zD (fun x => c2 x.2.1)]
  exact Ev.congr (fun k => by unfold cubbyref07_One.f; rw [zD c0, zD c1, reflast_eq, zJ, zC (by simpa using c2)]) hyes
end
end Go.Proofs.YtniknpjeknmpjaaGreatDoor.PlainOne
namespace Go.Proofs.YtniknpjeknmpjaaGreatDoor.PlainHeavy
open Go Go.RowKit Go.Proofs.YtniknpjeknmpjaaGreatDoorW.PrintWords Go.Proofs.YtniknpjeknmpjaaGreatDoorW.PrintMore Go.Proofs.YtniknpjeknmpjaaGreatDoor.Q Go.Proofs.YtniknpjeknmpjaaGreatDoor.Plain
set_option linter.unusedVariables false
set_option linter.unusedSimpArgs false
theorem rdL_get {l : List (List SIns)} {j : Nat} (h : j < l.length) : rd_LIns l (j : Int) = l[j] := by
 show l.getD j [] = _
 rw [List.getD_eq_getElem?_getD, List.getElem?_eq_getElem h]
 rfl
theorem rdT_get {l : List SIns} {j : Nat} (h : j < l.length) : rd_TIns l (j : Int) = l[j] := by
 show l.getD j zIns = _
 rw [List.getD_eq_getElem?_getD, List.getElem?_eq_getElem h]
 rfl
structure FairB (x : List (List SIns)) : Prop where
 len : x.length ≤ 1000000000000000
 row : ∀ b ∈ x, b.length ≤ 1000000000000000
 ins : ∀ b ∈ x, ∀ y ∈ b, y.f5.length ≤ 17592186043904
end Go.Proofs.YtniknpjeknmpjaaGreatDoor.PlainHeavy
namespace Go.Proofs.YtniknpjeknmpjaaGreatDoor.PlainCheck
open Go Go.RowKit Go.Proofs.YtniknpjeknmpjaaGreatDoorW.PrintWords Go.Proofs.YtniknpjeknmpjaaGreatDoorW.PrintMore Go.Proofs.YtniknpjeknmpjaaGreatDoor.Q Go.Proofs.YtniknpjeknmpjaaGreatDoor.Plain Go.Proofs.YtniknpjeknmpjaaGreatDoor.PlainName Go.Proofs.YtniknpjeknmpjaaGreatDoor.PlainOne Go.Proofs.YtniknpjeknmpjaaGreatDoor.PlainHeavy
set_option linter.unusedVariables false
set_option linter.unusedSimpArgs false
def insE (regs nb : Int) (x : SIns) (last : Bool) : Int := oneE regs nb x.f0 x.f1 x.f2 x.f3 x.f4 x.f5 last
def rowE (regs nb : Int) : List SIns → Int
 | [] => 0
 | x :: xs => if insE regs nb x xs.isEmpty = 0 then rowE regs nb xs else insE regs nb x xs.isEmpty
def allE (regs nb : Int) : List (List SIns) → Int
 | [] => 0
 | b :: bs => if rowE regs nb b = 0 then allE regs nb bs else rowE regs nb b
def total : List (List SIns) → Nat
 | [] => 0
 | b :: bs => b.length + total bs
def fits (left : Int) (l : List (List SIns)) : Bool := decide ((∀ b ∈ l, b.length ≠ 0) ∧ (total l : Int) ≤ left)
def shapeP (params regs : Int) (bs : List (List SIns)) : Prop := 0 ≤ params ∧ params ≤ 4 ∧ params ≤ regs ∧ regs ≤ 64 ∧ 1 ≤ bs.length ∧ bs.length ≤ 32 ∧ fits 200 bs = true
instance (params regs : Int) (bs : List (List SIns)) : Decidable (shapeP params regs bs) := by unfold shapeP; infer_instance
def checkE (nm : ByteArray) (params regs : Int) (bs : List (List SIns)) : Int := if nameOk nm = true then (if shapeP params regs bs then allE regs (bs.length : Int) bs else 71) else 70
theorem fits_cons (left : Int) (b : List SIns) (bs : List (List SIns)) : fits left (b :: bs) = (decide (b.length ≠ 0) && fits (left - b.length) bs) := by
 unfold fits
 rw [← Bool.decide_and]
 apply decide_eq_decide.2
 simp only [List.mem_cons, forall_eq_or_imp, total]
 constructor
 ·rintro ⟨⟨h1, h2⟩, h3⟩
  exact ⟨h1, h2, by omega⟩
 ·rintro ⟨h1, h2, h3⟩
  exact ⟨⟨h1, h2⟩, by omega⟩
theorem fits_neg {left : Int} {bs : List (List SIns)} (h : left < 0) : fits left bs = false := by
 unfold fits
 apply zG
 rintro ⟨_, h2⟩
 omega
theorem last_eq' {b : List SIns} {j : Nat} (hj : j < b.length) (hl : b.length ≤ 4611686018427387904) : ((j : Int) == wrap64 ((b.length : Int) - 1)) = (b.drop (j + 1)).isEmpty := by
 rw [wrap_pred (by omega) hl]
 by_cases c : j + 1 = b.length
 ·rw [List.drop_eq_nil_of_le (by omega)]
  simp
  omega
 ·have : b.drop (j + 1) ≠ [] := fun h => by
   have := congrArg List.length h
   rw [List.length_drop] at this
   simp at this
   omega
  rw [List.isEmpty_eq_false_iff.2 this]
  simp
  omega

section
variable (pn : ByteArray) (pp rg : Int) (bs : List (List SIns)) (hF : FairB bs)
include hF
theorem refshape_loop : ∀ (d i : Nat), bs.length - i = d → i ≤ bs.length → ∀ s : Int, 0 ≤ s → s ≤ 1000 * i → Ev (fun k => cubbyref07_Shape.l0 k bs s (i : Int)) (fits (200 - s) (bs.drop i)) := by
 have hlen := hF.len
 intro d
 induction d with
 | zero =>
  intro i hd hi s h0 hs
  rw [List.drop_eq_nil_of_le (by omega)]
  refine Ev.step (f := fun _ => some _) (fun k => by simp only [cubbyref07_Shape.l0]; rw [zD (by omega)]) ?_
  have : fits (200 - s) [] = decide (s ≤ 200) := by
   unfold fits total
   apply decide_eq_decide.2
   constructor
   ·rintro ⟨_, h⟩
    omega
   ·intro h
    exact ⟨by simp, by omega⟩
  rw [this]
  exact Ev.now _
 | succ d ih =>
  intro i hd hi s h0 hs
  have hlt : i < bs.length := by omega
  have hr := hF.row _ (List.getElem_mem hlt)
  rw [drop_cons hlt, fits_cons]
  by_cases c : ((bs[i]).length : Int) = 0
  ·rw [zG (by omega), Bool.false_and]
   exact Ev.step (f := fun _ => some false) (fun k => by simp only [cubbyref07_Shape.l0]; rw [zC (by omega), zC (by omega), rdL_get hlt, zC c]) (Ev.now _)
  ·by_cases c1 : ((bs[i]).length : Int) > 200
   ·rw [fits_neg (by omega), Bool.and_false]
    exact Ev.step (f := fun _ => some false) (fun k => by simp only [cubbyref07_Shape.l0]; rw [zC (by omega), zC (by omega), rdL_get hlt, zD c, zC c1]) (Ev.now _)
   ·rw [zF (by omega), Bool.true_and]
    have := ih (i + 1) (by omega) (by omega) (s + (bs[i]).length) (by omega) (by omega)
    rw [show 200 - s - ((bs[i]).length : Int) = 200 - (s + (bs[i]).length) by omega]
    refine Ev.step (fun k => ?_) this
    simp only [cubbyref07_Shape.l0]
    rw [zC (by omega), zC (by omega), rdL_get hlt, zD c, zD c1, wrap_nat (by omega), wrap_id (by omega) (by omega)]
theorem refshape_ev : Ev (fun k => cubbyref07_Shape.f k pp rg bs) (decide (shapeP pp rg bs)) := by
 have hyes : ¬ shapeP pp rg bs → Ev (fun k => cubbyref07_Shape.j0 k bs true) (decide (shapeP pp rg bs)) := fun h => by
  rw [zG h]
  exact Ev.step (f := fun _ => some false) (fun k => by simp only [cubbyref07_Shape.j0]; rw [zC trivial]) (Ev.now _)
 by_cases c0 : pp < 0
 ·exact Ev.congr (fun k => by unfold cubbyref07_Shape.f; rw [zC c0]) (hyes (fun h => by have := h.1; omega))
 by_cases c1 : pp > 4
 ·exact Ev.congr (fun k => by unfold cubbyref07_Shape.f; rw [zD c0, zC c1]) (hyes (fun h => by have := h.2.1; omega))
 by_cases c2 : rg < pp
 ·exact Ev.congr (fun k => by unfold cubbyref07_Shape.f; rw [zD c0, zD c1, zC c2]) (hyes (fun h => by have := h.2.2.1; omega))
 by_cases c3 : rg > 64
 ·exact Ev.congr (fun k => by unfold cubbyref07_Shape.f; rw [zD c0, zD c1, zD c2, zC c3]) (hyes (fun h => by have := h.2.2.2.1; omega))
 by_cases c4 : (bs.length : Int) < 1
 ·exact Ev.congr (fun k => by unfold cubbyref07_Shape.f; rw [zD c0, zD c1, zD c2, zD c3, zC c4]) (hyes (fun h => by have := h.2.2.2.2.1; omega))
 refine Ev.congr (fun k => by unfold cubbyref07_Shape.f; rw [zD c0, zD c1, zD c2, zD c3, zD c4]) ?_
 by_cases c5 : (bs.length : Int) > 32
 ·rw [zF c5]
  exact hyes (fun h => by have := h.2.2.2.2.2.1; omega)
 ·rw [zG c5]
  have := refshape_loop bs hF bs.length 0 (by omega) (by omega) 0 (by omega) (by omega)
  have e : fits (200 - 0) (bs.drop 0) = decide (shapeP pp rg bs) := by
   rw [List.drop_zero]
   unfold shapeP
   cases hf : fits (200 - 0) bs
   ·symm
    apply zG
    rintro ⟨_, _, _, _, _, _, h⟩
    rw [show (200 : Int) - 0 = 200 by omega, h] at hf
    exact absurd hf (by simp)
   ·symm
    apply zF
    exact ⟨by omega, by omega, by omega, by omega, by omega, by omega, hf⟩
  rw [← e]
  refine Ev.step (fun k => by simp only [cubbyref07_Shape.j0]; rw [zD Bool.false_ne_true]; rfl) this
theorem refcheck_row (i : Nat) (hi : i < bs.length) (R : Int) (h : Ev (fun k => cubbyref07_Check.l0 k ((i + 1 : Nat) : Int) pn pp rg bs) R) : ∀ (d j : Nat), bs[i].length - j = d → j ≤ bs[i].length → Ev (fun k => cubbyref07_Check.l1 k (i : Int) (j : Int) pn pp rg bs) (if rowE rg (bs.length : Int) (bs[i].drop j) = 0 then R else rowE rg (bs.length : Int) (bs[i].drop j)) := by
 have hlen := hF.len
 have hr := hF.row _ (List.getElem_mem hi)
 have hg := rdL_get hi
 intro d
 induction d with
 | zero =>
  intro j hd hj
  rw [List.drop_eq_nil_of_le (by omega)]
  unfold rowE
  rw [zC rfl]
  exact Ev.step (fun k => by simp only [cubbyref07_Check.l1]; rw [zC (by omega), zC (by omega), hg, zD (by omega), wrap_nat (by omega)]) h
 | succ d ih =>
  intro j hd hj
  have hlt : j < bs[i].length := by omega
  have hx := hF.ins _ (List.getElem_mem hi) _ (List.getElem_mem hlt)
  rw [drop_cons hlt]
  unfold rowE
  have h1 := refone_ev bs[i][j].f0 bs[i][j].f1 bs[i][j].f2 bs[i][j].f3 bs[i][j].f4 bs[i][j].f5 (by omega) rg (bs.length : Int) (bs[i].drop (j + 1)).isEmpty
  refine Ev.step (fun k => by simp only [cubbyref07_Check.l1]; rw [zC (by omega), zC (by omega), hg, zC (by omega), zC (by omega), rdT_get hlt, last_eq' hlt (by omega)]) (Ev.bind h1 ?_)
  show Ev (fun n => if insE rg (bs.length : Int) bs[i][j] (bs[i].drop (j + 1)).isEmpty = 0 then _ else some (insE rg (bs.length : Int) bs[i][j] (bs[i].drop (j + 1)).isEmpty)) _
  by_cases c : insE rg (bs.length : Int) bs[i][j] (bs[i].drop (j + 1)).isEmpty = 0
  ·rw [zC c]
   exact Ev.congr (fun k => by rw [zC c, wrap_nat (by omega)]) (ih (j + 1) (by omega) (by omega))
  ·rw [zD c, zD c]
   exact Ev.congr (f := fun _ => some _) (fun k => by rw [zD c]) (Ev.now _)
theorem refcheck_all : ∀ (d i : Nat), bs.length - i = d → i ≤ bs.length → Ev (fun k => cubbyref07_Check.l0 k (i : Int) pn pp rg bs) (allE rg (bs.length : Int) (bs.drop i)) := by
 intro d
 induction d with
 | zero =>
  intro i hd hi
  rw [List.drop_eq_nil_of_le (by omega)]
  exact Ev.step (f := fun _ => some 0) (fun k => by simp only [cubbyref07_Check.l0]; rw [zD (by omega)]) (Ev.now _)
 | succ d ih =>
  intro i hd hi
  have hlt : i < bs.length := by omega
  rw [drop_cons hlt]
  unfold allE
  refine Ev.step (fun k => by simp only [cubbyref07_Check.l0]; rw [zC (by omega)]) ?_
  have := refcheck_row pn pp rg bs hF i hlt _ (ih (i + 1) (by omega) (by omega)) bs[i].length 0 (by omega) (by omega)
  rw [List.drop_zero] at this
  exact this
theorem refcheck_ev : Ev (fun k => cubbyref07_Check.f k pn pp rg bs) (checkE pn pp rg bs) := by
 unfold checkE
 refine Ev.bind (refname_ev pn) ?_
 cases nameOk pn
 ·exact Ev.congr (f := fun _ => some 70) (fun k => by rw [zD Bool.false_ne_true]) (Ev.now _)
 ·refine Ev.congr (fun k => by rw [zC rfl]) (Ev.bind (refshape_ev pp rg bs hF) ?_)
  rw [zC rfl]
  by_cases c : shapeP pp rg bs
  ·rw [zC c, zF c]
   have := refcheck_all pn pp rg bs hF bs.length 0 (by omega) (by omega)
   exact Ev.congr (fun k => by rw [zC rfl]; rfl) this
  ·rw [zD c, zG c]
   exact Ev.congr (f := fun _ => some 71) (fun k => by rw [zD Bool.false_ne_true]) (Ev.now _)
end
end Go.Proofs.YtniknpjeknmpjaaGreatDoor.PlainCheck
namespace Go.Proofs.YtniknpjeknmpjaaGreatDoor.PlainText
open Go Go.RowKit Go.Proofs.YtniknpjeknmpjaaGreatDoorW.PrintWords Go.Proofs.YtniknpjeknmpjaaGreatDoorW.PrintMore Go.Proofs.YtniknpjeknmpjaaGreatDoor.Q Go.Proofs.YtniknpjeknmpjaaGreatDoor.Plain Go.Proofs.YtniknpjeknmpjaaGreatDoor.PlainNum Go.Proofs.YtniknpjeknmpjaaGreatDoor.PlainName
set_option linter.unusedVariables false
set_option linter.unusedSimpArgs false
theorem good_of {m n : Int} (hm : m ≤ 64) (h : ¬ oddReg m n = true) : good n = true := by
 unfold oddReg at h
 rw [decide_eq_true_eq] at h
 exact zF (by omega)
theorem any_good {m : Int} {l : List Int} (hm : m ≤ 64) (h : ¬ l.any (oddReg m) = true) : ∀ n ∈ l, good n = true := fun n hn => good_of hm (fun he => h (List.any_eq_true.2 ⟨n, hn, he⟩))
theorem parts_from (x : SIns) (fs : List UInt8) (h1 : (68 : UInt8) ∈ fs → good x.f1 = true) (h2 : (65 : UInt8) ∈ fs → good x.f2 = true) (h3 : (66 : UInt8) ∈ fs → good x.f3 = true) (h4 : (78 : UInt8) ∈ fs → nameOk x.f4 = true) (h5 : (76 : UInt8) ∈ fs → ∀ n ∈ x.f5, good n = true) : ∀ p ∈ partsOf x fs, PartGood p := by
 intro p hp
 obtain ⟨c, hc, hp⟩ := List.mem_flatMap.1 hp
 unfold fieldParts at hp
 split at hp
 ·next e => rw [List.mem_singleton.1 hp]; exact h1 (e ▸ hc)
 split at hp
 ·next e => rw [List.mem_singleton.1 hp]; exact h2 (e ▸ hc)
 split at hp
 ·next e => rw [List.mem_singleton.1 hp]; exact h3 (e ▸ hc)
 split at hp
 ·next e => rw [List.mem_singleton.1 hp]; exact h4 (e ▸ hc)
 split at hp
 ·next e =>
  obtain ⟨n, hn, rfl⟩ := List.mem_map.1 hp
  exact h5 (e ▸ hc) n hn
 ·cases hp
theorem one_told {regs nb : Int} (hr : regs ≤ 64) (hnb : nb ≤ 64) {x : SIns} {last : Bool} (h : PlainCheck.insE regs nb x last = 0) : Told false x 9000 ∧ normI false x = x := by
 obtain ⟨op, d, a, b, nm, args⟩ := x
 unfold PlainCheck.insE at h
 dsimp only at h
 unfold PlainOne.oneE at h
 by_cases hc : (1 ≤ op ∧ op ≤ 14) ∧ PlainIr.lastOp op = last ∧ PlainOne.bareP op d a b nm args
 case neg => rw [zD hc] at h; exact absurd h (by decide)
 rw [zC hc] at h
 obtain ⟨hop, -, hb1, hb2, hb3, hb4⟩ := hc
 unfold PlainOne.e1 at h
 by_cases c1 : (PlainOne.hasD op ∧ oddReg regs d = true) ∨ (PlainIr.uses op a b args).any (oddReg regs) = true
 ·rw [zC c1] at h; exact absurd h (by decide)
 rw [zD c1] at h
 unfold PlainOne.e2 at h
 by_cases c2 : op = 1 ∧ (a < 0 ∨ 65536 ≤ a)
 ·rw [zC c2] at h; exact absurd h (by decide)
 rw [zD c2] at h
 unfold PlainOne.e3 at h
 by_cases c3 : (PlainIr.targets7 op d a b).any (oddReg nb) = true
 ·rw [zC c3] at h; exact absurd h (by decide)
 rw [zD c3] at h
 unfold PlainOne.e4 at h
 by_cases c4 : op = 11 ∧ nameOk nm = false
 ·rw [zC c4] at h; exact absurd h (by decide)
 rw [zD c4] at h
 unfold PlainOne.e5 at h
 by_cases c5 : op = 11 ∧ 4 < args.length
 ·rw [zC c5] at h; exact absurd h (by decide)
 have hD : PlainOne.hasD op → good d = true := fun hd => good_of hr (fun e => c1 (.inl ⟨hd, e⟩))
 have hU := any_good hr (fun e => c1 (.inr e))
 have hT := any_good hnb c3
 have hA : op = 1 → good a = true := fun e => zF (by omega)
 have hN : op = 11 → nameOk nm = true := fun e => by
  cases hk : nameOk nm with
  | true => rfl
  | false => exact absurd ⟨e, hk⟩ c4
 have hL : args.length ≤ 4 := by
  rcases hb1 with e | ⟨_, e⟩
  ·exact Nat.le_of_not_lt (fun e2 => c5 ⟨e, e2⟩)
  ·omega
 have hnm : op ≠ 11 → nm = ⟨#[]⟩ ∧ args = [] := fun e => by
  rcases hb1 with e2 | ⟨e1, e2⟩
  ·exact absurd e2 e
  ·exact ⟨toList_inj.1 (e1.trans (by rw [toList_data])), List.eq_nil_of_length_eq_zero e2⟩
 clear h c1 c2 c3 c4 c5
 rcases PlainIr.op_cases hop with rfl | rfl | rfl | rfl | rfl | rfl | rfl | rfl | rfl | rfl | rfl | rfl | rfl | rfl
 all_goals
  refine ⟨⟨⟨_, _, rfl, parts_from _ _ ?_ ?_ ?_ ?_ ?_⟩, by show args.length ≤ 9000; omega⟩, ?_⟩
  ·first
    | exact fun h => absurd h (by decide)
    | exact fun _ => hD (by unfold PlainOne.hasD; omega)
    | (intro _; apply hT; simp [PlainIr.targets7]; done)
  ·first
    | exact fun h => absurd h (by decide)
    | exact fun _ => hA rfl
    | (intro _; apply hU; simp [PlainIr.uses]; done)
    | (intro _; apply hT; simp [PlainIr.targets7]; done)
  ·first
    | exact fun h => absurd h (by decide)
    | (intro _; apply hU; simp [PlainIr.uses]; done)
    | (intro _; apply hT; simp [PlainIr.targets7]; done)
  ·first
    | exact fun h => absurd h (by decide)
    | exact fun _ => hN rfl
  ·first
    | exact fun h => absurd h (by decide)
    | exact fun _ n hn => hU n (by simpa [PlainIr.uses] using hn)
  ·first
    | (have hz1 := hnm (by decide)
       obtain ⟨rfl, rfl⟩ := hz1
       first
        | rfl
        | (have hz4 : b = 0 := hb4 (by omega)
           subst hz4
           first
            | rfl
            | (have hz2 : d = 0 := hb2 (by omega)
               subst hz2
               rfl))
        | (have hz2 : d = 0 := hb2 (by omega)
           subst hz2
           rfl))
    | (have hz4 : b = 0 := hb4 (by omega)
       subst hz4
       have hz3 : a = 0 := hb3 (by omega)
       subst hz3
       rfl)
theorem row_told {regs nb : Int} (hr : regs ≤ 64) (hnb : nb ≤ 64) : ∀ (xs : List SIns), PlainCheck.rowE regs nb xs = 0 → ∀ x ∈ xs, Told false x 9000 ∧ normI false x = x
 | [], _, x, hx => by cases hx
 | y :: xs, h, x, hx => by
  unfold PlainCheck.rowE at h
  by_cases h0 : PlainCheck.insE regs nb y xs.isEmpty = 0
  ·rw [zC h0] at h
   rcases List.mem_cons.1 hx with rfl | hx
   ·exact one_told hr hnb h0
   ·exact row_told hr hnb xs h x hx
  ·rw [zD h0] at h; exact absurd h h0
theorem all_told {regs nb : Int} (hr : regs ≤ 64) (hnb : nb ≤ 64) : ∀ (l : List (List SIns)), PlainCheck.allE regs nb l = 0 → ∀ xs ∈ l, ∀ x ∈ xs, Told false x 9000 ∧ normI false x = x
 | [], _, xs, hx => by cases hx
 | ys :: l, h, xs, hx => by
  unfold PlainCheck.allE at h
  by_cases h0 : PlainCheck.rowE regs nb ys = 0
  ·rw [zC h0] at h
   rcases List.mem_cons.1 hx with rfl | hx
   ·exact row_told hr hnb _ h0
   ·exact all_told hr hnb l h xs hx
  ·rw [zD h0] at h; exact absurd h h0
theorem inss_told {code : Bool} {B : Nat} : ∀ (xs : List SIns) (s : List UInt8), (∀ x ∈ xs, Told code x B) → (xs.foldl (insText code) (s, 0)).2 = 0
 | [], _, _ => rfl
 | x :: xs, s, h => by
  obtain ⟨wd, fs, -, e⟩ := told_text (h x List.mem_cons_self) s
  rw [List.foldl_cons, e]
  exact inss_told xs _ (fun y hy => h y (List.mem_cons_of_mem _ hy))
theorem blks_told {code : Bool} {B : Nat} : ∀ (l : List (List SIns)) (s : List UInt8), (∀ xs ∈ l, ∀ x ∈ xs, Told code x B) → (blksText code (s, 0) l).2 = 0
 | [], _, _ => rfl
 | xs :: l, s, h => by
  have e1 : blksText code (s, 0) (xs :: l) = blksText code (blkText code (s, 0) xs) l := rfl
  have h0 : (blkText code (s, 0) xs).2 = 0 := inss_told xs (s ++ [98, 108, 111, 99, 107, 10]) (h xs List.mem_cons_self)
  have e0 : blkText code (s, 0) xs = ((blkText code (s, 0) xs).1, 0) := Prod.ext rfl h0
  rw [e1, e0]
  exact blks_told l _ (fun y hy => h y (List.mem_cons_of_mem _ hy))
theorem norm_same {code : Bool} {l : List (List SIns)} (h : ∀ xs ∈ l, ∀ x ∈ xs, normI code x = x) : l.map (fun xs => xs.map (normI code)) = l := by
 have : ∀ xs ∈ l, xs.map (normI code) = xs := fun xs hx => by
  have := List.map_congr_left (f := normI code) (g := id) (h xs hx)
  rw [this, List.map_id]
 have := List.map_congr_left (f := fun xs : List SIns => xs.map (normI code)) (g := id) this
 rw [this, List.map_id]
theorem check_told {nm : ByteArray} {p r : Int} {l : List (List SIns)} (h : PlainCheck.checkE nm p r l = 0) : (printS nm p r l).2 = 0 ∧ l.map (fun xs => xs.map (normI false)) = l := by
 unfold PlainCheck.checkE at h
 by_cases hn : nameOk nm = true
 case neg => rw [zD hn] at h; exact absurd h (by decide)
 rw [zC hn] at h
 by_cases hs : PlainCheck.shapeP p r l
 case neg => rw [zD hs] at h; exact absurd h (by decide)
 rw [zC hs] at h
 obtain ⟨s1, s2, s3, s4, s5, s6, -⟩ := hs
 have hT := all_told (regs := r) (nb := (l.length : Int)) (by omega) (by omega) l h
 refine ⟨?_, norm_same (fun xs hx x hy => (hT xs hx x hy).2)⟩
 have gp : good p = true := zF (by omega)
 have gr : good r = true := zF (by omega)
 have hpg : ∀ q ∈ [Part.nm nm, .num p, .num r], PartGood q := fun q hq => by
  simp only [List.mem_cons, List.not_mem_nil, or_false] at hq
  rcases hq with rfl | rfl | rfl
  ·exact hn
  ·exact gp
  ·exact gr
 have hh : (printHead nm p r).2 = 0 := by
  unfold printHead
  rw [name_eq, hn]
  dsimp only [Option.getD_some]
  rw [zC rfl, errs_zero _ hpg]
 have e0 : printHead nm p r = ((printHead nm p r).1, 0) := Prod.ext rfl hh
 unfold printS
 rw [e0]
 exact blks_told (B := 9000) l _ (fun xs hx x hy => (hT xs hx x hy).1)
end Go.Proofs.YtniknpjeknmpjaaGreatDoor.PlainText
namespace Go.Proofs.YtniknpjeknmpjaaGreatDoor.RTextPrints.Pure
open Go Go.RowKit Go.Proofs.YtniknpjeknmpjaaGreatDoorW.PrintWords Go.Proofs.YtniknpjeknmpjaaGreatDoorW.PrintMore Go.Proofs.YtniknpjeknmpjaaGreatDoor.Q Go.Proofs.YtniknpjeknmpjaaGreatDoor.Plain Go.Proofs.YtniknpjeknmpjaaGreatDoor.PlainNum Go.Proofs.YtniknpjeknmpjaaGreatDoor.PlainName Go.Proofs.YtniknpjeknmpjaaGreatDoor.PlainText
set_option linter.unusedVariables false
set_option linter.unusedSimpArgs false
theorem i64w {n : Int} (h : (Lit.int .i64 n).wf = true) : -9223372036854775808 ≤ n ∧ n ≤ 9223372036854775807 := i64_range h
theorem func_self (n : ByteArray) (p r : Int) (L : List (List SIns)) (h : FairL 1000000 L) : Ev (fun k => cubbylaw08_sameFunc.f k n p r L n p r L) true :=
 Ev.congr (fun k => by unfold cubbylaw08_sameFunc.f; rw [zC rfl, zC rfl, zC rfl]) (Ev.bind (f := fun _ t => some t) (blocks_self L h) (Ev.now _))
theorem read_back {a0 : ByteArray} {a1 a2 : Int} {l : List (List SIns)} (hL : Light l) (hc : PlainCheck.checkE a0 a1 a2 l = 0) : (printS a0 a1 a2 l).2 = 0 ∧ text_Parse.f ⟨(printS a0 a1 a2 l).1.toArray⟩ = some (a0, a1, a2, l, 0, 0) := by
 obtain ⟨he, hm⟩ := check_told hc
 refine ⟨he, ?_⟩
 have hz : (⟨(printS a0 a1 a2 l).1.toArray⟩ : ByteArray).size = (printS a0 a1 a2 l).1.length := by show (printS a0 a1 a2 l).1.toArray.size = _; simp
 have hsm := print_small hL he
 obtain ⟨hr, -⟩ := print_runs he
 have hp := parse_told hr (by omega)
 rw [hm] at hp
 unfold text_Parse.f
 rw [zC (by omega), hp, zC rfl]
 rfl
theorem TextPrints : TextPrints.Pure := by
 intro a0 a1 a2 l h0 h1 h2 ⟨_, _, hl⟩
 refine Ev.rounds ?_
 obtain ⟨b, hb, hlight⟩ := heavy_ev l
 unfold cubbylaw08_TextPrints.f
 refine Ev.bind hb ?_
 have yes : Ev (fun k => cubbylaw08_TextPrints.j0 k true a0 a1 a2 l) true := Ev.step (f := fun _ => some true) (fun k => by simp only [cubbylaw08_TextPrints.j0]; rw [zC (by simp)]) (Ev.now _)
 cases b with
 | true => exact yes
 | false =>
  obtain ⟨h4, h5, h6⟩ := hlight rfl
  by_cases h8 : (a0.size : Int) > 256
  ·exact Ev.congr (fun k => by rw [zD (by simp), zF h8]) yes
  refine Ev.congr (f := fun k => cubbylaw08_TextPrints.j0 k false a0 a1 a2 l) (fun k => by rw [zD (by simp), zG h8]) ?_
  have hL : Light l := ⟨h4, h5, fun xs hx x hy => by
   obtain ⟨_, _, hz⟩ := hl xs hx
   obtain ⟨g0, g1, g2, g3, _, _, _, g5⟩ := hz x hy
   obtain ⟨t1, t2⟩ := h6 xs hx x hy
   exact ⟨i64w g1, i64w g2, i64w g3, t2, t1, fun n hn => i64w (g5 n hn)⟩⟩
  have h7 : a0.size ≤ 256 := by omega
  have hp := print_eq h7 (i64w h1) (i64w h2) hL
  have hrow : ∀ b ∈ l, b.length ≤ 300 := fun b hb => Nat.le_trans (mem_total hb) hL.tot
  have hF : FairL 1000000 l := ⟨by omega, fun b hb => by have := hrow b hb; omega, fun b hb x hx => by have := (hL.lite b hb x hx).ln; omega⟩
  have hFB : PlainHeavy.FairB l := ⟨by omega, fun b hb => by have := hrow b hb; omega, fun b hb x hx => by have := (hL.lite b hb x hx).ln; omega⟩
  refine Ev.step (fun k => by simp only [cubbylaw08_TextPrints.j0]; rw [zD (by simp), hp]; rfl) (Ev.bind (refprint_ev h7 (i64w h1) (i64w h2) hL) (f := fun k (bt319 : ByteArray × Int) => (if (told a0 a1 a2 l).1.toList = bt319.1.toList then (cubbylaw08_TextPrints.j1 k (told a0 a1 a2 l).1 (told a0 a1 a2 l).2 ((told a0 a1 a2 l).2 != bt319.2) a0 a1 a2 l) else (cubbylaw08_TextPrints.j1 k (told a0 a1 a2 l).1 (told a0 a1 a2 l).2 true a0 a1 a2 l))) ?_)
  simp only [if_true, bne_self_eq_false]
  refine Ev.step (f := fun k => (cubbyref07_Check.f k a0 a1 a2 l).bind fun t321 => (if t321 = 0 then ((text_Parse.f (told a0 a1 a2 l).1).bind fun bt322 => (if (told a0 a1 a2 l).2 = 0 then (if bt322.2.2.2.2.2 = 0 then (if bt322.2.2.2.2.1 = 0 then ((cubbylaw08_sameFunc.f k a0 a1 a2 l bt322.1 bt322.2.1 bt322.2.2.1 bt322.2.2.2.1).bind fun t331 => (some t331)) else (some false)) else (some false)) else (some false))) else (if (told a0 a1 a2 l).2 = 0 then (some true) else (some ((told a0 a1 a2 l).1.toList == ([] : List UInt8)))))) (fun k => by simp only [cubbylaw08_TextPrints.j1]; rw [zD (by simp)]) (Ev.bind (PlainCheck.refcheck_ev a0 a1 a2 l hFB) (f := fun k (t321 : Int) => (if t321 = 0 then ((text_Parse.f (told a0 a1 a2 l).1).bind fun bt322 => (if (told a0 a1 a2 l).2 = 0 then (if bt322.2.2.2.2.2 = 0 then (if bt322.2.2.2.2.1 = 0 then ((cubbylaw08_sameFunc.f k a0 a1 a2 l bt322.1 bt322.2.1 bt322.2.2.1 bt322.2.2.2.1).bind fun t331 => (some t331)) else (some false)) else (some false)) else (some false))) else (if (told a0 a1 a2 l).2 = 0 then (some true) else (some ((told a0 a1 a2 l).1.toList == ([] : List UInt8)))))) ?_)
  by_cases hc : PlainCheck.checkE a0 a1 a2 l = 0
  ·obtain ⟨he, hr⟩ := read_back hL hc
   have et : told a0 a1 a2 l = (⟨(printS a0 a1 a2 l).1.toArray⟩, 0) := zC he
   refine Ev.congr (f := fun k => (cubbylaw08_sameFunc.f k a0 a1 a2 l a0 a1 a2 l).bind fun t => some t) (fun k => ?_) (Ev.bind (f := fun _ t => some t) (func_self _ _ _ _ hF) (Ev.now _))
   rw [zC hc, et, hr]
   rfl
  ·refine Ev.congr (f := fun _ => some true) (fun k => ?_) (Ev.now _)
   rw [zD hc]
   by_cases he : (printS a0 a1 a2 l).2 = 0
   ·have et : told a0 a1 a2 l = (⟨(printS a0 a1 a2 l).1.toArray⟩, 0) := zC he
    rw [et]
    rfl
   ·have et : told a0 a1 a2 l = (emp, (printS a0 a1 a2 l).2) := zD he
    rw [et, zD he, toList_data]
    rfl
end Go.Proofs.YtniknpjeknmpjaaGreatDoor.RTextPrints.Pure
namespace Go.Proofs.YtniknpjeknmpjaaGreatDoor.RTextPrints
open Go.ChangeShapes Go.WideShapes Go.ChangeAt
open Go.ChangeMaps (open_string shut_string)
open Go Go.RowKit Go.Proofs.YtniknpjeknmpjaaGreatDoorW.PrintWords Go.Proofs.YtniknpjeknmpjaaGreatDoorW.PrintLast Go.Proofs.YtniknpjeknmpjaaGreatDoorW.PrintMore Go.Proofs.YtniknpjeknmpjaaGreatDoor.Q Go.Proofs.YtniknpjeknmpjaaGreatDoor.Open
set_option linter.unusedVariables false
theorem own : ownKnob Tryz.prog.godebug = none := by kernel_rfl
theorem laidOut : laidOutB Tryz.prog = true := by kernel_rfl
theorem opensIns : Opens Tryz.prog 44 kIns GIns :=
 (Opens.iso (fun x : SIns => (x.f0, x.f1, x.f2, x.f3, x.f4, x.f5)) (fun y => ⟨y.1, y.2.1, y.2.2.1, y.2.2.2.1, y.2.2.2.2.1, y.2.2.2.2.2⟩) (fun _ => rfl) (Opens.struct Tryz.underlying44 (by kernel_rfl) (OpensFs.cons rfl (Opens.int (Tryz.underlying3) (by kernel_rfl)) (OpensFs.cons rfl (Opens.int (Tryz.underlying3) (by kernel_rfl)) (OpensFs.cons rfl (Opens.int (Tryz.underlying3) (by kernel_rfl)) (OpensFs.cons rfl (Opens.int (Tryz.underlying3) (by kernel_rfl)) (OpensFs.cons rfl (Opens.string (Tryz.underlying9) (by kernel_rfl)) (OpensFs.one rfl (Opens.slice (B := 8) (Tryz.underlying42) (by kernel_rfl) (by kernel_rfl) (Opens.int (Tryz.underlying3) (by kernel_rfl))))))))))).imp (fun _ h => h)
set_option maxRecDepth 100000 in
theorem lifted (os : Os) (started : os.Started) (H : Type) (enc : TypeId × Value → H) :
 ReturnsInHanded {} Tryz.checked os 3 .any (fun w args => (Rows.textPrintsSpec.pre enc Tryz.prog Tryz.f3 [] false w args ∧ laidMetH Tryz.prog Rows.textPrintsRow.laid w) ∧ sizedMet enc Tryz.prog Tryz.f3 (OpenSpec.ofChange Rows.textPrintsSpec) false w args) (Rows.textPrintsSpec.post enc Tryz.prog Tryz.f3 false true false false) := by
 refine returnsInHanded_of_change_and (C := Tryz.checked) (X := fun w _ => laidMetH Tryz.prog Rows.textPrintsRow.laid w) (fun _ _ _ hh h => h.of_heap hh) own started (by kernel_rfl) Tryz.func3
  (ChangeSpec.witness_shaped (enc := enc) (C := Tryz.checked) (os := os) (X := fun w _ => laidMetH Tryz.prog Rows.textPrintsRow.laid w) false (World.laidAll Tryz.prog os Rows.textPrintsRow.laid) #[.agg #[.string ByteArray.empty, .int .i64 0, .int .i64 0, .slice none 0 0]] 8 (World.laidAll_os _ _ _)
    (World.shaped_of_ZipB (by kernel_rfl) (by kernel_rfl)) (by kernel_rfl) (by kernel_rfl) (by kernel_rfl)
    (by rw [MakeChecks.laidMetH_plain _ _ _ (by kernel_rfl)]; exact laidMet_laidAll _ (by kernel_rfl) (by kernel_rfl))) ?_
 intro W base args ds gs before hval0 hW hcnd hsz0 hL0 _
 rw [MakeChecks.laidMetH_plain _ _ _ (by kernel_rfl)] at hL0
 have LAIDF : LaidW W := LaidW.of_met (show laidMet Tryz.prog laidList W from hL0)
 have hsz : (DataW.weightsEach Tryz.prog (Tryz.f3.params.toList ++ Rows.textPrintsSpec.plain.varTypes Tryz.prog) (ds ++ gs)).all (· ≤ reachBytes) = true := hsz0
 have hval : ∀ (j : Nat) t v, Tryz.f3.params[j]? = some t → args[j]? = some v → Value.okWide Tryz.prog W .any base t v := hval0
 have hW' := hW
 obtain ⟨p, q, hA0, hV, rfl, hfz, hnd⟩ := hW
 have hA : DataW.TrodAll enc Tryz.prog W 0 (fun _ => true) true Tryz.f3.params.toList args.toList ds p := hA0
 rw [Tryz.params3] at hA hval hsz
 obtain ⟨v0, vs0, d0, ds0, p0, q0, hargs, rfl, rfl, h0, r0⟩ := trodAll_cons hA
 obtain ⟨rfl, rfl, rfl⟩ := trodAll_nil r0
 obtain rfl : args = #[v0] := by cases args; simp_all
 obtain ⟨rfl, rfl⟩ := trodVars_none hV
 have lt0 : ∀ x ∈ p0, x.block < W.heap.size := by obtain ⟨m, hm⟩ := h0; exact DataW.trod_lt m _ _ _ hm
 obtain ⟨cs0, rfl, -⟩ := okWide_struct Tryz.underlying24 (hval 0 24 v0 rfl rfl)
 obtain ⟨⟨a0_0, a0_1, a0_2, l0_3⟩, hk0, gg0⟩ := (Opens.struct Tryz.underlying24 (by kernel_rfl) (OpensFs.cons rfl (Opens.string (Tryz.underlying9) (by kernel_rfl)) (OpensFs.cons rfl (Opens.int (Tryz.underlying3) (by kernel_rfl)) (OpensFs.cons rfl (Opens.int (Tryz.underlying3) (by kernel_rfl)) (OpensFs.one rfl (Opens.slice (B := 24) (Tryz.underlying22) (by kernel_rfl) (by kernel_rfl) (Opens.slice (B := 72) (Tryz.underlying41) (by kernel_rfl) (by kernel_rfl) opensIns)))))) : Opens Tryz.prog 24 (Kd.pair Kd.string (Kd.pair (Kd.int .i64) (Kd.pair (Kd.int .i64) (Kd.slice 41 (Kd.slice 44 kIns))))) (fun y => ((y.1).size ≤ 140737488351232 ∧ ((Lit.int .i64 (y.2.1)).wf = true ∧ ((Lit.int .i64 (y.2.2.1)).wf = true ∧ ((y.2.2.2).length * 24 ≤ 140737488351232 ∧ (y.2.2.2).length ≤ maxLen ∧ ∀ y1 ∈ (y.2.2.2), ((y1).length * 72 ≤ 140737488351232 ∧ (y1).length ≤ maxLen ∧ ∀ y2 ∈ (y1), GIns (y2)))))))).arg h0 hsz (j := 0) rfl rfl
 obtain ⟨g0_0, g0_1, g0_2, g0_3⟩ := gg0
 obtain ⟨_, _, h0_, rfl, ⟨_, _, rfl, rfl, ⟨_, _, rfl, rfl, ⟨A0_3, c0_3, rfl, hc0_3, hr0_3⟩⟩⟩⟩ := hk0
 obtain rfl : cs0 = #[.string a0_0, .int .i64 a0_1, .int .i64 a0_2, .slice A0_3 l0_3.length c0_3] := by
  cases cs0
  simp [Value.cells] at h0_
  simp [h0_]
 clear hA0 hval0 hsz0 hsz
 obtain ⟨k, hf⟩ := Pure.TextPrints a0_0 a0_1 a0_2 l0_3 g0_0 g0_1 g0_2 g0_3
 refine (Q.cubbylaw08_TextPrints.calls k a0_0 a0_1 a0_2 A0_3 c0_3 l0_3 true W LAIDF rfl hr0_3 hc0_3 hf).mono ?_
 rintro e W' ⟨rfl, hd⟩
 have bel : Below W.heap.size W W' := hd
 exact ⟨_, rfl, _, _, _, [], _, [], hW', trodAll_mk1 (shut_bool Tryz.underlying4 _), (trodAll_cons_mk (Below.trod laidOut (by kernel_rfl) (zB (by kernel_rfl)) h0 bel lt0) trodAll_mk0), rfl, bel.frame _, fun h => by cases h⟩
theorem over : Rows.textPrintsRow.holds Tryz.pinned (OpenSpec.ofChange Rows.textPrintsSpec) :=
 OpenClaim.holds_of_wide 3 Tryz.f3 rfl rfl rfl rfl rfl rfl rfl ⟨rfl, rfl, rfl, rfl, rfl⟩ rfl rfl rfl rfl rfl (by kernel_rfl) Tryz.func3 (by kernel_rfl)
  (zB (by kernel_rfl)) (by unfold Func.isWrapper; first | (rw [zC (by decide +kernel)]; kernel_rfl) | (rw [zD (by decide +kernel)]; exact ⟨rfl, rfl⟩))
  (fun os started H enc _ => lifted os started H enc)
end Go.Proofs.YtniknpjeknmpjaaGreatDoor.RTextPrints
namespace Go.Proofs.YtniknpjeknmpjaaGreatDoor
theorem textPrints_holds : Rows.TextPrintsSaid := RTextPrints.over
theorem textPrints_card : Rows.TextPrintsCardSaid :=
 Claim7.holds_tied_plain_at .later [] [.data, .data, .data, .data, .sentinel, .sentinel, .pinned] true (true, "28e4f1c8989f8f4d08a0e5dcb87c6a5c8c7849d6e3bc898c2b42379bb70cfe4a") true textPrints_holds (fun _ h => by cases h) (by kernel_rfl) (fun _ h => by cases h) textPrints_row_tie rfl ⟨rfl, rfl⟩ (by kernel_rfl) rfl
  (fun f fn hf hfn => by
    obtain rfl : f = 3 := zI ((show Tryz.prog.funcNamed "cubby/cubbylaw08.TextPrints" = some 3 by kernel_rfl).symm.trans hf) |>.symm
    obtain rfl : fn = Tryz.f3 := (zI (Tryz.func3.symm.trans hfn)).symm
    exact ⟨by kernel_rfl, fun j t ht => by
     rw [Tryz.params3] at ht
     have hm : t ∈ [24] := by simpa using Array.mem_of_getElem? ht
     have hall : ([24].all fun u => !Tryz.prog.wantsStandIn u) = true := by kernel_rfl
     exact (show Tryz.prog.wantsStandIn t = false by simpa using List.all_eq_true.1 hall t hm)⟩)
  (by kernel_rfl)
#print axioms textPrints_card
end Go.Proofs.YtniknpjeknmpjaaGreatDoor
