/- Lv: parts of the proofs, put together. -/
import Derived.Test.YtebnnknijbgekaaDoorMLv1
import Derived.Test.YtebnnknijbgekaaDoorMLv2
import Derived.Test.YtebnnknijbgekaaDoorMLv3
import Derived.Test.YtebnnknijbgekaaDoorMLv4
namespace Go.Proofs.YtebnnknijbgekaaDoor.PlainLive
open Go Go.RowKit Go.Proofs.YtebnnknijbgekaaDoorW.PrintWords Go.Proofs.YtebnnknijbgekaaDoorW.PrintMore Go.Proofs.YtebnnknijbgekaaDoor.Q Go.Proofs.YtebnnknijbgekaaDoor.Plain Go.Proofs.YtebnnknijbgekaaDoor.PlainIr Go.Proofs.YtebnnknijbgekaaDoor.PlainBits Go.Proofs.YtebnnknijbgekaaDoor.PlainFix Go.Proofs.YtebnnknijbgekaaDoor.PlainSuccs Go.Proofs.YtebnnknijbgekaaDoor.PlainOne
set_option linter.unusedVariables false
set_option linter.unusedSimpArgs false

theorem mem_toL {R s r : Nat} : (r : Int) ∈ toL R s ↔ r < R ∧ s.testBit r = true := by
  unfold toL
  rw [List.mem_map]
  constructor
  · rintro ⟨q, hq, e⟩
    have : q = r := by omega
    subst this
    exact mem_toN.1 hq
  · intro h
    exact ⟨r, mem_toN.2 h, rfl⟩
theorem toL_nat {R s : Nat} {n : Int} (h : n ∈ toL R s) : ∃ r : Nat, n = r ∧ r < R ∧ s.testBit r = true := by
  unfold toL at h
  obtain ⟨q, hq, rfl⟩ := List.mem_map.1 h
  exact ⟨q, rfl, mem_toN.1 hq⟩
theorem toL_len (R s : Nat) : (toL R s).length ≤ R := by
  unfold toL
  rw [List.length_map]
  exact toN_len R s

/-! ### sets of numbers as bits -/
theorem foldB_bit (r : Nat) : ∀ (l : List Int) (s : Nat), (∀ n ∈ l, 0 ≤ n) → (l.foldl (fun s n => withB s n.toNat) s).testBit r = (s.testBit r || decide ((r : Int) ∈ l))
  | [], s, _ => by simp
  | n :: l, s, h => by
    have h0 := h n List.mem_cons_self
    rw [List.foldl_cons, foldB_bit r l _ (fun m hm => h m (List.mem_cons_of_mem _ hm)), withB_bit, Bool.or_assoc]
    congr 1
    rw [← Bool.decide_or]
    apply decide_eq_decide.2
    rw [List.mem_cons]
    constructor
    · rintro (e | e)
      · left
        omega
      · exact .inr e
    · rintro (e | e)
      · left
        omega
      · exact .inr e
theorem foldB_lt {R : Nat} : ∀ (l : List Int) (s : Nat), (∀ n ∈ l, 0 ≤ n ∧ n < R) → s < 2 ^ R → l.foldl (fun s n => withB s n.toNat) s < 2 ^ R
  | [], s, _, hs => hs
  | n :: l, s, h, hs => by
    have h0 := h n List.mem_cons_self
    exact foldB_lt l _ (fun m hm => h m (List.mem_cons_of_mem _ hm)) (withB_lt (by omega) hs)
theorem foldB_mono : ∀ (l : List Int) (s t : Nat), Sub s t → Sub (l.foldl (fun s n => withB s n.toNat) s) (l.foldl (fun s n => withB s n.toNat) t)
  | [], s, t, h => h
  | n :: l, s, t, h => by
    refine foldB_mono l _ _ fun r hr => ?_
    rw [withB_bit, Bool.or_eq_true] at hr ⊢
    rcases hr with hr | hr
    · exact .inl (h r hr)
    · exact .inr hr
/-- What is live ahead of an instruction, of what is behind. -/
def thrN (x : SIns) (s : Nat) : Nat := (uses x.f0 x.f2 x.f3 x.f5).foldl (fun s n => withB s n.toNat) (if 0 ≤ defOf x.f0 x.f1 then withoutB s (defOf x.f0 x.f1).toNat else s)
theorem thrN_mono (x : SIns) (s t : Nat) (h : Sub s t) : Sub (thrN x s) (thrN x t) := by
  unfold thrN
  apply foldB_mono
  split
  · intro r hr
    unfold withoutB at hr ⊢
    rw [Nat.testBit_and, Bool.and_eq_true] at hr ⊢
    exact ⟨h r hr.1, hr.2⟩
  · exact h
/-- The registers of an instruction are below R. -/
structure RegsOk (R : Nat) (x : SIns) : Prop where
  le : R ≤ 64
  use : ∀ n ∈ uses x.f0 x.f2 x.f3 x.f5, 0 ≤ n ∧ n < R
  def_ : defOf x.f0 x.f1 < R ∧ (0 ≤ defOf x.f0 x.f1 ∨ defOf x.f0 x.f1 = -1)
theorem thrN_lt {R : Nat} {x : SIns} (O : RegsOk R x) {s : Nat} (hs : s < 2 ^ R) : thrN x s < 2 ^ R := by
  unfold thrN
  apply foldB_lt _ _ O.use
  split
  · exact withoutB_lt hs
  · exact hs
theorem lt64 {R s : Nat} (hR : R ≤ 64) (hs : s < 2 ^ R) : s < 2 ^ 64 := Nat.lt_of_lt_of_le hs (Nat.pow_le_pow_right (by omega) hR)
theorem thrN_bit {R : Nat} {x : SIns} (O : RegsOk R x) {s : Nat} (hs : s < 2 ^ R) (r : Nat) : (thrN x s).testBit r = ((s.testBit r && decide ((r : Int) ≠ defOf x.f0 x.f1)) || decide ((r : Int) ∈ uses x.f0 x.f2 x.f3 x.f5)) := by
  have hd := O.def_
  have hR := O.le
  unfold thrN
  rw [foldB_bit r _ _ (fun n hn => (O.use n hn).1)]
  congr 1
  split
  · next h =>
    rw [withoutB_bit (by omega) (lt64 hR hs)]
    congr 1
    apply decide_eq_decide.2
    omega
  · next h =>
    rw [decide_eq_true (by omega), Bool.and_true]
def orN (inn : List Nat) (l : List Int) : Nat := l.foldl (fun s k => s ||| at_ inn k.toNat) 0
theorem foldO_mono {x y : List Nat} (h : LE x y) : ∀ (l : List Int) (s t : Nat), Sub s t → Sub (l.foldl (fun s k => s ||| at_ x k.toNat) s) (l.foldl (fun s k => s ||| at_ y k.toNat) t)
  | [], s, t, hs => hs
  | k :: l, s, t, hs => by
    refine foldO_mono h l _ _ fun r hr => ?_
    rw [Nat.testBit_or, Bool.or_eq_true] at hr ⊢
    rcases hr with hr | hr
    · exact .inl (hs r hr)
    · exact .inr (h _ r hr)
theorem foldO_lt {R : Nat} {x : List Nat} (h : ∀ b, at_ x b < 2 ^ R) : ∀ (l : List Int) (s : Nat), s < 2 ^ R → l.foldl (fun s k => s ||| at_ x k.toNat) s < 2 ^ R
  | [], s, hs => hs
  | k :: l, s, hs => foldO_lt h l _ (Nat.or_lt_two_pow hs (h _))
/-- What is live ahead of a block's instruction i, of what is live ahead of the blocks. -/
def aheadN (bs : List (List SIns)) (inn : List Nat) (b i : Nat) : Nat := ((bs.getD b []).drop i).foldr thrN (orN inn (succs bs (b : Int)))
theorem foldr_mono : ∀ (l : List SIns) (s t : Nat), Sub s t → Sub (l.foldr thrN s) (l.foldr thrN t)
  | [], s, t, h => h
  | x :: l, s, t, h => thrN_mono x _ _ (foldr_mono l s t h)
theorem foldr_lt {R : Nat} : ∀ (l : List SIns) (s : Nat), (∀ x ∈ l, RegsOk R x) → s < 2 ^ R → l.foldr thrN s < 2 ^ R
  | [], s, _, h => h
  | x :: l, s, hO, h => thrN_lt (hO x List.mem_cons_self) (foldr_lt l s (fun y hy => hO y (List.mem_cons_of_mem _ hy)) h)
theorem aheadN_eqs (bs : List (List SIns)) (R : Nat) (hO : ∀ b ∈ bs, ∀ x ∈ b, RegsOk R x) : Eqs bs.length R (fun x b => aheadN bs x b 0) := by
  refine ⟨fun x y h b _ => foldr_mono _ _ _ (foldO_mono h _ _ _ (fun _ h => h)), fun x h b hb => ?_⟩
  unfold aheadN
  refine foldr_lt _ _ (fun z hz => ?_) (foldO_lt h _ _ (Nat.pos_of_ne_zero (by simp)))
  have hz := List.mem_of_mem_drop hz
  rw [List.getD_eq_getElem?_getD, List.getElem?_eq_getElem hb] at hz
  exact hO _ (List.getElem_mem hb) z hz

/-! ### the reference's lists -/
theorem refhas_ev (l : List Int) (x : Int) (hl : l.length ≤ 4611686018427387904) : Ev (fun k => cubbyref11_has.f k l x) (decide (x ∈ l)) := by
  show Ev (fun k => cubbyref11_has.l0 k l x ((0 : Nat) : Int)) _
  refine seek (fun k i => cubbyref11_has.l0 k l x (i : Int)) l.length (fun i => rd l (i : Int) = x) true _ ?_ ?_ ?_ ?_
  · intro i hi hb
    exact Ev.step (f := fun _ => some true) (fun k => by simp only [cubbyref11_has.l0]; rw [if_pos (by omega), if_pos (by omega), if_pos hb]) (Ev.now _)
  · intro i hi hb r' hE
    exact Ev.step (fun k => by simp only [cubbyref11_has.l0]; rw [if_pos (by omega), if_pos (by omega), if_neg hb, wrap_nat (by omega)]) hE
  · rintro ⟨i, hi, hb⟩
    rw [rd_get hi] at hb
    exact decide_eq_true (hb ▸ List.getElem_mem hi)
  · intro h
    rw [decide_eq_false (fun hx => by
      obtain ⟨i, hi, e⟩ := List.mem_iff_getElem.1 hx
      exact h i hi ((rd_get hi).trans e))]
    exact Ev.step (f := fun _ => some false) (fun k => by simp only [cubbyref11_has.l0]; rw [if_neg (by omega)]) (Ev.now _)
/-- Of the numbers below R those in either list. -/
def unionL (R : Nat) (a b : List Int) : List Int := ((List.range R).filter (fun r : Nat => decide ((r : Int) ∈ a) || decide ((r : Int) ∈ b))).map (fun n : Nat => (n : Int))
theorem refunion_ev (a b : List Int) (R : Nat) (hR : R ≤ 1000) (ha : a.length ≤ 4611686018427387904) (hb : b.length ≤ 4611686018427387904) : Ev (fun k => cubbyref11_union.f k a b (R : Int)) (unionL R a b) := by
  have h : ∀ (d r : Nat) (out : List Int), r + d = R → out.length ≤ r → Ev (fun k => cubbyref11_union.l0 k a b (R : Int) out (r : Int)) (out ++ ((List.range' r d).filter (fun r : Nat => decide ((r : Int) ∈ a) || decide ((r : Int) ∈ b))).map (fun n : Nat => (n : Int))) := by
    intro d
    induction d with
    | zero =>
      intro r out hr ho
      rw [List.range'_zero, List.filter_nil, List.map_nil, List.append_nil]
      exact Ev.step (f := fun _ => some out) (fun k => by simp only [cubbyref11_union.l0]; rw [if_neg (by omega)]) (Ev.now _)
    | succ d ih =>
      intro r out hr ho
      rw [List.range'_succ]
      refine Ev.step (fun k => by simp only [cubbyref11_union.l0]; rw [if_pos (by omega)]) (Ev.bind (refhas_ev a (r : Int) ha) ?_)
      by_cases c : (r : Int) ∈ a
      · rw [List.filter_cons_of_pos (by simp [c]), List.map_cons]
        have := ih (r + 1) (out ++ [(r : Int)]) (by omega) (by simp; omega)
        rw [List.append_assoc, List.singleton_append] at this
        exact Ev.congr (fun k => by rw [decide_eq_true c, if_pos rfl, if_pos (by omega), wrap_nat (by omega)]) this
      · refine Ev.congr (fun k => by rw [decide_eq_false c, if_neg Bool.false_ne_true]) (Ev.bind (refhas_ev b (r : Int) hb) ?_)
        by_cases c1 : (r : Int) ∈ b
        · rw [List.filter_cons_of_pos (by simp [c1]), List.map_cons]
          have := ih (r + 1) (out ++ [(r : Int)]) (by omega) (by simp; omega)
          rw [List.append_assoc, List.singleton_append] at this
          exact Ev.congr (fun k => by rw [decide_eq_true c1, if_pos rfl, if_pos (by omega), wrap_nat (by omega)]) this
        · rw [List.filter_cons_of_neg (by simp [c, c1])]
          exact Ev.congr (fun k => by rw [decide_eq_false c1, if_neg Bool.false_ne_true, wrap_nat (by omega)]) (ih (r + 1) out (by omega) (by omega))
  have := h R 0 [] (by omega) (by simp)
  rw [List.nil_append, ← List.range_eq_range'] at this
  exact this
theorem unionL_toL {R s t : Nat} : unionL R (toL R s) (toL R t) = toL R (s ||| t) := by
  unfold unionL
  show _ = (toN R (s ||| t)).map _
  unfold toN
  congr 1
  apply List.filter_congr
  intro r hr
  have hr := List.mem_range.1 hr
  rw [Nat.testBit_or, Bool.eq_iff_iff, Bool.or_eq_true, Bool.or_eq_true, decide_eq_true_iff, decide_eq_true_iff, mem_toL, mem_toL]
  simp [hr]
theorem unionL_nil {R t : Nat} : unionL R [] (toL R t) = toL R t := by
  have h := unionL_toL (R := R) (s := 0) (t := t)
  rw [Nat.zero_or] at h
  rw [show toL R 0 = [] by unfold toL; rw [toN_zero]; rfl] at h
  exact h
theorem refthrough_ev {R : Nat} {x : SIns} (O : RegsOk R x) (hx : x.f5.length ≤ 17592186043904) {s : Nat} (hs : s < 2 ^ R) : Ev (fun k => cubbyref11_through.f k x.f0 x.f1 x.f2 x.f3 x.f4 x.f5 (toL R s) (R : Int)) (toL R (thrN x s)) := by
  have hR := O.le
  have hlen := toL_len R s
  have h : ∀ (d j : Nat) (out : List Int), j + d = (toL R s).length → out.length ≤ j → Ev (fun k => cubbyref11_through.l0 k (toL R s) (R : Int) out (j : Int) x.f0 x.f1 x.f2 x.f3 x.f4 x.f5) (unionL R (out ++ ((toL R s).drop j).filter (fun n => decide (n ≠ defOf x.f0 x.f1))) (uses x.f0 x.f2 x.f3 x.f5)) := by
    intro d
    induction d with
    | zero =>
      intro j out hj ho
      rw [List.drop_eq_nil_of_le (by omega), List.filter_nil, List.append_nil]
      refine Ev.step (fun k => by simp only [cubbyref11_through.l0]; rw [if_neg (by omega)]) (Ev.bind (refuses_ev x.f0 x.f1 x.f2 x.f3 x.f4 x.f5 (by omega)) ?_)
      refine Ev.bind (refunion_ev out _ R (by omega) (by omega) (uses_short (by omega))) (Ev.now _)
    | succ d ih =>
      intro j out hj ho
      have hlt : j < (toL R s).length := by omega
      rw [drop_cons hlt]
      by_cases c : (toL R s)[j] = defOf x.f0 x.f1
      · rw [List.filter_cons_of_neg (by simp [c])]
        exact Ev.step (fun k => by simp only [cubbyref11_through.l0]; rw [if_pos (by omega), if_pos (by omega), refdef_eq, Option.bind_some, rd_get hlt, if_pos c, wrap_nat (by omega)]) (ih (j + 1) out (by omega) (by omega))
      · rw [List.filter_cons_of_pos (by simp [c])]
        have := ih (j + 1) (out ++ [(toL R s)[j]]) (by omega) (by simp; omega)
        rw [List.append_assoc, List.singleton_append] at this
        exact Ev.step (fun k => by simp only [cubbyref11_through.l0]; rw [if_pos (by omega), if_pos (by omega), refdef_eq, Option.bind_some, rd_get hlt, if_neg c, if_pos (by omega), wrap_nat (by omega)]) this
  have := h (toL R s).length 0 [] (by omega) (by simp)
  rw [List.nil_append, List.drop_zero] at this
  have e : unionL R ((toL R s).filter (fun n => decide (n ≠ defOf x.f0 x.f1))) (uses x.f0 x.f2 x.f3 x.f5) = toL R (thrN x s) := by
    unfold unionL
    show _ = (toN R (thrN x s)).map _
    unfold toN
    congr 1
    apply List.filter_congr
    intro r hr
    have hr := List.mem_range.1 hr
    rw [thrN_bit O hs, Bool.eq_iff_iff, Bool.or_eq_true, Bool.or_eq_true, Bool.and_eq_true, decide_eq_true_iff, decide_eq_true_iff, decide_eq_true_iff, List.mem_filter, mem_toL, decide_eq_true_iff]
    simp [hr]
  rw [e] at this
  exact this
end Go.Proofs.YtebnnknijbgekaaDoor.PlainLive
namespace Go.Proofs.YtebnnknijbgekaaDoor.PlainLive
open Go Go.RowKit Go.Proofs.YtebnnknijbgekaaDoorW.PrintWords Go.Proofs.YtebnnknijbgekaaDoorW.PrintMore Go.Proofs.YtebnnknijbgekaaDoor.Q Go.Proofs.YtebnnknijbgekaaDoor.Plain Go.Proofs.YtebnnknijbgekaaDoor.PlainIr Go.Proofs.YtebnnknijbgekaaDoor.PlainBits Go.Proofs.YtebnnknijbgekaaDoor.PlainFix Go.Proofs.YtebnnknijbgekaaDoor.PlainSuccs Go.Proofs.YtebnnknijbgekaaDoor.PlainOne
set_option linter.unusedVariables false
set_option linter.unusedSimpArgs false

theorem toL_zero (R : Nat) : toL R 0 = [] := by
  unfold toL
  rw [toN_zero]
  rfl
theorem rdL_map {R : Nat} {inn : List Nat} {b : Int} (h0 : 0 ≤ b) (h : b < inn.length) : rd_LInt (inn.map (toL R)) b = toL R (at_ inn b.toNat) := by
  show (inn.map (toL R)).getD b.toNat [] = _
  unfold at_
  rw [List.getD_eq_getElem?_getD, List.getD_eq_getElem?_getD, List.getElem?_map, List.getElem?_eq_getElem (by omega : b.toNat < inn.length)]
  rfl
/-- A function's blocks whose registers are below R, and which are no longer than numbers allow. -/
structure BlocksOk (R : Nat) (bs : List (List SIns)) : Prop where
  le : R ≤ 64
  len : bs.length ≤ 1000
  row : ∀ b ∈ bs, b.length ≤ 1000
  regs : ∀ b ∈ bs, ∀ x ∈ b, RegsOk R x
  args : ∀ b ∈ bs, ∀ x ∈ b, x.f5.length ≤ 17592186043904
theorem BlocksOk.small {R : Nat} {bs : List (List SIns)} (h : BlocksOk R bs) : Small bs := ⟨by have := h.len; omega, fun b hb => by have := h.row b hb; omega⟩
theorem getD_get {bs : List (List SIns)} {b : Nat} (h : b < bs.length) : bs.getD b [] = bs[b] := by
  rw [List.getD_eq_getElem?_getD, List.getElem?_eq_getElem h]
  rfl
theorem rd_row {bs : List (List SIns)} {b : Nat} (h : b < bs.length) : rd_LIns bs (b : Int) = bs.getD b [] := rfl
theorem rd_ins {l : List SIns} {j : Nat} (h : j < l.length) : rd_TIns l (j : Int) = l[j] := by
  show l.getD j zIns = _
  rw [List.getD_eq_getElem?_getD, List.getElem?_eq_getElem h]
  rfl
theorem row_fold {row : List SIns} {i m : Nat} (hi : i ≤ m) (hm : m < row.length) (s : Nat) : ((row.take (m + 1)).drop i).foldr thrN s = ((row.take m).drop i).foldr thrN (thrN row[m] s) := by
  rw [List.take_succ_eq_append_getElem hm, List.drop_append_of_le_length (by rw [List.length_take]; omega), List.foldr_append]
  rfl
section
variable (pn : ByteArray) (pp : Int) {R : Nat} {bs : List (List SIns)} (O : BlocksOk R bs) {inn : List Nat} (hlen : inn.length = bs.length)
include O hlen
theorem refbehind_ev (b : Int) : Ev (fun k => cubbyref11_behind.f k pn pp (R : Int) bs (inn.map (toL R)) b) (toL R (orN inn (succs bs b))) := by
  have hle := O.le
  refine Ev.bind (refsuccs_ev bs b O.small) ?_
  have hm := succs_mem bs b
  have hl := succs_len bs b
  generalize succs bs b = l at *
  have h : ∀ (d j s : Nat), j + d = l.length → Ev (fun k => cubbyref11_behind.l0 k (inn.map (toL R)) (toL R s) l (j : Int) pn pp (R : Int) bs) (toL R ((l.drop j).foldl (fun s k => s ||| at_ inn k.toNat) s)) := by
    intro d
    induction d with
    | zero =>
      intro j s hj
      rw [List.drop_eq_nil_of_le (by omega)]
      exact Ev.step (f := fun _ => some (toL R s)) (fun k => by simp only [cubbyref11_behind.l0]; rw [if_neg (by omega)]) (Ev.now _)
    | succ d ih =>
      intro j s hj
      have hjl : j < l.length := by omega
      have h1 := hm _ (List.getElem_mem hjl)
      rw [drop_cons hjl, List.foldl_cons]
      have hu := refunion_ev (toL R s) (toL R (at_ inn (l[j]).toNat)) R (by omega) (by have := toL_len R s; omega) (by have := toL_len R (at_ inn (l[j]).toNat); omega)
      rw [unionL_toL] at hu
      refine Ev.step (fun k => by simp only [cubbyref11_behind.l0]; rw [if_pos (by omega), if_pos (by omega), rd_get hjl, if_pos (by omega), if_pos (by rw [List.length_map]; omega), rdL_map (by omega) (by omega)]) (Ev.bind hu ?_)
      exact Ev.congr (fun k => by rw [wrap_nat (by omega)]) (ih (j + 1) _ (by omega))
  have := h l.length 0 0 (by omega)
  rw [toL_zero, List.drop_zero] at this
  exact this
end
theorem or_lt {R : Nat} (bs : List (List SIns)) {inn : List Nat} (hlt : ∀ b, at_ inn b < 2 ^ R) (b : Int) : orN inn (succs bs b) < 2 ^ R := foldO_lt hlt _ _ (Nat.pos_of_ne_zero (by simp))
section
variable (pn : ByteArray) (pp : Int) {R : Nat} {bs : List (List SIns)} (O : BlocksOk R bs) {inn : List Nat} (hlen : inn.length = bs.length) (hlt : ∀ b, at_ inn b < 2 ^ R)
include O hlen hlt
theorem refahead_ev {b i : Nat} (hb : b < bs.length) (hi : i ≤ (bs.getD b []).length) : Ev (fun k => cubbyref11_ahead.f k pn pp (R : Int) bs (inn.map (toL R)) (b : Int) (i : Int)) (toL R (aheadN bs inn b i)) := by
  have hbl := O.len
  refine Ev.bind (refbehind_ev pn pp O hlen (b : Int)) ?_
  have hs0 := or_lt bs hlt (b : Int)
  unfold aheadN
  generalize orN inn (succs bs (b : Int)) = s0 at *
  have hrow := getD_get hb
  have hr := O.row _ (List.getElem_mem hb)
  have hregs := O.regs _ (List.getElem_mem hb)
  have hargs := O.args _ (List.getElem_mem hb)
  rw [← hrow] at hr hregs hargs
  generalize hg : bs.getD b [] = row at *
  have h : ∀ (d m s : Nat), i + d = m → m ≤ row.length → s < 2 ^ R → Ev (fun k => cubbyref11_ahead.l0 k (b : Int) (i : Int) (toL R s) ((m : Int) - 1) pn pp (R : Int) bs) (toL R (((row.take m).drop i).foldr thrN s)) := by
    intro d
    induction d with
    | zero =>
      intro m s hm hml hs
      rw [List.drop_eq_nil_of_le (by rw [List.length_take]; omega)]
      exact Ev.step (f := fun _ => some (toL R s)) (fun k => by simp only [cubbyref11_ahead.l0]; rw [if_neg (by omega)]) (Ev.now _)
    | succ d ih =>
      intro m s hm hml hs
      obtain ⟨m', rfl⟩ : ∃ m', m = m' + 1 := ⟨m - 1, by omega⟩
      have hm' : m' < row.length := by omega
      rw [row_fold (by omega) hm']
      have hx := hregs _ (List.getElem_mem hm')
      rw [show (((m' + 1 : Nat) : Int) - 1) = (m' : Int) by omega]
      refine Ev.step (fun k => by simp only [cubbyref11_ahead.l0]; rw [if_pos (by omega), if_pos (by omega), if_pos (by omega), if_pos (by omega), rd_row hb, hg, if_pos (by omega), rd_ins hm']) (Ev.bind (refthrough_ev hx (hargs _ (List.getElem_mem hm')) hs) ?_)
      exact Ev.congr (fun k => by rw [wrap_id (by omega) (by omega)]) (ih m' _ (by omega) (by omega) (thrN_lt hx hs))
  have := h (row.length - i) row.length s0 (by omega) (Nat.le_refl _) hs0
  rw [List.take_length] at this
  exact Ev.congr (fun k => by rw [if_pos (by omega), if_pos (by omega), rd_row hb, hg, wrap_id (by omega) (by omega)]) this
end
end Go.Proofs.YtebnnknijbgekaaDoor.PlainLive
namespace Go.Proofs.YtebnnknijbgekaaDoor.PlainOne
open Go Go.RowKit Go.Proofs.YtebnnknijbgekaaDoorW.PrintWords Go.Proofs.YtebnnknijbgekaaDoorW.PrintMore Go.Proofs.YtebnnknijbgekaaDoor.Q Go.Proofs.YtebnnknijbgekaaDoor.Plain Go.Proofs.YtebnnknijbgekaaDoor.PlainIr Go.Proofs.YtebnnknijbgekaaDoor.PlainName
set_option linter.unusedVariables false
set_option linter.unusedSimpArgs false

theorem lt3 {i : Nat} (h : i < 3) : i = 0 ∨ i = 1 ∨ i = 2 := by omega
section
variable (pn : ByteArray) (pp regs : Int) (bs : List (List SIns)) (op d a b : Int) (nm : ByteArray) (args : List Int)
theorem o5 (B : Bool) (hb : op = 11 ∨ (nm.toList = ([] : List UInt8) ∧ args.length = 0)) : Ev (fun k => ir_one.j5 k B op d a b nm args) (if B = true then 70 else e5 op args) := by
  refine Ev.step (f := fun _ => some _) (fun k => ?_) (Ev.now _)
  simp only [ir_one.j5]
  unfold e5
  repeat' split
  all_goals first | rfl | omega
theorem o3 (hb : op = 11 ∨ (nm.toList = ([] : List UInt8) ∧ args.length = 0)) : Ev (fun k => ir_one.l3 k (targets7 op d a b) ((targets7 op d a b).length : Int) 0 pn pp regs bs op d a b nm args) (e3 (bs.length : Int) op d a b nm args) := by
  have hl := targets_short op d a b
  unfold e3
  refine seek (fun k i => ir_one.l3 k (targets7 op d a b) ((targets7 op d a b).length : Int) (i : Int) pn pp regs bs op d a b nm args) (targets7 op d a b).length (fun i => oddReg (bs.length : Int) (rd (targets7 op d a b) (i : Int)) = true) 74 _ ?_ ?_ ?_ ?_
  · intro i hi hx
    rw [odd_iff] at hx
    refine Ev.step (f := fun _ => some 74) (fun k => ?_) (Ev.now _)
    simp only [ir_one.l3]
    rw [if_pos (by omega), if_pos (by omega), if_pos (by omega)]
    split
    · rfl
    · rw [if_pos (by omega)]
  · intro i hi hx r' hE
    rw [odd_iff] at hx
    refine Ev.step (fun k => ?_) hE
    simp only [ir_one.l3]
    rw [if_pos (by omega), if_pos (by omega), if_pos (by omega), if_neg (by omega), if_neg (by omega), wrap_nat (by omega)]
  · intro h
    rw [if_pos (any_odd.2 h)]
  · intro h
    rw [if_neg (fun x => by
      obtain ⟨i, hi, hx⟩ := any_odd.1 x
      exact h i hi hx)]
    unfold e4
    by_cases c : op = 11
    · refine Ev.step (fun k => by simp only [ir_one.l3]; rw [if_neg (by omega), if_pos c, name_eq, Option.bind_some]) ?_
      have := o5 op d a b nm args (!nameOk nm) hb
      cases hn : nameOk nm
      · rw [hn] at this
        rw [if_pos ⟨c, rfl⟩]
        exact this
      · rw [hn] at this
        rw [if_neg (by simp)]
        exact this
    · rw [if_neg (fun x => c x.1)]
      exact Ev.step (fun k => by simp only [ir_one.l3]; rw [if_neg (by omega), if_neg c]) (o5 op d a b nm args false hb)
theorem o2 (s : ByteArray) (S : Sh op s) (hb : op = 11 ∨ (nm.toList = ([] : List UInt8) ∧ args.length = 0)) : Ev (fun k => ir_one.l2 k s [d, a, b] (([d, a, b] : List Int).length : Int) 0 pn pp regs bs op d a b nm args) (e2 (bs.length : Int) op d a b nm args) := by
  have hs := S.size
  have hl : ([d, a, b] : List Int).length = 3 := rfl
  have h0 := S.n0
  have h1 := S.n1
  have h2 := S.n2
  unfold e2
  refine seek (fun k i => ir_one.l2 k s [d, a, b] (([d, a, b] : List Int).length : Int) (i : Int) pn pp regs bs op d a b nm args) 3 (fun i => bt s (i : Int) = 110 ∧ (rd [d, a, b] (i : Int) < 0 ∨ rd [d, a, b] (i : Int) ≥ 65536)) 81 _ ?_ ?_ ?_ ?_
  · rintro i hi ⟨hx, hy⟩
    refine Ev.step (f := fun _ => some 81) (fun k => ?_) (Ev.now _)
    simp only [ir_one.l2]
    rw [if_pos (by omega), if_pos (by omega), if_pos (by omega), if_pos (by omega), if_pos hx]
    split
    · rfl
    · rw [if_pos (by omega)]
  · intro i hi hx r' hE
    refine Ev.step (fun k => ?_) hE
    simp only [ir_one.l2]
    rw [if_pos (by omega), if_pos (by omega), if_pos (by omega), if_pos (by omega), wrap_nat (by omega)]
    repeat' split
    all_goals first
      | rfl
      | (exfalso; apply hx; constructor <;> first | assumption | omega)
  · rintro ⟨i, hi, hx, hy⟩
    rcases lt3 hi with rfl | rfl | rfl
    · exact absurd hx h0
    · exact if_pos ⟨h1.1 hx, hy⟩
    · exact absurd hx h2
  · intro h
    rw [if_neg (fun x => h 1 (by omega) ⟨h1.2 x.1, x.2⟩)]
    refine Ev.step (fun k => by simp only [ir_one.l2]; rw [if_neg (by omega), targets_eq, Option.bind_some]) (o3 pn pp regs bs op d a b nm args hb)
theorem o1 (s : ByteArray) (S : Sh op s) (hop : 1 ≤ op ∧ op ≤ 14) (hb : op = 11 ∨ (nm.toList = ([] : List UInt8) ∧ args.length = 0)) : Ev (fun k => ir_one.l1 k s [d, a, b] [d, a, b] (([d, a, b] : List Int).length : Int) 0 pn pp regs bs op d a b nm args) (e1 regs (bs.length : Int) op d a b nm args) := by
  have hs := S.size
  have hl : ([d, a, b] : List Int).length = 3 := rfl
  have h0 := S.b0
  have h1 := S.b1
  have h2 := S.b2
  have hargs : ¬ op = 11 → args = [] := fun h => by
    rcases hb with hb | hb
    · exact absurd hb h
    · exact List.length_eq_zero_iff.1 hb.2
  unfold e1
  have hC : ((hasD op ∧ oddReg regs d = true) ∨ (uses op a b args).any (oddReg regs) = true) ↔ ((∃ i : Nat, i < 3 ∧ bt s (i : Int) = 114 ∧ oddReg regs (rd [d, a, b] (i : Int)) = true) ∨ args.any (oddReg regs) = true) := by
    constructor
    · rintro (⟨x, y⟩ | x)
      · exact .inl ⟨0, by omega, h0.2 x, y⟩
      · by_cases c : op = 11
        · right
          unfold uses at x
          rwa [if_neg (by omega), if_neg (by omega), if_pos c] at x
        · left
          unfold uses at x
          split at x
          · simp at x
            exact ⟨1, by omega, h1.2 (by omega), x⟩
          · split at x
            · simp at x
              rcases x with x | x
              · exact ⟨1, by omega, h1.2 (by omega), x⟩
              · exact ⟨2, by omega, h2.2 (by omega), x⟩
            · exact absurd x (by simp)
    · rintro (⟨i, hi, hx, hy⟩ | x)
      · rcases lt3 hi with rfl | rfl | rfl
        · exact .inl ⟨h0.1 hx, hy⟩
        · right
          have := h1.1 hx
          have hy' : oddReg regs a = true := hy
          unfold uses
          split
          · simp [hy']
          · split
            · simp [hy']
            · omega
        · right
          have := h2.1 hx
          have hy' : oddReg regs b = true := hy
          unfold uses
          rw [if_neg (by omega), if_pos (by omega)]
          simp [hy']
      · by_cases c : op = 11
        · right
          unfold uses
          rw [if_neg (by omega), if_neg (by omega), if_pos c]
          exact x
        · rw [hargs c] at x
          exact absurd x (by simp)
  refine seek (fun k i => ir_one.l1 k s [d, a, b] [d, a, b] (([d, a, b] : List Int).length : Int) (i : Int) pn pp regs bs op d a b nm args) 3 (fun i => bt s (i : Int) = 114 ∧ oddReg regs (rd [d, a, b] (i : Int)) = true) 73 _ ?_ ?_ ?_ ?_
  · rintro i hi ⟨hx, hy⟩
    refine Ev.step (f := fun _ => some 73) (fun k => ?_) (Ev.now _)
    simp only [ir_one.l1]
    rw [if_pos (by omega), if_pos (by omega), if_pos (by omega), if_pos (by omega), if_pos hx]
    simp only [ir_one_1.f, Option.bind_some, hy, if_true]
  · intro i hi hx r' hE
    refine Ev.step (fun k => ?_) hE
    simp only [ir_one.l1]
    rw [if_pos (by omega), if_pos (by omega), if_pos (by omega), if_pos (by omega), wrap_nat (by omega)]
    by_cases c : bt s (i : Int) = 114
    · rw [if_pos c]
      simp only [ir_one_1.f, Option.bind_some]
      rw [if_neg (fun y => hx ⟨c, y⟩)]
    · rw [if_neg c]
  · rintro ⟨i, hi, hx⟩
    exact if_pos (hC.2 (.inl ⟨i, hi, hx⟩))
  · intro h
    by_cases c : args.any (oddReg regs) = true
    · rw [if_pos (hC.2 (.inr c))]
      exact Ev.step (f := fun _ => some 73) (fun k => by simp only [ir_one.l1]; rw [if_neg (by omega)]; simp only [slices_ContainsFunc_int_int.f, Option.bind_some]; rw [if_pos c]) (Ev.now _)
    · rw [if_neg (fun x => by
        rcases hC.1 x with ⟨i, hi, hy⟩ | y
        · exact h i hi hy
        · exact c y)]
      exact Ev.step (fun k => by simp only [ir_one.l1]; rw [if_neg (by omega)]; simp only [slices_ContainsFunc_int_int.f, Option.bind_some]; rw [if_neg c]) (o2 pn pp regs bs op d a b nm args s S hb)
theorem o0 (s : ByteArray) (S : Sh op s) (hop : 1 ≤ op ∧ op ≤ 14) (hb : op = 11 ∨ (nm.toList = ([] : List UInt8) ∧ args.length = 0)) : Ev (fun k => ir_one.l0 k s [d, a, b] [d, a, b] (([d, a, b] : List Int).length : Int) 0 pn pp regs bs op d a b nm args) (if bareP op d a b nm args then e1 regs (bs.length : Int) op d a b nm args else 72) := by
  have hs := S.size
  have hl : ([d, a, b] : List Int).length = 3 := rfl
  have h0 := S.f0
  have h1 := S.f1
  have h2 := S.f2
  refine seek (fun k i => ir_one.l0 k s [d, a, b] [d, a, b] (([d, a, b] : List Int).length : Int) (i : Int) pn pp regs bs op d a b nm args) 3 (fun i => bt s (i : Int) = 32 ∧ ¬ rd [d, a, b] (i : Int) = 0) 72 _ ?_ ?_ ?_ ?_
  · rintro i hi ⟨hx, hy⟩
    refine Ev.step (f := fun _ => some 72) (fun k => ?_) (Ev.now _)
    simp only [ir_one.l0]
    rw [if_pos (by omega), if_pos (by omega), if_pos (by omega), if_pos (by omega), if_pos hx, if_neg hy]
  · intro i hi hx r' hE
    refine Ev.step (fun k => ?_) hE
    simp only [ir_one.l0]
    rw [if_pos (by omega), if_pos (by omega), if_pos (by omega), if_pos (by omega), wrap_nat (by omega)]
    by_cases c : bt s (i : Int) = 32
    · rw [if_pos c, if_pos (Decidable.byContradiction fun y => hx ⟨c, y⟩)]
    · rw [if_neg c]
  · rintro ⟨i, hi, hx, hy⟩
    refine if_neg (fun hB => ?_)
    obtain ⟨_, f0, f1, f2⟩ := hB
    rcases lt3 hi with rfl | rfl | rfl
    · exact hy (f0 (h0.1 hx))
    · exact hy (f1 (h1.1 hx))
    · exact hy (f2 (h2.1 hx))
  · intro h
    rw [if_pos ⟨hb, fun x => Decidable.byContradiction fun y => h 0 (by omega) ⟨h0.2 x, y⟩, fun x => Decidable.byContradiction fun y => h 1 (by omega) ⟨h1.2 x, y⟩, fun x => Decidable.byContradiction fun y => h 2 (by omega) ⟨h2.2 x, y⟩⟩]
    exact Ev.step (fun k => by simp only [ir_one.l0]; rw [if_neg (by omega)]) (o1 pn pp regs bs op d a b nm args s S hop hb)
theorem one_ev (last : Bool) : Ev (fun k => ir_one.f k pn pp regs bs op d a b nm args last) (oneE regs (bs.length : Int) op d a b nm args last) := by
  unfold oneE
  by_cases hop : 1 ≤ op ∧ op ≤ 14
  · obtain ⟨s, hs, S⟩ := shape_some hop
    have hyes : Ev (fun k => ir_one.j0 k s true pn pp regs bs op d a b nm args) 72 := Ev.step (f := fun _ => some 72) (fun k => by simp only [ir_one.j0]; rw [if_pos trivial]) (Ev.now _)
    by_cases c2 : lastOp op = last
    · have hgo : (op = 11 ∨ (nm.toList = ([] : List UInt8) ∧ args.length = 0)) → Ev (fun k => ir_one.j0 k s false pn pp regs bs op d a b nm args) (if (1 ≤ op ∧ op ≤ 14) ∧ lastOp op = last ∧ bareP op d a b nm args then e1 regs (bs.length : Int) op d a b nm args else 72) := fun hb => by
        refine Ev.step (fun k => by simp only [ir_one.j0]; rw [if_neg Bool.false_ne_true, Option.bind_some]) ?_
        have := o0 pn pp regs bs op d a b nm args s S hop hb
        by_cases c3 : bareP op d a b nm args
        · rw [if_pos ⟨hop, c2, c3⟩]
          rw [if_pos c3] at this
          exact this
        · rw [if_neg (fun x => c3 x.2.2)]
          rw [if_neg c3] at this
          exact this
      by_cases c : op = 11
      · exact Ev.congr (fun k => by unfold ir_one.f; rw [hs, Option.bind_some, if_neg S.ne, last_eq, Option.bind_some, if_neg (by simp [c2]), if_pos c]) (hgo (.inl c))
      · by_cases c1 : nm.toList = ([] : List UInt8)
        · refine Ev.congr (fun k => by unfold ir_one.f; rw [hs, Option.bind_some, if_neg S.ne, last_eq, Option.bind_some, if_neg (by simp [c2]), if_neg c, if_pos c1]) ?_
          by_cases c4 : (args.length : Int) > 0
          · rw [decide_eq_true c4, if_neg (fun x => by have := x.2.2.1; omega)]
            exact hyes
          · rw [decide_eq_false c4]
            exact hgo (.inr ⟨c1, by omega⟩)
        · rw [if_neg (fun x => by
            rcases x.2.2.1 with y | y
            · exact c y
            · exact c1 y.1)]
          exact Ev.congr (fun k => by unfold ir_one.f; rw [hs, Option.bind_some, if_neg S.ne, last_eq, Option.bind_some, if_neg (by simp [c2]), if_neg c, if_neg c1]) hyes
    · rw [if_neg (fun x => c2 x.2.1)]
      exact Ev.congr (fun k => by unfold ir_one.f; rw [hs, Option.bind_some, if_neg S.ne, last_eq, Option.bind_some, if_pos (by simpa using c2)]) hyes
  · rw [if_neg (fun x => hop x.1)]
    refine Ev.congr (fun k => by unfold ir_one.f; rw [shape_none hop, Option.bind_some, if_pos nil_toList]) ?_
    exact Ev.step (f := fun _ => some 72) (fun k => by simp only [ir_one.j0]; rw [if_pos trivial]) (Ev.now _)
end
end Go.Proofs.YtebnnknijbgekaaDoor.PlainOne
namespace Go.Proofs.YtebnnknijbgekaaDoor.PlainHeavy
open Go Go.RowKit Go.Proofs.YtebnnknijbgekaaDoorW.PrintWords Go.Proofs.YtebnnknijbgekaaDoorW.PrintMore Go.Proofs.YtebnnknijbgekaaDoor.Q Go.Proofs.YtebnnknijbgekaaDoor.Plain
set_option linter.unusedVariables false
set_option linter.unusedSimpArgs false

theorem rdL_get {l : List (List SIns)} {j : Nat} (h : j < l.length) : rd_LIns l (j : Int) = l[j] := by
  show l.getD j [] = _
  rw [List.getD_eq_getElem?_getD, List.getElem?_eq_getElem h]
  rfl
theorem rdT_get {l : List SIns} {j : Nat} (h : j < l.length) : rd_TIns l (j : Int) = l[j] := by
  show l.getD j zIns = _
  rw [List.getD_eq_getElem?_getD, List.getElem?_eq_getElem h]
  rfl
/-- Blocks that are short enough. -/
structure FairB (x : List (List SIns)) : Prop where
  len : x.length ≤ 1000000000000000
  row : ∀ b ∈ x, b.length ≤ 1000000000000000
  ins : ∀ b ∈ x, ∀ y ∈ b, y.f5.length ≤ 17592186043904
end Go.Proofs.YtebnnknijbgekaaDoor.PlainHeavy
namespace Go.Proofs.YtebnnknijbgekaaDoor.PlainCheck
open Go Go.RowKit Go.Proofs.YtebnnknijbgekaaDoorW.PrintWords Go.Proofs.YtebnnknijbgekaaDoorW.PrintMore Go.Proofs.YtebnnknijbgekaaDoor.Q Go.Proofs.YtebnnknijbgekaaDoor.Plain Go.Proofs.YtebnnknijbgekaaDoor.PlainName Go.Proofs.YtebnnknijbgekaaDoor.PlainOne Go.Proofs.YtebnnknijbgekaaDoor.PlainHeavy
set_option linter.unusedVariables false
set_option linter.unusedSimpArgs false

def insE (regs nb : Int) (x : SIns) (last : Bool) : Int := oneE regs nb x.f0 x.f1 x.f2 x.f3 x.f4 x.f5 last
/-- A block's first error. -/
def rowE (regs nb : Int) : List SIns → Int
  | [] => 0
  | x :: xs => if insE regs nb x xs.isEmpty = 0 then rowE regs nb xs else insE regs nb x xs.isEmpty
/-- All blocks' first error. -/
def allE (regs nb : Int) : List (List SIns) → Int
  | [] => 0
  | b :: bs => if rowE regs nb b = 0 then allE regs nb bs else rowE regs nb b
def total : List (List SIns) → Nat
  | [] => 0
  | b :: bs => b.length + total bs
def fits (left : Int) (l : List (List SIns)) : Bool := decide ((∀ b ∈ l, b.length ≠ 0) ∧ (total l : Int) ≤ left)
def shapeP (params regs : Int) (bs : List (List SIns)) : Prop := 0 ≤ params ∧ params ≤ 4 ∧ params ≤ regs ∧ regs ≤ 64 ∧ 1 ≤ bs.length ∧ bs.length ≤ 32 ∧ fits 200 bs = true
instance (params regs : Int) (bs : List (List SIns)) : Decidable (shapeP params regs bs) := by unfold shapeP; infer_instance
def checkE (nm : ByteArray) (params regs : Int) (bs : List (List SIns)) : Int := if nameOk nm = true then (if shapeP params regs bs then allE regs (bs.length : Int) bs else 71) else 70

theorem fits_nil {left : Int} (h : 0 ≤ left) : fits left [] = true := by
  unfold fits
  apply decide_eq_true
  exact ⟨by simp, by unfold total; omega⟩
theorem fits_cons (left : Int) (b : List SIns) (bs : List (List SIns)) : fits left (b :: bs) = (decide (b.length ≠ 0) && fits (left - b.length) bs) := by
  unfold fits
  rw [← Bool.decide_and]
  apply decide_eq_decide.2
  simp only [List.mem_cons, forall_eq_or_imp, total]
  constructor
  · rintro ⟨⟨h1, h2⟩, h3⟩
    exact ⟨h1, h2, by omega⟩
  · rintro ⟨h1, h2, h3⟩
    exact ⟨⟨h1, h2⟩, by omega⟩
theorem fits_neg {left : Int} {bs : List (List SIns)} (h : left < 0) : fits left bs = false := by
  unfold fits
  apply decide_eq_false
  rintro ⟨_, h2⟩
  omega
theorem last_eq' {b : List SIns} {j : Nat} (hj : j < b.length) (hl : b.length ≤ 4611686018427387904) : ((j : Int) == wrap64 ((b.length : Int) - 1)) = (b.drop (j + 1)).isEmpty := by
  rw [wrap_pred (by omega) hl]
  by_cases c : j + 1 = b.length
  · rw [List.drop_eq_nil_of_le (by omega)]
    simp
    omega
  · have : b.drop (j + 1) ≠ [] := fun h => by
      have := congrArg List.length h
      rw [List.length_drop] at this
      simp at this
      omega
    rw [List.isEmpty_eq_false_iff.2 this]
    simp
    omega

/-! ### the reference -/
section
variable (pn : ByteArray) (pp rg : Int) (bs : List (List SIns)) (hF : FairB bs)
include hF
theorem refshape_loop : ∀ (d i : Nat), bs.length - i = d → i ≤ bs.length → ∀ s : Int, 0 ≤ s → s ≤ 1000 * i → Ev (fun k => cubbyref07_Shape.l0 k bs s (i : Int)) (fits (200 - s) (bs.drop i)) := by
  have hlen := hF.len
  intro d
  induction d with
  | zero =>
    intro i hd hi s h0 hs
    rw [List.drop_eq_nil_of_le (by omega)]
    refine Ev.step (f := fun _ => some _) (fun k => by simp only [cubbyref07_Shape.l0]; rw [if_neg (by omega)]) ?_
    have : fits (200 - s) [] = decide (s ≤ 200) := by
      unfold fits total
      apply decide_eq_decide.2
      constructor
      · rintro ⟨_, h⟩
        omega
      · intro h
        exact ⟨by simp, by omega⟩
    rw [this]
    exact Ev.now _
  | succ d ih =>
    intro i hd hi s h0 hs
    have hlt : i < bs.length := by omega
    have hr := hF.row _ (List.getElem_mem hlt)
    rw [drop_cons hlt, fits_cons]
    by_cases c : ((bs[i]).length : Int) = 0
    · rw [decide_eq_false (by omega), Bool.false_and]
      exact Ev.step (f := fun _ => some false) (fun k => by simp only [cubbyref07_Shape.l0]; rw [if_pos (by omega), if_pos (by omega), rdL_get hlt, if_pos c]) (Ev.now _)
    · by_cases c1 : ((bs[i]).length : Int) > 200
      · rw [fits_neg (by omega), Bool.and_false]
        exact Ev.step (f := fun _ => some false) (fun k => by simp only [cubbyref07_Shape.l0]; rw [if_pos (by omega), if_pos (by omega), rdL_get hlt, if_neg c, if_pos c1]) (Ev.now _)
      · rw [decide_eq_true (by omega), Bool.true_and]
        have := ih (i + 1) (by omega) (by omega) (s + (bs[i]).length) (by omega) (by omega)
        rw [show 200 - s - ((bs[i]).length : Int) = 200 - (s + (bs[i]).length) by omega]
        refine Ev.step (fun k => ?_) this
        simp only [cubbyref07_Shape.l0]
        rw [if_pos (by omega), if_pos (by omega), rdL_get hlt, if_neg c, if_neg c1, wrap_nat (by omega), wrap_id (by omega) (by omega)]
theorem refshape_ev : Ev (fun k => cubbyref07_Shape.f k pp rg bs) (decide (shapeP pp rg bs)) := by
  have hyes : ¬ shapeP pp rg bs → Ev (fun k => cubbyref07_Shape.j0 k bs true) (decide (shapeP pp rg bs)) := fun h => by
    rw [decide_eq_false h]
    exact Ev.step (f := fun _ => some false) (fun k => by simp only [cubbyref07_Shape.j0]; rw [if_pos trivial]) (Ev.now _)
  by_cases c0 : pp < 0
  · exact Ev.congr (fun k => by unfold cubbyref07_Shape.f; rw [if_pos c0]) (hyes (fun h => by have := h.1; omega))
  by_cases c1 : pp > 4
  · exact Ev.congr (fun k => by unfold cubbyref07_Shape.f; rw [if_neg c0, if_pos c1]) (hyes (fun h => by have := h.2.1; omega))
  by_cases c2 : rg < pp
  · exact Ev.congr (fun k => by unfold cubbyref07_Shape.f; rw [if_neg c0, if_neg c1, if_pos c2]) (hyes (fun h => by have := h.2.2.1; omega))
  by_cases c3 : rg > 64
  · exact Ev.congr (fun k => by unfold cubbyref07_Shape.f; rw [if_neg c0, if_neg c1, if_neg c2, if_pos c3]) (hyes (fun h => by have := h.2.2.2.1; omega))
  by_cases c4 : (bs.length : Int) < 1
  · exact Ev.congr (fun k => by unfold cubbyref07_Shape.f; rw [if_neg c0, if_neg c1, if_neg c2, if_neg c3, if_pos c4]) (hyes (fun h => by have := h.2.2.2.2.1; omega))
  refine Ev.congr (fun k => by unfold cubbyref07_Shape.f; rw [if_neg c0, if_neg c1, if_neg c2, if_neg c3, if_neg c4]) ?_
  by_cases c5 : (bs.length : Int) > 32
  · rw [decide_eq_true c5]
    exact hyes (fun h => by have := h.2.2.2.2.2.1; omega)
  · rw [decide_eq_false c5]
    have := refshape_loop bs hF bs.length 0 (by omega) (by omega) 0 (by omega) (by omega)
    have e : fits (200 - 0) (bs.drop 0) = decide (shapeP pp rg bs) := by
      rw [List.drop_zero]
      unfold shapeP
      cases hf : fits (200 - 0) bs
      · symm
        apply decide_eq_false
        rintro ⟨_, _, _, _, _, _, h⟩
        rw [show (200 : Int) - 0 = 200 by omega, h] at hf
        exact absurd hf (by simp)
      · symm
        apply decide_eq_true
        exact ⟨by omega, by omega, by omega, by omega, by omega, by omega, hf⟩
    rw [← e]
    refine Ev.step (fun k => by simp only [cubbyref07_Shape.j0]; rw [if_neg Bool.false_ne_true]; rfl) this
theorem refcheck_row (i : Nat) (hi : i < bs.length) (R : Int) (h : Ev (fun k => cubbyref07_Check.l0 k ((i + 1 : Nat) : Int) pn pp rg bs) R) : ∀ (d j : Nat), bs[i].length - j = d → j ≤ bs[i].length → Ev (fun k => cubbyref07_Check.l1 k (i : Int) (j : Int) pn pp rg bs) (if rowE rg (bs.length : Int) (bs[i].drop j) = 0 then R else rowE rg (bs.length : Int) (bs[i].drop j)) := by
  have hlen := hF.len
  have hr := hF.row _ (List.getElem_mem hi)
  have hg := rdL_get hi
  intro d
  induction d with
  | zero =>
    intro j hd hj
    rw [List.drop_eq_nil_of_le (by omega)]
    unfold rowE
    rw [if_pos rfl]
    exact Ev.step (fun k => by simp only [cubbyref07_Check.l1]; rw [if_pos (by omega), if_pos (by omega), hg, if_neg (by omega), wrap_nat (by omega)]) h
  | succ d ih =>
    intro j hd hj
    have hlt : j < bs[i].length := by omega
    have hx := hF.ins _ (List.getElem_mem hi) _ (List.getElem_mem hlt)
    rw [drop_cons hlt]
    unfold rowE
    have h1 := refone_ev bs[i][j].f0 bs[i][j].f1 bs[i][j].f2 bs[i][j].f3 bs[i][j].f4 bs[i][j].f5 (by omega) rg (bs.length : Int) (bs[i].drop (j + 1)).isEmpty
    refine Ev.step (fun k => by simp only [cubbyref07_Check.l1]; rw [if_pos (by omega), if_pos (by omega), hg, if_pos (by omega), if_pos (by omega), rdT_get hlt, last_eq' hlt (by omega)]) (Ev.bind h1 ?_)
    show Ev (fun n => if insE rg (bs.length : Int) bs[i][j] (bs[i].drop (j + 1)).isEmpty = 0 then _ else some (insE rg (bs.length : Int) bs[i][j] (bs[i].drop (j + 1)).isEmpty)) _
    by_cases c : insE rg (bs.length : Int) bs[i][j] (bs[i].drop (j + 1)).isEmpty = 0
    · rw [if_pos c]
      exact Ev.congr (fun k => by rw [if_pos c, wrap_nat (by omega)]) (ih (j + 1) (by omega) (by omega))
    · rw [if_neg c, if_neg c]
      exact Ev.congr (f := fun _ => some _) (fun k => by rw [if_neg c]) (Ev.now _)
theorem refcheck_all : ∀ (d i : Nat), bs.length - i = d → i ≤ bs.length → Ev (fun k => cubbyref07_Check.l0 k (i : Int) pn pp rg bs) (allE rg (bs.length : Int) (bs.drop i)) := by
  intro d
  induction d with
  | zero =>
    intro i hd hi
    rw [List.drop_eq_nil_of_le (by omega)]
    exact Ev.step (f := fun _ => some 0) (fun k => by simp only [cubbyref07_Check.l0]; rw [if_neg (by omega)]) (Ev.now _)
  | succ d ih =>
    intro i hd hi
    have hlt : i < bs.length := by omega
    rw [drop_cons hlt]
    unfold allE
    refine Ev.step (fun k => by simp only [cubbyref07_Check.l0]; rw [if_pos (by omega)]) ?_
    have := refcheck_row pn pp rg bs hF i hlt _ (ih (i + 1) (by omega) (by omega)) bs[i].length 0 (by omega) (by omega)
    rw [List.drop_zero] at this
    exact this
theorem refcheck_ev : Ev (fun k => cubbyref07_Check.f k pn pp rg bs) (checkE pn pp rg bs) := by
  unfold checkE
  refine Ev.bind (refname_ev pn) ?_
  cases nameOk pn
  · exact Ev.congr (f := fun _ => some 70) (fun k => by rw [if_neg Bool.false_ne_true]) (Ev.now _)
  · refine Ev.congr (fun k => by rw [if_pos rfl]) (Ev.bind (refshape_ev pp rg bs hF) ?_)
    rw [if_pos rfl]
    by_cases c : shapeP pp rg bs
    · rw [if_pos c, decide_eq_true c]
      have := refcheck_all pn pp rg bs hF bs.length 0 (by omega) (by omega)
      exact Ev.congr (fun k => by rw [if_pos rfl]; rfl) this
    · rw [if_neg c, decide_eq_false c]
      exact Ev.congr (f := fun _ => some 71) (fun k => by rw [if_neg Bool.false_ne_true]) (Ev.now _)

/-! ### ir.Check -/
theorem check_row (i : Nat) (hi : i < bs.length) (R : Int) (h : Ev (fun k => ir_Check.l1 k bs (bs.length : Int) ((i + 1 : Nat) : Int) pn pp rg bs) R) : ∀ (d j : Nat), bs[i].length - j = d → j ≤ bs[i].length → Ev (fun k => ir_Check.l2 k bs[i] bs (bs.length : Int) (i : Int) bs[i] (bs[i].length : Int) (j : Int) pn pp rg bs) (if rowE rg (bs.length : Int) (bs[i].drop j) = 0 then R else rowE rg (bs.length : Int) (bs[i].drop j)) := by
  have hlen := hF.len
  have hr := hF.row _ (List.getElem_mem hi)
  intro d
  induction d with
  | zero =>
    intro j hd hj
    rw [List.drop_eq_nil_of_le (by omega)]
    unfold rowE
    rw [if_pos rfl]
    exact Ev.step (fun k => by simp only [ir_Check.l2]; rw [if_neg (by omega), wrap_nat (by omega)]) h
  | succ d ih =>
    intro j hd hj
    have hlt : j < bs[i].length := by omega
    have hx := hF.ins _ (List.getElem_mem hi) _ (List.getElem_mem hlt)
    rw [drop_cons hlt]
    unfold rowE
    have h1 := one_ev pn pp rg bs bs[i][j].f0 bs[i][j].f1 bs[i][j].f2 bs[i][j].f3 bs[i][j].f4 bs[i][j].f5 (bs[i].drop (j + 1)).isEmpty
    refine Ev.step (fun k => by simp only [ir_Check.l2]; rw [if_pos (by omega), if_pos (by omega), if_pos (by omega), rdT_get hlt, last_eq' hlt (by omega)]) (Ev.bind h1 ?_)
    show Ev (fun n => if insE rg (bs.length : Int) bs[i][j] (bs[i].drop (j + 1)).isEmpty = 0 then _ else some (insE rg (bs.length : Int) bs[i][j] (bs[i].drop (j + 1)).isEmpty)) _
    by_cases c : insE rg (bs.length : Int) bs[i][j] (bs[i].drop (j + 1)).isEmpty = 0
    · rw [if_pos c]
      exact Ev.congr (fun k => by rw [if_pos c, wrap_nat (by omega)]) (ih (j + 1) (by omega) (by omega))
    · rw [if_neg c, if_neg c]
      exact Ev.congr (f := fun _ => some _) (fun k => by rw [if_neg c]) (Ev.now _)
theorem check_all : ∀ (d i : Nat), bs.length - i = d → i ≤ bs.length → Ev (fun k => ir_Check.l1 k bs (bs.length : Int) (i : Int) pn pp rg bs) (allE rg (bs.length : Int) (bs.drop i)) := by
  intro d
  induction d with
  | zero =>
    intro i hd hi
    rw [List.drop_eq_nil_of_le (by omega)]
    exact Ev.step (f := fun _ => some 0) (fun k => by simp only [ir_Check.l1]; rw [if_neg (by omega)]) (Ev.now _)
  | succ d ih =>
    intro i hd hi
    have hlt : i < bs.length := by omega
    rw [drop_cons hlt]
    unfold allE
    refine Ev.step (fun k => by simp only [ir_Check.l1]; rw [if_pos (by omega), if_pos (by omega), if_pos (by omega), rdL_get hlt]) ?_
    have := check_row pn pp rg bs hF i hlt _ (ih (i + 1) (by omega) (by omega)) bs[i].length 0 (by omega) (by omega)
    rw [List.drop_zero] at this
    exact this
theorem check_fits : ∀ (d i : Nat), bs.length - i = d → i ≤ bs.length → ∀ left : Int, 0 ≤ left → left ≤ 200 → Ev (fun k => ir_Check.l0 k left bs (bs.length : Int) (i : Int) pn pp rg bs) (if fits left (bs.drop i) = true then allE rg (bs.length : Int) bs else 71) := by
  have hlen := hF.len
  intro d
  induction d with
  | zero =>
    intro i hd hi left h0 h1
    rw [List.drop_eq_nil_of_le (by omega), fits_nil h0, if_pos rfl]
    have := check_all pn pp rg bs hF bs.length 0 (by omega) (by omega)
    exact Ev.step (fun k => by simp only [ir_Check.l0]; rw [if_neg (by omega)]; rfl) this
  | succ d ih =>
    intro i hd hi left h0 h1
    have hlt : i < bs.length := by omega
    rw [drop_cons hlt, fits_cons]
    by_cases c : ((bs[i]).length : Int) = 0
    · rw [decide_eq_false (by omega), Bool.false_and, if_neg Bool.false_ne_true]
      exact Ev.step (f := fun _ => some 71) (fun k => by simp only [ir_Check.l0]; rw [if_pos (by omega), if_pos (by omega), if_pos (by omega), rdL_get hlt, if_pos c]) (Ev.now _)
    · by_cases c1 : ((bs[i]).length : Int) > left
      · rw [fits_neg (by omega), Bool.and_false, if_neg Bool.false_ne_true]
        exact Ev.step (f := fun _ => some 71) (fun k => by simp only [ir_Check.l0]; rw [if_pos (by omega), if_pos (by omega), if_pos (by omega), rdL_get hlt, if_neg c, if_pos c1]) (Ev.now _)
      · rw [decide_eq_true (by omega), Bool.true_and]
        refine Ev.step (fun k => ?_) (ih (i + 1) (by omega) (by omega) (left - (bs[i]).length) (by omega) (by omega))
        simp only [ir_Check.l0]
        rw [if_pos (by omega), if_pos (by omega), if_pos (by omega), rdL_get hlt, if_neg c, if_neg c1, wrap_nat (by omega), wrap_id (by omega) (by omega)]
theorem check_ev : Ev (fun k => ir_Check.f k pn pp rg bs) (checkE pn pp rg bs) := by
  unfold checkE
  cases hn : nameOk pn
  · exact Ev.congr (f := fun _ => some 70) (fun k => by unfold ir_Check.f; rw [name_eq, Option.bind_some, hn, if_neg Bool.false_ne_true]) (Ev.now _)
  · rw [if_pos rfl]
    refine Ev.congr (fun k => by unfold ir_Check.f; rw [name_eq, Option.bind_some, hn, if_pos rfl]) ?_
    have hyes : ¬ shapeP pp rg bs → Ev (fun k => ir_Check.j0 k true pn pp rg bs) (if shapeP pp rg bs then allE rg (bs.length : Int) bs else 71) := fun h => by
      rw [if_neg h]
      exact Ev.step (f := fun _ => some 71) (fun k => by simp only [ir_Check.j0]; rw [if_pos trivial]) (Ev.now _)
    by_cases c0 : pp < 0
    · exact Ev.congr (fun k => by rw [if_pos c0]) (hyes (fun h => by have := h.1; omega))
    by_cases c1 : pp > 4
    · exact Ev.congr (fun k => by rw [if_neg c0, if_pos c1]) (hyes (fun h => by have := h.2.1; omega))
    by_cases c2 : rg < pp
    · exact Ev.congr (fun k => by rw [if_neg c0, if_neg c1, if_pos c2]) (hyes (fun h => by have := h.2.2.1; omega))
    by_cases c3 : rg > 64
    · exact Ev.congr (fun k => by rw [if_neg c0, if_neg c1, if_neg c2, if_pos c3]) (hyes (fun h => by have := h.2.2.2.1; omega))
    by_cases c4 : (bs.length : Int) < 1
    · exact Ev.congr (fun k => by rw [if_neg c0, if_neg c1, if_neg c2, if_neg c3, if_pos c4]) (hyes (fun h => by have := h.2.2.2.2.1; omega))
    refine Ev.congr (fun k => by rw [if_neg c0, if_neg c1, if_neg c2, if_neg c3, if_neg c4]) ?_
    by_cases c5 : (bs.length : Int) > 32
    · rw [decide_eq_true c5]
      exact hyes (fun h => by have := h.2.2.2.2.2.1; omega)
    · rw [decide_eq_false c5]
      have := check_fits pn pp rg bs hF bs.length 0 (by omega) (by omega) 200 (by omega) (by omega)
      rw [List.drop_zero] at this
      refine Ev.step (f := fun k => ir_Check.l0 k 200 bs (bs.length : Int) ((0 : Nat) : Int) pn pp rg bs) (fun k => by simp only [ir_Check.j0]; rw [if_neg Bool.false_ne_true]; rfl) ?_
      by_cases hf : fits 200 bs = true
      · rw [if_pos hf] at this
        rw [if_pos ⟨by omega, by omega, by omega, by omega, by omega, by omega, hf⟩]
        exact this
      · rw [if_neg hf] at this
        rw [if_neg (fun h => hf h.2.2.2.2.2.2)]
        exact this
end
end Go.Proofs.YtebnnknijbgekaaDoor.PlainCheck
namespace Go.Proofs.YtebnnknijbgekaaDoor.PlainCheck
open Go Go.RowKit Go.Proofs.YtebnnknijbgekaaDoorW.PrintWords Go.Proofs.YtebnnknijbgekaaDoorW.PrintMore Go.Proofs.YtebnnknijbgekaaDoor.Q Go.Proofs.YtebnnknijbgekaaDoor.Plain Go.Proofs.YtebnnknijbgekaaDoor.PlainIr Go.Proofs.YtebnnknijbgekaaDoor.PlainName Go.Proofs.YtebnnknijbgekaaDoor.PlainOne Go.Proofs.YtebnnknijbgekaaDoor.PlainHeavy
set_option linter.unusedVariables false

theorem allE_zero {rg nb : Int} : ∀ {bs : List (List SIns)}, allE rg nb bs = 0 → ∀ b ∈ bs, rowE rg nb b = 0
  | [], _ => by simp
  | c :: bs, h => by
    unfold allE at h
    split at h
    · next h1 =>
      intro b hb
      rcases List.mem_cons.1 hb with rfl | hb
      · exact h1
      · exact allE_zero h b hb
    · next h1 => exact absurd h h1
theorem rowE_zero {rg nb : Int} : ∀ {b : List SIns}, rowE rg nb b = 0 → ∀ (j : Nat) (h : j < b.length), insE rg nb b[j] (b.drop (j + 1)).isEmpty = 0
  | [], _ => by
    intro j h
    exact absurd h (by simp)
  | x :: xs, h => by
    unfold rowE at h
    split at h
    · next h1 =>
      intro j hj
      cases j with
      | zero => exact h1
      | succ j => exact rowE_zero h j (by simpa using hj)
    · next h1 => exact absurd h h1
/-- What holds of an instruction that may be. -/
structure InsOk (rg nb : Int) (x : SIns) (last : Bool) : Prop where
  op : 1 ≤ x.f0 ∧ x.f0 ≤ 14
  last : lastOp x.f0 = last
  bare : bareP x.f0 x.f1 x.f2 x.f3 x.f4 x.f5
  def_ : hasD x.f0 → 0 ≤ x.f1 ∧ x.f1 < rg
  use : ∀ n ∈ uses x.f0 x.f2 x.f3 x.f5, 0 ≤ n ∧ n < rg
  num : x.f0 = 1 → 0 ≤ x.f2 ∧ x.f2 < 65536
  goal : ∀ n ∈ targets7 x.f0 x.f1 x.f2 x.f3, 0 ≤ n ∧ n < nb
  name : x.f0 = 11 → nameOk x.f4 = true ∧ x.f5.length ≤ 4
theorem not_any {m : Int} {l : List Int} (h : ¬ l.any (oddReg m) = true) : ∀ n ∈ l, 0 ≤ n ∧ n < m := by
  intro n hn
  have : ¬ oddReg m n = true := fun hx => h (List.any_eq_true.2 ⟨n, hn, hx⟩)
  rw [odd_iff] at this
  omega
theorem insE_zero {rg nb : Int} {x : SIns} {last : Bool} (h : insE rg nb x last = 0) : InsOk rg nb x last := by
  unfold insE oneE at h
  split at h
  · next h0 =>
    unfold e1 at h
    split at h
    · exact absurd h (by decide)
    · next h1 =>
      unfold e2 at h
      split at h
      · exact absurd h (by decide)
      · next h2 =>
        unfold e3 at h
        split at h
        · exact absurd h (by decide)
        · next h3 =>
          unfold e4 at h
          split at h
          · exact absurd h (by decide)
          · next h4 =>
            unfold e5 at h
            split at h
            · exact absurd h (by decide)
            · next h5 =>
              refine ⟨h0.1, h0.2.1, h0.2.2, ?_, not_any (fun y => h1 (.inr y)), ?_, not_any h3, ?_⟩
              · intro hd
                have : ¬ oddReg rg x.f1 = true := fun y => h1 (.inl ⟨hd, y⟩)
                rw [odd_iff] at this
                omega
              · intro h6
                omega
              · intro h6
                refine ⟨?_, by omega⟩
                cases hn : nameOk x.f4
                · exact absurd ⟨h6, hn⟩ h4
                · rfl
  · exact absurd h (by decide)
/-- A function that may be. -/
structure FuncOk (nm : ByteArray) (params regs : Int) (bs : List (List SIns)) : Prop where
  name : nameOk nm = true
  shape : shapeP params regs bs
  row : ∀ b ∈ bs, b.length ≠ 0
  tot : total bs ≤ 200
  ins : ∀ b ∈ bs, ∀ (j : Nat) (h : j < b.length), InsOk regs (bs.length : Int) b[j] (b.drop (j + 1)).isEmpty
theorem checkE_zero {nm : ByteArray} {params regs : Int} {bs : List (List SIns)} (h : checkE nm params regs bs = 0) : FuncOk nm params regs bs := by
  unfold checkE at h
  split at h
  · next h0 =>
    split at h
    · next h1 =>
      have hf := of_decide_eq_true h1.2.2.2.2.2.2
      exact ⟨h0, h1, hf.1, by have := hf.2; omega, fun b hb j hj => insE_zero (rowE_zero (allE_zero h b hb) j hj)⟩
    · exact absurd h (by decide)
  · exact absurd h (by decide)
end Go.Proofs.YtebnnknijbgekaaDoor.PlainCheck
namespace Go.Proofs.YtebnnknijbgekaaDoor.PlainLive
open Go Go.RowKit Go.Proofs.YtebnnknijbgekaaDoorW.PrintWords Go.Proofs.YtebnnknijbgekaaDoorW.PrintMore Go.Proofs.YtebnnknijbgekaaDoor.Q Go.Proofs.YtebnnknijbgekaaDoor.Plain Go.Proofs.YtebnnknijbgekaaDoor.PlainIr Go.Proofs.YtebnnknijbgekaaDoor.PlainBits Go.Proofs.YtebnnknijbgekaaDoor.PlainFix Go.Proofs.YtebnnknijbgekaaDoor.PlainSuccs Go.Proofs.YtebnnknijbgekaaDoor.PlainOne Go.Proofs.YtebnnknijbgekaaDoor.PlainHeavy Go.Proofs.YtebnnknijbgekaaDoor.PlainCheck
set_option linter.unusedVariables false
set_option linter.unusedSimpArgs false

theorem with_eq {s : Nat} {n : Int} (h0 : 0 ≤ n) (h : n < 64) (hs : s < 2 ^ 64) : live_set_with.f (s : Int) n = some ((withB s n.toNat : Nat) : Int) := by
  unfold live_set_with.f
  rw [if_pos (wrap_nonneg n)]
  have := bits_with (s := s) (r := n.toNat) (by omega) hs
  rw [show ((n.toNat : Nat) : Int) = n by omega] at this
  rw [this]
theorem without_eq {s : Nat} {n : Int} (h0 : 0 ≤ n) (h : n < 64) (hs : s < 2 ^ 64) : live_set_without.f (s : Int) n = some ((withoutB s n.toNat : Nat) : Int) := by
  unfold live_set_without.f
  rw [if_pos (wrap_nonneg n)]
  have := bits_without (s := s) (r := n.toNat) (by omega) hs
  rw [show ((n.toNat : Nat) : Int) = n by omega] at this
  rw [this]
theorem each_ev {R : Nat} (hR : R ≤ 64) (l : List Int) (hl : l.length ≤ 4611686018427387904) (hm : ∀ n ∈ l, 0 ≤ n ∧ n < R) {s : Nat} (hs : s < 2 ^ R) (B : Bool) : Ev (fun k => live_set_each.f k (s : Int) l B) ((l.foldl (fun s n => withB s n.toNat) s : Nat) : Int) := by
  have h : ∀ (d j s : Nat), j + d = l.length → s < 2 ^ R → Ev (fun k => live_set_each.l0 k (s : Int) l (l.length : Int) (j : Int)) (((l.drop j).foldl (fun s n => withB s n.toNat) s : Nat) : Int) := by
    intro d
    induction d with
    | zero =>
      intro j s hj hs
      rw [List.drop_eq_nil_of_le (by omega)]
      exact Ev.step (f := fun _ => some (s : Int)) (fun k => by simp only [live_set_each.l0]; rw [if_neg (by omega)]) (Ev.now _)
    | succ d ih =>
      intro j s hj hs
      have hjl : j < l.length := by omega
      have h1 := hm _ (List.getElem_mem hjl)
      rw [drop_cons hjl, List.foldl_cons]
      refine Ev.step (fun k => ?_) (ih (j + 1) (withB s (l[j]).toNat) (by omega) (withB_lt (by omega) hs))
      simp only [live_set_each.l0]
      rw [if_pos (by omega), if_pos (by omega), if_pos (by omega), rd_get hjl, with_eq h1.1 (by omega) (lt64 hR hs), Option.bind_some, wrap_nat (by omega)]
  have := h l.length 0 s (by omega) hs
  rw [List.drop_zero] at this
  exact this
theorem through_ev {R : Nat} {x : SIns} (O : RegsOk R x) (hx : x.f5.length ≤ 17592186043904) {s : Nat} (hs : s < 2 ^ R) : Ev (fun k => live_through.f k x.f0 x.f1 x.f2 x.f3 x.f4 x.f5 (s : Int)) ((thrN x s : Nat) : Int) := by
  have hd := O.def_
  have hR := O.le
  unfold thrN
  by_cases c : 0 ≤ defOf x.f0 x.f1
  · rw [if_pos c]
    refine Ev.congr (fun k => by unfold live_through.f; rw [def_eq, Option.bind_some, if_pos c, without_eq c (by omega) (lt64 hR hs), Option.bind_some]) (Ev.bind (uses_ev x.f0 x.f1 x.f2 x.f3 x.f4 x.f5 (by omega)) ?_)
    exact Ev.bind (each_ev hR _ (uses_short (by omega)) O.use (withoutB_lt hs) false) (Ev.now _)
  · rw [if_neg c]
    refine Ev.congr (fun k => by unfold live_through.f; rw [def_eq, Option.bind_some, if_neg c]) (Ev.bind (uses_ev x.f0 x.f1 x.f2 x.f3 x.f4 x.f5 (by omega)) ?_)
    exact Ev.bind (each_ev hR _ (uses_short (by omega)) O.use hs false) (Ev.now _)
/-- Masks as the program's numbers. -/
def toI (inn : List Nat) : List Int := inn.map (fun n : Nat => (n : Int))
theorem toI_len (inn : List Nat) : (toI inn).length = inn.length := by
  unfold toI
  rw [List.length_map]
theorem rd_toI {inn : List Nat} {b : Int} : rd (toI inn) b = ((at_ inn b.toNat : Nat) : Int) := by
  show (toI inn).getD b.toNat 0 = _
  unfold at_ toI
  rw [List.getD_eq_getElem?_getD, List.getD_eq_getElem?_getD, List.getElem?_map]
  cases inn[b.toNat]? <;> rfl
section
variable (pn : ByteArray) (pp : Int) {R : Nat} {bs : List (List SIns)} (O : BlocksOk R bs) {inn : List Nat} (hlen : inn.length = bs.length) (hlt : ∀ b, at_ inn b < 2 ^ R)
include O hlen hlt
theorem ahead_ev {b i : Nat} (hb : b < bs.length) (hi : i ≤ (bs.getD b []).length) : Ev (fun k => live_ahead.f k pn pp (R : Int) bs (toI inn) (b : Int) (i : Int)) ((aheadN bs inn b i : Nat) : Int) := by
  have hbl := O.len
  have hR := O.le
  have hrow := getD_get hb
  have hr := O.row _ (List.getElem_mem hb)
  have hregs := O.regs _ (List.getElem_mem hb)
  have hargs := O.args _ (List.getElem_mem hb)
  rw [← hrow] at hr hregs hargs
  have h1 : ∀ (d m s : Nat), i + d = m → m ≤ (bs.getD b []).length → s < 2 ^ R → Ev (fun k => live_ahead.l1 k (b : Int) (i : Int) (s : Int) ((m : Int) - 1) pn pp (R : Int) bs) (((((bs.getD b []).take m).drop i).foldr thrN s : Nat) : Int) := by
    generalize hg : bs.getD b [] = row at *
    intro d
    induction d with
    | zero =>
      intro m s hm hml hs
      rw [List.drop_eq_nil_of_le (by rw [List.length_take]; omega)]
      exact Ev.step (f := fun _ => some (s : Int)) (fun k => by simp only [live_ahead.l1]; rw [if_neg (by omega)]) (Ev.now _)
    | succ d ih =>
      intro m s hm hml hs
      obtain ⟨m', rfl⟩ : ∃ m', m = m' + 1 := ⟨m - 1, by omega⟩
      have hm' : m' < row.length := by omega
      rw [row_fold (by omega) hm']
      have hx := hregs _ (List.getElem_mem hm')
      rw [show (((m' + 1 : Nat) : Int) - 1) = (m' : Int) by omega]
      refine Ev.step (fun k => by simp only [live_ahead.l1]; rw [if_pos (by omega), if_pos (by omega), if_pos (by omega), if_pos (by omega), rd_row hb, hg, if_pos (by omega), rd_ins hm']) (Ev.bind (through_ev hx (hargs _ (List.getElem_mem hm')) hs) ?_)
      exact Ev.congr (fun k => by rw [wrap_id (by omega) (by omega)]) (ih m' _ (by omega) (by omega) (thrN_lt hx hs))
  have hm := succs_mem bs (b : Int)
  have hl := succs_len bs (b : Int)
  refine Ev.bind (succs_ev bs (b : Int) O.small) ?_
  unfold aheadN orN
  generalize succs bs (b : Int) = l at *
  have h : ∀ (d j s : Nat), j + d = l.length → s < 2 ^ R → Ev (fun k => live_ahead.l0 k (toI inn) (b : Int) (i : Int) (s : Int) l (l.length : Int) (j : Int) pn pp (R : Int) bs) ((((bs.getD b []).drop i).foldr thrN ((l.drop j).foldl (fun s k => s ||| at_ inn k.toNat) s) : Nat) : Int) := by
    intro d
    induction d with
    | zero =>
      intro j s hj hs
      rw [List.drop_eq_nil_of_le (by omega : l.length ≤ j)]
      have := h1 ((bs.getD b []).length - i) (bs.getD b []).length s (by omega) (Nat.le_refl _) hs
      rw [List.take_length] at this
      exact Ev.step (fun k => by simp only [live_ahead.l0]; rw [if_neg (by omega), if_pos (by omega), if_pos (by omega), rd_row hb, wrap_id (by omega) (by omega)]) this
    | succ d ih =>
      intro j s hj hs
      have hjl : j < l.length := by omega
      have h2 := hm _ (List.getElem_mem hjl)
      rw [drop_cons hjl, List.foldl_cons]
      have h3 := hlt (l[j]).toNat
      have h4 := lt64 hR h3
      have h5 := lt64 hR hs
      refine Ev.step (fun k => ?_) (ih (j + 1) _ (by omega) (Nat.or_lt_two_pow hs h3))
      simp only [live_ahead.l0]
      rw [if_pos (by omega), if_pos (by omega), if_pos (by omega), rd_get hjl, if_pos (by omega), if_pos (by rw [toI_len]; omega), rd_toI, u64_or_nat _ _ (by omega) (by omega), wrap_nat (by omega)]
  exact h l.length 0 0 (by omega) (Nat.pos_of_ne_zero (by simp))
end
theorem toI_set (y : List Nat) (b v : Nat) : (toI y).set b (v : Int) = toI (y.set b v) := by
  unfold toI
  rw [List.map_set]
theorem toI_zero (n : Nat) : List.replicate n (0 : Int) = toI (List.replicate n 0) := by
  unfold toI
  rw [List.map_replicate]
  rfl
/-- A list on the way that is solved. -/
structure Sol (R : Nat) (bs : List (List SIns)) (z : List Nat) : Prop where
  on : On bs.length R (fun x b => aheadN bs x b 0) z
  eq : ∀ b, b < bs.length → aheadN bs z b 0 = at_ z b
theorem Sol.one {R : Nat} {bs : List (List SIns)} {y z : List Nat} (hy : Sol R bs y) (hz : Sol R bs z) : y = z := on_eq hy.on hz.on hy.eq hz.eq
section
variable (pn : ByteArray) (pp : Int) {R : Nat} {bs : List (List SIns)} (O : BlocksOk R bs)
include O
theorem sets_ev : ∃ z, Sol R bs z ∧ Ev (fun k => live_sets.f k pn pp (R : Int) bs) (toI z) := by
  have hbl := O.len
  have E := aheadN_eqs bs R O.regs
  have main : ∀ (d : Nat) (y : List Nat), On bs.length R (fun x b => aheadN bs x b 0) y → bs.length * R + 1 ≤ card R y + d → ∃ z, Sol R bs z ∧ Ev (fun k => live_sets.l0 k (toI y) true pn pp (R : Int) bs) (toI z) := by
    intro d
    induction d with
    | zero =>
      intro y hy hc
      have h1 := card_le R y
      rw [hy.len] at h1
      omega
    | succ d ih =>
      intro y0 hy0 hc
      have row : ∀ (b : Nat), b ≤ bs.length → ∀ (y : List Nat) (again : Bool), On bs.length R (fun x b => aheadN bs x b 0) y → LE y0 y → (again = false → y = y0 ∧ ∀ c, b ≤ c → c < bs.length → aheadN bs y0 c 0 = at_ y0 c) → (again = true → card R y0 < card R y) → ∃ z, Sol R bs z ∧ Ev (fun k => live_sets.l1 k (toI y) again ((b : Int) - 1) pn pp (R : Int) bs) (toI z) := by
        intro b
        induction b with
        | zero =>
          intro _ y again hy hle hf ht
          cases again
          · obtain ⟨rfl, h2⟩ := hf rfl
            refine ⟨y, ⟨hy, fun c hc => h2 c (by omega) hc⟩, ?_⟩
            refine Ev.step (fun k => by simp only [live_sets.l1]; rw [if_neg (by omega)]) ?_
            exact Ev.step (f := fun _ => some (toI y)) (fun k => by simp only [live_sets.l0]; rw [if_neg Bool.false_ne_true]) (Ev.now _)
          · obtain ⟨z, hz, hE⟩ := ih y hy (by have := ht rfl; omega)
            exact ⟨z, hz, Ev.step (fun k => by simp only [live_sets.l1]; rw [if_neg (by omega)]) hE⟩
        | succ b ihb =>
          intro hb y again hy hle hf ht
          have ha : Ev (fun k => live_ahead.f k pn pp (R : Int) bs (toI y) (b : Int) 0) ((aheadN bs y b 0 : Nat) : Int) := ahead_ev pn pp O hy.len hy.lt (b := b) (i := 0) (by omega) (Nat.zero_le _)
          have hs := on_set E hy (b := b) (by omega)
          have hyl := hy.len
          have e0 : (((b + 1 : Nat) : Int) - 1) = (b : Int) := by omega
          rw [e0]
          have hcard := card_mono R (x := y) (y := y.set b (aheadN bs y b 0)) (by rw [List.length_set]) hs.2
          cases again
          · obtain ⟨rfl, h2⟩ := hf rfl
            by_cases c : aheadN bs y b 0 = at_ y b
            · have hset : y.set b (aheadN bs y b 0) = y := by
                refine list_ext (n := bs.length) (R := R) (by rw [List.length_set]; exact hyl) hyl fun i hi => ?_
                rw [at_set (by omega)]
                split
                · next h => rw [h]; exact c
                · rfl
              obtain ⟨z, hz, hE⟩ := ihb (by omega) y false hy hle (fun _ => ⟨rfl, fun i hi hi2 => by
                by_cases e : i = b
                · subst e
                  exact c
                · exact h2 i (by omega) hi2⟩) (fun h => absurd h (by simp))
              refine ⟨z, hz, Ev.step (fun k => by simp only [live_sets.l1]; rw [if_pos (by omega)]) (Ev.bind ha ?_)⟩
              refine Ev.congr (fun k => ?_) hE
              rw [if_neg Bool.false_ne_true, if_pos (by omega), if_pos (by rw [toI_len]; omega), rd_toI, Int.toNat_natCast, toI_set, hset, c, show ((at_ y b : Int) != (at_ y b : Int)) = false by simp, wrap_id (by omega) (by omega)]
            · have hlt : card R y < card R (y.set b (aheadN bs y b 0)) := by
                apply Nat.lt_of_le_of_ne hcard
                intro e
                have := card_eq R (x := y) (y := y.set b (aheadN bs y b 0)) (by rw [List.length_set]) hs.2 hy.lt hs.1.lt e
                have h3 : at_ y b = at_ (y.set b (aheadN bs y b 0)) b := congrArg (fun l => at_ l b) this
                rw [at_set (by omega), if_pos rfl] at h3
                exact c h3.symm
              obtain ⟨z, hz, hE⟩ := ihb (by omega) (y.set b (aheadN bs y b 0)) true hs.1 hs.2 (fun h => absurd h (by simp)) (fun _ => hlt)
              refine ⟨z, hz, Ev.step (fun k => by simp only [live_sets.l1]; rw [if_pos (by omega)]) (Ev.bind ha ?_)⟩
              refine Ev.congr (fun k => ?_) hE
              rw [if_neg Bool.false_ne_true, if_pos (by omega), if_pos (by rw [toI_len]; omega), rd_toI, Int.toNat_natCast, toI_set, show ((aheadN bs y b 0 : Int) != (at_ y b : Int)) = true by simp; omega, wrap_id (by omega) (by omega)]
          · obtain ⟨z, hz, hE⟩ := ihb (by omega) (y.set b (aheadN bs y b 0)) true hs.1 (hle.trans hs.2) (fun h => absurd h (by simp)) (fun _ => Nat.lt_of_lt_of_le (ht rfl) hcard)
            refine ⟨z, hz, Ev.step (fun k => by simp only [live_sets.l1]; rw [if_pos (by omega)]) (Ev.bind ha ?_)⟩
            refine Ev.congr (fun k => ?_) hE
            rw [if_pos trivial, if_pos (by omega), if_pos (by rw [toI_len]; omega), Int.toNat_natCast, toI_set, wrap_id (by omega) (by omega)]
      obtain ⟨z, hz, hE⟩ := row bs.length (Nat.le_refl _) y0 false hy0 (LE.refl _) (fun _ => ⟨rfl, fun c h1 h2 => by omega⟩) (fun h => absurd h (by simp))
      exact ⟨z, hz, Ev.step (fun k => by simp only [live_sets.l0]; rw [if_pos trivial, wrap_id (by omega) (by omega)]) hE⟩
  obtain ⟨z, hz, hE⟩ := main (bs.length * R + 1) _ on_zero (by omega)
  refine ⟨z, hz, Ev.congr (fun k => ?_) hE⟩
  unfold live_sets.f
  rw [if_pos (by omega), if_pos (by omega), Int.toNat_natCast, toI_zero]
end
end Go.Proofs.YtebnnknijbgekaaDoor.PlainLive
namespace Go.Proofs.YtebnnknijbgekaaDoor.Q
open Go.RowKit Go.Proofs.YtebnnknijbgekaaDoorW.PrintWords Go.Proofs.YtebnnknijbgekaaDoorW.PrintLast Go.Proofs.YtebnnknijbgekaaDoorW.PrintMore
attribute [local go_sem] max2_int min2_int max_two min_two max_three min_three max_four min_four   -- for this text's walks alone
set_option linter.unusedVariables false
set_option linter.unusedSimpArgs false

/-! ### live_Ahead: function 22 -/
def live_Ahead.j0 : Nat → Int → Int → Bool → ByteArray → Int → Int → List (List (SIns)) → Option (List Int)
 | 0, _, _, _, _, _, _, _ => none
 | k + 1, x1, x2, x34, x275000, x275001, x275002, x275003 => if x34 = true then (some ([] : List Int)) else ((live_sets.f k x275000 x275001 x275002 x275003).bind fun t277 => ((live_ahead.f k x275000 x275001 x275002 x275003 t277 x1 x2).bind fun t280 => ((live_set_list.f k t280).bind fun t281 => (some t281))))
def live_Ahead.f (k : Nat) (a0_0 : ByteArray) (a0_1 : Int) (a0_2 : Int) (l0_3 : List (List (SIns))) (a1 : Int) (a2 : Int) : Option (List Int) := (ir_Check.f k a0_0 a0_1 a0_2 l0_3).bind fun t275 => (if t275 = 0 then (if a1 < 0 then (live_Ahead.j0 k a1 a2 true a0_0 a0_1 a0_2 l0_3) else (if a1 ≥ (l0_3.length : Int) then (live_Ahead.j0 k a1 a2 true a0_0 a0_1 a0_2 l0_3) else (if a2 < 0 then (live_Ahead.j0 k a1 a2 true a0_0 a0_1 a0_2 l0_3) else (if 0 ≤ a1 then (if a1 < (l0_3.length : Int) then (live_Ahead.j0 k a1 a2 (decide (a2 > ((rd_LIns l0_3 a1).length : Int))) a0_0 a0_1 a0_2 l0_3) else (none)) else (none))))) else (live_Ahead.j0 k a1 a2 true a0_0 a0_1 a0_2 l0_3))
theorem live_Ahead.mono_l : ∀ k, (∀ y0 y1 y2 y3 y4 y5 y6, LeO (live_Ahead.j0 k y0 y1 y2 y3 y4 y5 y6) (live_Ahead.j0 (k + 1) y0 y1 y2 y3 y4 y5 y6))
 | 0 => fun _ _ _ _ _ _ _ r h => by simp [live_Ahead.j0] at h
 | k + 1 => by
  have ih0 := live_Ahead.mono_l k
  ·intro y0 y1 y2 y3 y4 y5 y6
   unfold live_Ahead.j0
   repeat' first | (with_reducible exact ih0 _ _ _ _ _ _ _) | (with_reducible exact ir_Check.mono _ _ _ _ _) | (with_reducible exact live_ahead.mono _ _ _ _ _ _ _ _) | (with_reducible exact live_set_list.mono _ _) | (with_reducible exact live_sets.mono _ _ _ _ _) | (with_reducible exact LeO.refl _) | (with_reducible exact LeO.none _) | (with_reducible refine LeO.ite ?_ ?_) | (with_reducible refine LeO.bind ?_ (fun _ => ?_)) | exact LeO.none _ | refine LeO.ite ?_ ?_ | refine LeO.bind ?_ (fun _ => ?_)
theorem live_Ahead.mono : ∀ a0 a1 a2 a3 a4 a5 k, LeO (live_Ahead.f k a0 a1 a2 a3 a4 a5) (live_Ahead.f (k + 1) a0 a1 a2 a3 a4 a5) := by
 intro a0 a1 a2 a3 a4 a5 k
 have ih0 := live_Ahead.mono_l k
 unfold live_Ahead.f
 repeat' first | (with_reducible exact ih0 _ _ _ _ _ _ _) | (with_reducible exact ir_Check.mono _ _ _ _ _) | (with_reducible exact live_ahead.mono _ _ _ _ _ _ _ _) | (with_reducible exact live_set_list.mono _ _) | (with_reducible exact live_sets.mono _ _ _ _ _) | (with_reducible exact LeO.refl _) | (with_reducible exact LeO.none _) | (with_reducible refine LeO.ite ?_ ?_) | (with_reducible refine LeO.bind ?_ (fun _ => ?_)) | exact LeO.none _ | refine LeO.ite ?_ ?_ | refine LeO.bind ?_ (fun _ => ?_)
def live_Ahead.T3 : Bool × List (List Nat × List Nat) := (true, [([], []), ([], []), ([1], [1]), ([], []), ([], []), ([0, 2, 3, 4, 2], [0, 2, 3, 4]), ([5, 5], [5]), ([6, 6, 0, 1, 2, 3, 4, 5, 6], [6])])
def live_Ahead.B3 : List Nat := [0, 0, 2, 0, 0, 31, 63, 127]
theorem live_Ahead.tab3 : rtab .any (opsOf Tryd.f22 3) = live_Ahead.T3 := by kernel_rfl
theorem live_Ahead.bits3 : waitsOk live_Ahead.T3.2 live_Ahead.B3 = true := by kernel_rfl
set_option maxHeartbeats 8000000 in
set_option maxRecDepth 100000 in
theorem live_Ahead.calls (k : Nat) (a0_0 : ByteArray) (a0_1 : Int) (a0_2 : Int) (A0_3 : Option Addr) (c0_3 : Nat) (l0_3 : List (List (SIns))) (a1 : Int) (a2 : Int) (r : List Int) (w : World) (hL : LaidW w) (hr0_3 : Kd.C (Kd.slice 31 kIns) w A0_3 l0_3.length l0_3) (hc0_3 : l0_3.length ≤ c0_3) (h : live_Ahead.f k a0_0 a0_1 a0_2 l0_3 a1 a2 = some r) :
  Calls Tryd.prog 22 #[.agg #[.string a0_0, .int .i64 a0_1, .int .i64 a0_2, .slice A0_3 l0_3.length c0_3], .int .i64 a1, .int .i64 a2] w fun e w' => ∃ v0_ : Value, e = .returned (v0_) ∧ Kd.R (Kd.int .i64) 3 w' w.heap.size (fun _ => True) v0_ r ∧ Below w.heap.size w w' := by
 have hu34 := Tryd.underlying34
 have HR0_3 := Aside0.mk hr0_3
 have HC0_3 := Aside0.mk hc0_3
 clear hr0_3 hc0_3
 have HB := Aside0.mk (Below.refl w.heap.size w)
 have HLd := Aside0.mk hL
 clear hL
 have H := h; clear h; unfold live_Ahead.f at H
 have HC4 := Aside0.mk H
 clear H
 go_enter Tryd.func22, Tryd.ntmps22
 go_upto_region 1 with (first | ((with_reducible refine gate_dst (N := 3) rfl ?_); (try (refine gate_guard (by rfl) ?_; dsimp only)); refine box_event (by rfl) (N := 3) (by rfl) (cs := #[.string a0_0, .int .i64 a0_1, .int .i64 a0_2, .slice A0_3 l0_3.length c0_3]) (t := 34) ?hr ?_; (case hr => first | (go_simp; done) | (go_simp; rfl)); intro gb274 hg w5 hbox hb; have BK274 := Aside0.mk (hbox); have GW274 := qG hg; have GE274 := GW274; replace HB := qH hb; clear hb hbox hg))
 (try simp only [Act.put, List.setIfInBounds_toArray, List.set_cons_zero, List.set_cons_succ])
 go_cut [34] (fun v34 wc => ∃ (kq : Nat) (x34_3 : Bool), v34 = .bool x34_3 ∧ Aside0 (live_Ahead.j0 kq a1 a2 x34_3 a0_0 a0_1 a0_2 l0_3 = some r) ∧ Aside0 (kq ≤ k) ∧ Aside0 (wc.heap[gb274]? = some (.cells #[.string a0_0, .int .i64 a0_1, .int .i64 a0_2, (.slice A0_3 l0_3.length c0_3)] 34 (0, 0))) ∧ Aside0 (Below w.heap.size w wc))
 case first =>
  have H := HC4.out
  clear HC4
  replace H := qb H; obtain ⟨t275, A6, H⟩ := H
  by_cases c7 : t275 = 0
  ·rw [if_pos c7] at H
   obtain ⟨c7b0, c7b1⟩ := qe c7; clear c7
   (first | rw [c7b0] | (simp only [i64_w, i32_w]; rw [c7b0]) | skip)
   by_cases c8 : a1 < 0
   ·rw [if_pos c8] at H
    have c8b0 := decide_eq_true c8
    clear c8
    have H' := Aside0.mk H
    clear H
    obtain ⟨hcz9_0, hcz9_1, hcz9_2, hcz9_3, hfz9_0, hfz9_1, hfz9_2, hfz9_3⟩ := bk4 BK274.out
    go_wp2_with (first | ((with_reducible refine gate_callee (f := 49) rfl ?_); refine goesL_ (some 8) rfl rfl Tryd.func49 (by kernel_rfl) rfl #[.agg #[.string a0_0, .int .i64 a0_1, .int .i64 a0_2, .slice A0_3 l0_3.length c0_3]] rfl qL ?_; (with_reducible refine (ir_Check.calls k a0_0 a0_1 a0_2 _ _ l0_3 t275 _ ?side1 ?side2 A6.out (hL := ?side99)).mono ?_); (case side1 => exact qCB HR0_3.out); (case side2 => exact HC0_3.out); (case side99 => exact LaidW.below HLd.out qB); rintro e w10 ⟨rfl, hb⟩; refine ⟨_, rfl, ?_⟩; replace BK274 := qW BK274 hb; replace HB := qH hb; (try clear hb)))
    go_meet
    case rel => exact ⟨_, (true), qT, H', ⟨qO⟩, ⟨qK BK274.out⟩, ⟨qB⟩⟩
   ·rw [if_neg c8] at H
    have c8b0 := decide_eq_false c8
    clear c8
    by_cases c11 : a1 ≥ (l0_3.length : Int)
    ·rw [if_pos c11] at H
     have c11b0 : decide ((l0_3.length : Int) ≤ a1) = true := decide_eq_true c11
     clear c11
     have H' := Aside0.mk H
     clear H
     obtain ⟨hcz12_0, hcz12_1, hcz12_2, hcz12_3, hfz12_0, hfz12_1, hfz12_2, hfz12_3⟩ := bk4 BK274.out
     go_wp2_with (first | ((with_reducible refine gate_callee (f := 49) rfl ?_); refine goesL_ (some 8) rfl rfl Tryd.func49 (by kernel_rfl) rfl #[.agg #[.string a0_0, .int .i64 a0_1, .int .i64 a0_2, .slice A0_3 l0_3.length c0_3]] rfl qL ?_; (with_reducible refine (ir_Check.calls k a0_0 a0_1 a0_2 _ _ l0_3 t275 _ ?side1 ?side2 A6.out (hL := ?side99)).mono ?_); (case side1 => exact qCB HR0_3.out); (case side2 => exact HC0_3.out); (case side99 => exact LaidW.below HLd.out qB); rintro e w13 ⟨rfl, hb⟩; refine ⟨_, rfl, ?_⟩; replace BK274 := qW BK274 hb; replace HB := qH hb; (try clear hb); obtain ⟨hcz14_0, hcz14_1, hcz14_2, hcz14_3, hfz14_0, hfz14_1, hfz14_2, hfz14_3⟩ := bk4 BK274.out))
     go_meet
     case rel => exact ⟨_, (true), qT, H', ⟨qO⟩, ⟨qK BK274.out⟩, ⟨qB⟩⟩
    ·rw [if_neg c11] at H
     have c11b0 : decide ((l0_3.length : Int) ≤ a1) = false := decide_eq_false c11
     clear c11
     by_cases c15 : a2 < 0
     ·rw [if_pos c15] at H
      have c15b0 := decide_eq_true c15
      clear c15
      have H' := Aside0.mk H
      clear H
      obtain ⟨hcz16_0, hcz16_1, hcz16_2, hcz16_3, hfz16_0, hfz16_1, hfz16_2, hfz16_3⟩ := bk4 BK274.out
      go_wp2_with (first | ((with_reducible refine gate_callee (f := 49) rfl ?_); refine goesL_ (some 8) rfl rfl Tryd.func49 (by kernel_rfl) rfl #[.agg #[.string a0_0, .int .i64 a0_1, .int .i64 a0_2, .slice A0_3 l0_3.length c0_3]] rfl qL ?_; (with_reducible refine (ir_Check.calls k a0_0 a0_1 a0_2 _ _ l0_3 t275 _ ?side1 ?side2 A6.out (hL := ?side99)).mono ?_); (case side1 => exact qCB HR0_3.out); (case side2 => exact HC0_3.out); (case side99 => exact LaidW.below HLd.out qB); rintro e w17 ⟨rfl, hb⟩; refine ⟨_, rfl, ?_⟩; replace BK274 := qW BK274 hb; replace HB := qH hb; (try clear hb); obtain ⟨hcz18_0, hcz18_1, hcz18_2, hcz18_3, hfz18_0, hfz18_1, hfz18_2, hfz18_3⟩ := bk4 BK274.out))
      go_meet
      case rel => exact ⟨_, (true), qT, H', ⟨qO⟩, ⟨qK BK274.out⟩, ⟨qB⟩⟩
     ·rw [if_neg c15] at H
      have c15b0 := decide_eq_false c15
      clear c15
      by_cases c19 : 0 ≤ a1
      ·rw [if_pos c19] at H
       have c19b0 := decide_eq_true c19
       clear c19
       by_cases c20 : a1 < (l0_3.length : Int)
       ·rw [if_pos c20] at H
        have c20b0 := decide_eq_true c20
        clear c20
        have H' := Aside0.mk H
        clear H
        obtain ⟨hcz21_0, hcz21_1, hcz21_2, hcz21_3, hfz21_0, hfz21_1, hfz21_2, hfz21_3⟩ := bk4 BK274.out
        go_wp2_with (first | ((with_reducible refine gate_callee (f := 49) rfl ?_); refine goesL_ (some 8) rfl rfl Tryd.func49 (by kernel_rfl) rfl #[.agg #[.string a0_0, .int .i64 a0_1, .int .i64 a0_2, .slice A0_3 l0_3.length c0_3]] rfl qL ?_; (with_reducible refine (ir_Check.calls k a0_0 a0_1 a0_2 _ _ l0_3 t275 _ ?side1 ?side2 A6.out (hL := ?side99)).mono ?_); (case side1 => exact qCB HR0_3.out); (case side2 => exact HC0_3.out); (case side99 => exact LaidW.below HLd.out qB); rintro e w22 ⟨rfl, hb⟩; refine ⟨_, rfl, ?_⟩; replace BK274 := qW BK274 hb; replace HB := qH hb; (try clear hb); obtain ⟨hcz23_0, hcz23_1, hcz23_2, hcz23_3, hfz23_0, hfz23_1, hfz23_2, hfz23_3⟩ := bk4 BK274.out; have p276 : 0 ≤ (a1 : Int) := of_decide_eq_true qA; have q276 : a1 < (l0_3.length : Int) := of_decide_eq_true qA; obtain ⟨ad276, A276_0, c276_0, e276, hx276_0, hl276_0, hi276_0⟩ := at_LIns HR0_3.out a1 p276 q276; cases e276; replace hx276_0 := (HB.out.cell (World.block_lt_of_cell? w _ hx276_0)).trans hx276_0; have HR276_0 := Aside0.mk hi276_0; have HC276_0 := Aside0.mk hl276_0; clear hi276_0 hl276_0; replace p276 := eq_true p276; replace q276 := eq_true q276))
        go_meet
        case rel => exact ⟨_, (decide (a2 > ((rd_LIns l0_3 a1).length : Int))), qT, H', ⟨qO⟩, ⟨qK BK274.out⟩, ⟨qB⟩⟩
       ·rw [if_neg c20] at H
        exact absurd H (by simp)
      ·rw [if_neg c19] at H
       exact absurd H (by simp)
  ·rw [if_neg c7] at H
   obtain ⟨c7b0, c7b1⟩ := qn c7
   (first | rw [c7b0] | (simp only [i64_w, i32_w]; rw [c7b0]) | skip)
   have H' := Aside0.mk H
   clear H
   obtain ⟨hcz24_0, hcz24_1, hcz24_2, hcz24_3, hfz24_0, hfz24_1, hfz24_2, hfz24_3⟩ := bk4 BK274.out
   go_wp2_with (first | ((with_reducible refine gate_callee (f := 49) rfl ?_); refine goesL_ (some 8) rfl rfl Tryd.func49 (by kernel_rfl) rfl #[.agg #[.string a0_0, .int .i64 a0_1, .int .i64 a0_2, .slice A0_3 l0_3.length c0_3]] rfl qL ?_; (with_reducible refine (ir_Check.calls k a0_0 a0_1 a0_2 _ _ l0_3 t275 _ ?side1 ?side2 A6.out (hL := ?side99)).mono ?_); (case side1 => exact qCB HR0_3.out); (case side2 => exact HC0_3.out); (case side99 => exact LaidW.below HLd.out qB); rintro e w25 ⟨rfl, hb⟩; refine ⟨_, rfl, ?_⟩; replace BK274 := qW BK274 hb; replace HB := qH hb; (try clear hb)))
   go_meet
   case rel => exact ⟨_, (true), qT, H', ⟨qO⟩, ⟨qK BK274.out⟩, ⟨qB⟩⟩
 case rest =>
  clear HC4
  try clear c1; try clear c2; try clear p2; try clear q2; try clear hx2; try clear c4; try clear c7; try clear c7b0 c7b1; try clear c8; try clear c8b0; try clear c11; try clear c11b0; try clear c15; try clear c15b0; try clear c19; try clear c19b0; try clear c20; try clear c20b0; try clear c22; try clear hcz12_0 hcz12_1 hcz12_2 hcz12_3 hfz12_0 hfz12_1 hfz12_2 hfz12_3; try clear hcz14_0 hcz14_1 hcz14_2 hcz14_3 hfz14_0 hfz14_1 hfz14_2 hfz14_3; try clear hcz16_0 hcz16_1 hcz16_2 hcz16_3 hfz16_0 hfz16_1 hfz16_2 hfz16_3; try clear hcz18_0 hcz18_1 hcz18_2 hcz18_3 hfz18_0 hfz18_1 hfz18_2 hfz18_3; try clear hcz21_0 hcz21_1 hcz21_2 hcz21_3 hfz21_0 hfz21_1 hfz21_2 hfz21_3; try clear hcz23_0 hcz23_1 hcz23_2 hcz23_3 hfz23_0 hfz23_1 hfz23_2 hfz23_3; try clear hcz24_0 hcz24_1 hcz24_2 hcz24_3 hfz24_0 hfz24_1 hfz24_2 hfz24_3; try clear hcz9_0 hcz9_1 hcz9_2 hcz9_3 hfz9_0 hfz9_1 hfz9_2 hfz9_3; try clear hx276_0; try clear p276; try clear q276
  obtain ⟨kq, x34_3, rfl, HA, HJ3, BK274, HB⟩ := hcut
  cases kq with
  | zero => exact absurd HA.out (by simp [live_Ahead.j0])
  | succ kj3 =>
   have H := HA.out
   clear HA
   simp only [live_Ahead.j0] at H
   by_cases c26 : x34_3 = true
   ·subst c26
    have H1 : (some ([] : List Int)) = some r := by rw [if_pos rfl] at H; exact H
    clear H
    have H := H1
    clear H1
    obtain rfl := Option.some.inj H
    go_wp2
    go_ret
    exact ⟨_, qE, by first | exact Kd.R_nil _ _ _ _ _ | exact Kd.N_nil _ _ _ _ _ | exact Kd.V_nil _ _ _ _ _ | exact Kd.Q_nil _ _ _ _ _ | exact Kd.S_nil _ _ _ _ _, qB⟩
   ·replace c26 := Bool.eq_false_iff.mpr c26
    subst c26
    have H1 : ((live_sets.f kj3 a0_0 a0_1 a0_2 l0_3).bind fun t277 => ((live_ahead.f kj3 a0_0 a0_1 a0_2 l0_3 t277 a1 a2).bind fun t280 => ((live_set_list.f kj3 t280).bind fun t281 => (some t281)))) = some r := by rw [if_neg (show ¬ (false = true) by decide)] at H; exact H
    clear H
    have H := H1
    clear H1
    replace H := qb H; obtain ⟨t277, A27, H⟩ := H
    replace H := qb H; obtain ⟨t280, A28, H⟩ := H
    replace H := qb H; obtain ⟨t281, A29, H⟩ := H
    obtain rfl := Option.some.inj H
    try go_wp2
    have n0_ := Aside0.mk (blk_drew BK274.out)
    have n1_ := Aside0.mk (below_drew1 HB.out)
    clear BK274
    clear HB
    have BK274 := n0_
    have HB := n1_
    clear n0_ n1_
    refine start_ (n := 8) (S := fun w' => w'.cell? ⟨gb274, 0, none⟩ = some (.string a0_0) ∧ w'.cell? ⟨gb274, 1, none⟩ = some (.int .i64 a0_1) ∧ w'.cell? ⟨gb274, 2, none⟩ = some (.int .i64 a0_2) ∧ w'.cell? ⟨gb274, 3, none⟩ = some (.slice A0_3 l0_3.length c0_3)) (ds := []) #[false, false, false, false, false, false, false, false] (by kernel_rfl) rfl rfl ⟨(blk_cell BK274.out 0).trans rfl, (blk_cell BK274.out 1).trans rfl, (blk_cell BK274.out 2).trans rfl, (blk_cell BK274.out 3).trans rfl⟩ (fun hHeld => ?_); refine with_tabW live_Ahead.tab3 live_Ahead.bits3 (fun HT_ HW_ => ?_)
    generalize wc.drew = w30 at BK274 HB hHeld ⊢
    refine pure_ (i := 3) (N := some 38) (v := ?_) (a' := ?_) #[false, false, false, true, false, false, false, false] rfl rfl (any_of HT_.out (by kernel_rfl)) (fun _ _ _ h => h) (Or.inl ⟨by rfl, ?_⟩) ?_ ?_
    rotate_left
    ·intro w'
     go_simp
     with_reducible rfl
    rotate_left
    ·simp only [Act.put, List.setIfInBounds_toArray, List.set_cons_zero, List.set_cons_succ, i64_w, i32_w]
     rfl
    refine pure_ (i := 4) (N := some 39) (v := ?_) (a' := ?_) #[false, false, false, true, true, false, false, false] rfl rfl (any_of HT_.out (by kernel_rfl)) (fun _ _ _ h => h) (Or.inl ⟨by rfl, ?_⟩) ?_ ?_
    rotate_left
    ·intro w'
     go_simp
     with_reducible rfl
    rotate_left
    ·simp only [Act.put, List.setIfInBounds_toArray, List.set_cons_zero, List.set_cons_succ, i64_w, i32_w]
     rfl
    refine take_ (i := 0) (N := some 35) (v := ?_) (a' := ?_) #[true, false, false, true, true, false, false, false] rfl rfl (take_ofW HT_.out HW_.out (by kernel_rfl)) (fun _ _ _ h => h) (Or.inl ⟨by rfl, ?_⟩) hHeld ?_ ?_
    rotate_left
    ·rintro w' ⟨s0, s1, s2, s3⟩
     go_simp
     with_reducible rfl
    rotate_left
    ·simp only [Act.put, List.setIfInBounds_toArray, List.set_cons_zero, List.set_cons_succ, i64_w, i32_w]
     rfl
    refine take_ (i := 1) (N := some 36) (v := ?_) (a' := ?_) #[true, true, false, true, true, false, false, false] rfl rfl (take_ofW HT_.out HW_.out (by kernel_rfl)) (fun _ _ _ h => h) (Or.inl ⟨by rfl, ?_⟩) hHeld ?_ ?_
    rotate_left
    ·rintro w' ⟨s0, s1, s2, s3⟩
     go_simp
     with_reducible rfl
    rotate_left
    ·simp only [Act.put, List.setIfInBounds_toArray, List.set_cons_zero, List.set_cons_succ, i64_w, i32_w]
     rfl
    refine one_ (i := 2) (N := some 37) #[true, true, true, true, true, false, false, false] rfl rfl (one_of HT_.out (by kernel_rfl)) (by decide) (fun K hK => ?_)
    refine goes_ Tryd.func50 (by kernel_rfl) rfl #[.agg #[.string a0_0, .int .i64 a0_1, .int .i64 a0_2, .slice A0_3 l0_3.length c0_3]] (by rfl) rfl rfl qL ?_
    with_reducible refine (live_sets.calls kj3 a0_0 a0_1 a0_2 _ _ l0_3 t277 _ ?side1 ?side2 A27.out (hL := ?side99)).mono ?_
    (case side1 => exact qCB HR0_3.out)
    (case side2 => exact HC0_3.out)
    (case side99 => exact LaidW.below HLd.out qB)
    rintro e w31 ⟨v278, rfl, ho0, hb⟩
    refine ⟨_, rfl, ?_⟩
    have n0_ := Aside0.mk (Kd.R_lower ho0 (below_size qB))
    have n1_ := qW BK274 hb
    have n2_ := qH hb
    clear BK274
    clear HB
    have HO279 := n0_
    have BK274 := n1_
    have HB := n2_
    clear n0_ n1_ n2_
    (try clear hb)
    (try clear hb2)
    (try clear hk)
    (try clear hi)
    (try clear ho0)
    obtain ⟨Ao32, co32, eo32⟩ := Kd.R_slice HO279.out
    (first | subst eo32 | (injection eo32 with f1_ f2_ f3_; have f4_ := f1_.symm; have f5_ := f3_.symm; clear f1_ f2_ f3_; subst f4_; subst f5_))
    refine hK.out _ _ ⟨(blk_cell BK274.out 0).trans rfl, (blk_cell BK274.out 1).trans rfl, (blk_cell BK274.out 2).trans rfl, (blk_cell BK274.out 3).trans rfl⟩ (fun hHeld => ?_)
    clear hK K
    refine norm_ (a' := ?_) ?_ ?_
    rotate_left
    ·show Act.put _ (some 37) _ = _
     simp only [Act.put, List.setIfInBounds_toArray, List.set_cons_zero, List.set_cons_succ, i64_w, i32_w]
     rfl
    refine one_ (i := 5) (N := some 40) #[true, true, true, true, true, true, false, false] rfl rfl (one_of HT_.out (by kernel_rfl)) (by decide) (fun K hK => ?_)
    refine goes_ Tryd.func51 (by kernel_rfl) rfl #[.agg #[.string a0_0, .int .i64 a0_1, .int .i64 a0_2, .slice A0_3 l0_3.length c0_3], .slice Ao32 t277.length co32, .int .i64 a1, .int .i64 a2] (by rfl) rfl rfl qL ?_
    with_reducible refine (live_ahead.calls kj3 a0_0 a0_1 a0_2 _ _ l0_3 _ _ t277 a1 a2 t280 _ ?side1 ?side2 ?side3 ?side4 A28.out (hL := ?side99)).mono ?_
    (case side1 => exact qCB HR0_3.out)
    (case side2 => exact HC0_3.out)
    (case side3 => repeat (first | exact (Kd.R_reads' HO279.out).2.2 | (with_reducible refine Kd.C_alloc ?_ _) | (with_reducible refine Kd.C_drewN ?_ _) | (with_reducible refine Kd.C_drew ?_)))
    (case side4 => exact (Kd.R_reads' HO279.out).2.1)
    (case side99 => exact LaidW.below HLd.out qB)
    rintro e w33 ⟨rfl, hb⟩
    refine ⟨_, rfl, ?_⟩
    have n0_ := Aside0.mk (Kd.R_below (qR HO279.out) hb)
    have n1_ := qW BK274 hb
    have n2_ := qH hb
    clear HO279
    clear BK274
    clear HB
    have HO279 := n0_
    have BK274 := n1_
    have HB := n2_
    clear n0_ n1_ n2_
    (try clear hb)
    (try clear hb2)
    (try clear hk)
    (try clear hi)
    refine hK.out _ _ ⟨(blk_cell BK274.out 0).trans rfl, (blk_cell BK274.out 1).trans rfl, (blk_cell BK274.out 2).trans rfl, (blk_cell BK274.out 3).trans rfl⟩ (fun hHeld => ?_)
    clear hK K
    refine norm_ (a' := ?_) ?_ ?_
    rotate_left
    ·show Act.put _ (some 40) _ = _
     simp only [Act.put, List.setIfInBounds_toArray, List.set_cons_zero, List.set_cons_succ, i64_w, i32_w]
     rfl
    refine one_ (i := 6) (N := some 41) #[true, true, true, true, true, true, true, false] rfl rfl (one_of HT_.out (by kernel_rfl)) (by decide) (fun K hK => ?_)
    refine goes_ Tryd.func52 (by kernel_rfl) rfl #[.int .u64 t280] (by rfl) rfl rfl qL ?_
    with_reducible refine (live_set_list.calls kj3 t280 t281 _ A29.out (hL := ?side99)).mono ?_
    (case side99 => exact LaidW.below HLd.out qB)
    rintro e w34 ⟨v282, rfl, ho0, hb⟩
    refine ⟨_, rfl, ?_⟩
    have n0_ := Aside0.mk (Kd.R_below (qR HO279.out) hb)
    have n1_ := Aside0.mk (Kd.R_lower ho0 (below_size qB))
    have n2_ := qW BK274 hb
    have n3_ := qH hb
    clear HO279
    clear BK274
    clear HB
    have HO279 := n0_
    have HO283 := n1_
    have BK274 := n2_
    have HB := n3_
    clear n0_ n1_ n2_ n3_
    (try clear hb)
    (try clear hb2)
    (try clear hk)
    (try clear hi)
    (try clear ho0)
    refine hK.out _ _ ⟨(blk_cell BK274.out 0).trans rfl, (blk_cell BK274.out 1).trans rfl, (blk_cell BK274.out 2).trans rfl, (blk_cell BK274.out 3).trans rfl⟩ (fun hHeld => ?_)
    clear hK K
    refine norm_ (a' := ?_) ?_ ?_
    rotate_left
    ·show Act.put _ (some 41) _ = _
     simp only [Act.put, List.setIfInBounds_toArray, List.set_cons_zero, List.set_cons_succ, i64_w, i32_w]
     rfl
    refine pure_ (i := 7) (N := some 6) (v := ?_) (a' := ?_) #[true, true, true, true, true, true, true, true] rfl rfl (any_of HT_.out (by kernel_rfl)) (fun _ _ _ h => h) (Or.inl ⟨by rfl, ?_⟩) ?_ ?_
    rotate_left
    ·intro w'
     go_simp
     with_reducible rfl
    rotate_left
    ·simp only [Act.put, List.setIfInBounds_toArray, List.set_cons_zero, List.set_cons_succ, i64_w, i32_w]
     rfl
    refine done_ (done_of HT_.out (by kernel_rfl)) ?_
    try go_wp2
    go_ret
    exact ⟨_, qE, qR HO283.out, qB⟩

end Go.Proofs.YtebnnknijbgekaaDoor.Q
namespace Go.Proofs.YtebnnknijbgekaaDoor.Q
open Go.RowKit Go.Proofs.YtebnnknijbgekaaDoorW.PrintWords Go.Proofs.YtebnnknijbgekaaDoorW.PrintLast Go.Proofs.YtebnnknijbgekaaDoorW.PrintMore
attribute [local go_sem] max2_int min2_int max_two min_two max_three min_three max_four min_four   -- for this text's walks alone
set_option linter.unusedVariables false
set_option linter.unusedSimpArgs false

/-! ### cubbyref11_Ahead: function 23 -/
def cubbyref11_Ahead.j0 : Nat → Int → Int → Bool → ByteArray → Int → Int → List (List (SIns)) → Option (List Int)
 | 0, _, _, _, _, _, _, _ => none
 | k + 1, x1, x2, x34, x372000, x372001, x372002, x372003 => if x34 = true then (some ([] : List Int)) else ((cubbyref11_In.f k x372000 x372001 x372002 x372003).bind fun t374 => ((cubbyref11_ahead.f k x372000 x372001 x372002 x372003 t374 x1 x2).bind fun t377 => (some t377)))
def cubbyref11_Ahead.f (k : Nat) (a0_0 : ByteArray) (a0_1 : Int) (a0_2 : Int) (l0_3 : List (List (SIns))) (a1 : Int) (a2 : Int) : Option (List Int) := (cubbyref07_Check.f k a0_0 a0_1 a0_2 l0_3).bind fun t372 => (if t372 = 0 then (if a1 < 0 then (cubbyref11_Ahead.j0 k a1 a2 true a0_0 a0_1 a0_2 l0_3) else (if a1 ≥ (l0_3.length : Int) then (cubbyref11_Ahead.j0 k a1 a2 true a0_0 a0_1 a0_2 l0_3) else (if a2 < 0 then (cubbyref11_Ahead.j0 k a1 a2 true a0_0 a0_1 a0_2 l0_3) else (if 0 ≤ a1 then (if a1 < (l0_3.length : Int) then (cubbyref11_Ahead.j0 k a1 a2 (decide (a2 > ((rd_LIns l0_3 a1).length : Int))) a0_0 a0_1 a0_2 l0_3) else (none)) else (none))))) else (cubbyref11_Ahead.j0 k a1 a2 true a0_0 a0_1 a0_2 l0_3))
theorem cubbyref11_Ahead.mono_l : ∀ k, (∀ y0 y1 y2 y3 y4 y5 y6, LeO (cubbyref11_Ahead.j0 k y0 y1 y2 y3 y4 y5 y6) (cubbyref11_Ahead.j0 (k + 1) y0 y1 y2 y3 y4 y5 y6))
 | 0 => fun _ _ _ _ _ _ _ r h => by simp [cubbyref11_Ahead.j0] at h
 | k + 1 => by
  have ih0 := cubbyref11_Ahead.mono_l k
  ·intro y0 y1 y2 y3 y4 y5 y6
   unfold cubbyref11_Ahead.j0
   repeat' first | (with_reducible exact ih0 _ _ _ _ _ _ _) | (with_reducible exact cubbyref07_Check.mono _ _ _ _ _) | (with_reducible exact cubbyref11_In.mono _ _ _ _ _) | (with_reducible exact cubbyref11_ahead.mono _ _ _ _ _ _ _ _) | (with_reducible exact LeO.refl _) | (with_reducible exact LeO.none _) | (with_reducible refine LeO.ite ?_ ?_) | (with_reducible refine LeO.bind ?_ (fun _ => ?_)) | exact LeO.none _ | refine LeO.ite ?_ ?_ | refine LeO.bind ?_ (fun _ => ?_)
theorem cubbyref11_Ahead.mono : ∀ a0 a1 a2 a3 a4 a5 k, LeO (cubbyref11_Ahead.f k a0 a1 a2 a3 a4 a5) (cubbyref11_Ahead.f (k + 1) a0 a1 a2 a3 a4 a5) := by
 intro a0 a1 a2 a3 a4 a5 k
 have ih0 := cubbyref11_Ahead.mono_l k
 unfold cubbyref11_Ahead.f
 repeat' first | (with_reducible exact ih0 _ _ _ _ _ _ _) | (with_reducible exact cubbyref07_Check.mono _ _ _ _ _) | (with_reducible exact cubbyref11_In.mono _ _ _ _ _) | (with_reducible exact cubbyref11_ahead.mono _ _ _ _ _ _ _ _) | (with_reducible exact LeO.refl _) | (with_reducible exact LeO.none _) | (with_reducible refine LeO.ite ?_ ?_) | (with_reducible refine LeO.bind ?_ (fun _ => ?_)) | exact LeO.none _ | refine LeO.ite ?_ ?_ | refine LeO.bind ?_ (fun _ => ?_)
set_option maxHeartbeats 8000000 in
set_option maxRecDepth 100000 in
theorem cubbyref11_Ahead.calls (k : Nat) (a0_0 : ByteArray) (a0_1 : Int) (a0_2 : Int) (A0_3 : Option Addr) (c0_3 : Nat) (l0_3 : List (List (SIns))) (a1 : Int) (a2 : Int) (r : List Int) (w : World) (hr0_3 : Kd.C (Kd.slice 31 kIns) w A0_3 l0_3.length l0_3) (hc0_3 : l0_3.length ≤ c0_3) (h : cubbyref11_Ahead.f k a0_0 a0_1 a0_2 l0_3 a1 a2 = some r) :
  Calls Tryd.prog 23 #[.agg #[.string a0_0, .int .i64 a0_1, .int .i64 a0_2, .slice A0_3 l0_3.length c0_3], .int .i64 a1, .int .i64 a2] w fun e w' => ∃ v0_ : Value, e = .returned (v0_) ∧ Kd.R (Kd.int .i64) 3 w' w.heap.size (fun _ => True) v0_ r ∧ Below w.heap.size w w' := by
 have hu34 := Tryd.underlying34
 have HR0_3 := Aside0.mk hr0_3
 have HC0_3 := Aside0.mk hc0_3
 clear hr0_3 hc0_3
 have HB := Aside0.mk (Below.refl w.heap.size w)
 have H := h; clear h; unfold cubbyref11_Ahead.f at H
 have HC4 := Aside0.mk H
 clear H
 go_enter Tryd.func23, Tryd.ntmps23
 go_upto_region 1 with (first | ((with_reducible refine gate_dst (N := 3) rfl ?_); (try (refine gate_guard (by rfl) ?_; dsimp only)); refine box_event (by rfl) (N := 3) (by rfl) (cs := #[.string a0_0, .int .i64 a0_1, .int .i64 a0_2, .slice A0_3 l0_3.length c0_3]) (t := 34) ?hr ?_; (case hr => first | (go_simp; done) | (go_simp; rfl)); intro gb371 hg w5 hbox hb; have BK371 := Aside0.mk (hbox); have GW371 := qG hg; have GE371 := GW371; replace HB := qH hb; clear hb hbox hg))
 (try simp only [Act.put, List.setIfInBounds_toArray, List.set_cons_zero, List.set_cons_succ])
 go_cut [34] (fun v34 wc => ∃ (kq : Nat) (x34_3 : Bool), v34 = .bool x34_3 ∧ Aside0 (cubbyref11_Ahead.j0 kq a1 a2 x34_3 a0_0 a0_1 a0_2 l0_3 = some r) ∧ Aside0 (kq ≤ k) ∧ Aside0 (wc.heap[gb371]? = some (.cells #[.string a0_0, .int .i64 a0_1, .int .i64 a0_2, (.slice A0_3 l0_3.length c0_3)] 34 (0, 0))) ∧ Aside0 (Below w.heap.size w wc))
 case first =>
  have H := HC4.out
  clear HC4
  replace H := qb H; obtain ⟨t372, A6, H⟩ := H
  by_cases c7 : t372 = 0
  ·rw [if_pos c7] at H
   obtain ⟨c7b0, c7b1⟩ := qe c7; clear c7
   (first | rw [c7b0] | (simp only [i64_w, i32_w]; rw [c7b0]) | skip)
   by_cases c8 : a1 < 0
   ·rw [if_pos c8] at H
    have c8b0 := decide_eq_true c8
    clear c8
    have H' := Aside0.mk H
    clear H
    obtain ⟨hcz9_0, hcz9_1, hcz9_2, hcz9_3, hfz9_0, hfz9_1, hfz9_2, hfz9_3⟩ := bk4 BK371.out
    go_wp2_with (first | ((with_reducible refine gate_callee (f := 17) rfl ?_); refine goesL_ (some 8) rfl rfl Tryd.func17 (by kernel_rfl) rfl #[.agg #[.string a0_0, .int .i64 a0_1, .int .i64 a0_2, .slice A0_3 l0_3.length c0_3]] rfl qL ?_; (with_reducible refine (cubbyref07_Check.calls k a0_0 a0_1 a0_2 _ _ l0_3 t372 _ ?side1 ?side2 A6.out).mono ?_); (case side1 => exact qCB HR0_3.out); (case side2 => exact HC0_3.out); rintro e w10 ⟨rfl, hb⟩; refine ⟨_, rfl, ?_⟩; replace BK371 := qW BK371 hb; replace HB := qH hb; (try clear hb)))
    go_meet
    case rel => exact ⟨_, (true), qT, H', ⟨qO⟩, ⟨qK BK371.out⟩, ⟨qB⟩⟩
   ·rw [if_neg c8] at H
    have c8b0 := decide_eq_false c8
    clear c8
    by_cases c11 : a1 ≥ (l0_3.length : Int)
    ·rw [if_pos c11] at H
     have c11b0 : decide ((l0_3.length : Int) ≤ a1) = true := decide_eq_true c11
     clear c11
     have H' := Aside0.mk H
     clear H
     obtain ⟨hcz12_0, hcz12_1, hcz12_2, hcz12_3, hfz12_0, hfz12_1, hfz12_2, hfz12_3⟩ := bk4 BK371.out
     go_wp2_with (first | ((with_reducible refine gate_callee (f := 17) rfl ?_); refine goesL_ (some 8) rfl rfl Tryd.func17 (by kernel_rfl) rfl #[.agg #[.string a0_0, .int .i64 a0_1, .int .i64 a0_2, .slice A0_3 l0_3.length c0_3]] rfl qL ?_; (with_reducible refine (cubbyref07_Check.calls k a0_0 a0_1 a0_2 _ _ l0_3 t372 _ ?side1 ?side2 A6.out).mono ?_); (case side1 => exact qCB HR0_3.out); (case side2 => exact HC0_3.out); rintro e w13 ⟨rfl, hb⟩; refine ⟨_, rfl, ?_⟩; replace BK371 := qW BK371 hb; replace HB := qH hb; (try clear hb); obtain ⟨hcz14_0, hcz14_1, hcz14_2, hcz14_3, hfz14_0, hfz14_1, hfz14_2, hfz14_3⟩ := bk4 BK371.out))
     go_meet
     case rel => exact ⟨_, (true), qT, H', ⟨qO⟩, ⟨qK BK371.out⟩, ⟨qB⟩⟩
    ·rw [if_neg c11] at H
     have c11b0 : decide ((l0_3.length : Int) ≤ a1) = false := decide_eq_false c11
     clear c11
     by_cases c15 : a2 < 0
     ·rw [if_pos c15] at H
      have c15b0 := decide_eq_true c15
      clear c15
      have H' := Aside0.mk H
      clear H
      obtain ⟨hcz16_0, hcz16_1, hcz16_2, hcz16_3, hfz16_0, hfz16_1, hfz16_2, hfz16_3⟩ := bk4 BK371.out
      go_wp2_with (first | ((with_reducible refine gate_callee (f := 17) rfl ?_); refine goesL_ (some 8) rfl rfl Tryd.func17 (by kernel_rfl) rfl #[.agg #[.string a0_0, .int .i64 a0_1, .int .i64 a0_2, .slice A0_3 l0_3.length c0_3]] rfl qL ?_; (with_reducible refine (cubbyref07_Check.calls k a0_0 a0_1 a0_2 _ _ l0_3 t372 _ ?side1 ?side2 A6.out).mono ?_); (case side1 => exact qCB HR0_3.out); (case side2 => exact HC0_3.out); rintro e w17 ⟨rfl, hb⟩; refine ⟨_, rfl, ?_⟩; replace BK371 := qW BK371 hb; replace HB := qH hb; (try clear hb); obtain ⟨hcz18_0, hcz18_1, hcz18_2, hcz18_3, hfz18_0, hfz18_1, hfz18_2, hfz18_3⟩ := bk4 BK371.out))
      go_meet
      case rel => exact ⟨_, (true), qT, H', ⟨qO⟩, ⟨qK BK371.out⟩, ⟨qB⟩⟩
     ·rw [if_neg c15] at H
      have c15b0 := decide_eq_false c15
      clear c15
      by_cases c19 : 0 ≤ a1
      ·rw [if_pos c19] at H
       have c19b0 := decide_eq_true c19
       clear c19
       by_cases c20 : a1 < (l0_3.length : Int)
       ·rw [if_pos c20] at H
        have c20b0 := decide_eq_true c20
        clear c20
        have H' := Aside0.mk H
        clear H
        obtain ⟨hcz21_0, hcz21_1, hcz21_2, hcz21_3, hfz21_0, hfz21_1, hfz21_2, hfz21_3⟩ := bk4 BK371.out
        go_wp2_with (first | ((with_reducible refine gate_callee (f := 17) rfl ?_); refine goesL_ (some 8) rfl rfl Tryd.func17 (by kernel_rfl) rfl #[.agg #[.string a0_0, .int .i64 a0_1, .int .i64 a0_2, .slice A0_3 l0_3.length c0_3]] rfl qL ?_; (with_reducible refine (cubbyref07_Check.calls k a0_0 a0_1 a0_2 _ _ l0_3 t372 _ ?side1 ?side2 A6.out).mono ?_); (case side1 => exact qCB HR0_3.out); (case side2 => exact HC0_3.out); rintro e w22 ⟨rfl, hb⟩; refine ⟨_, rfl, ?_⟩; replace BK371 := qW BK371 hb; replace HB := qH hb; (try clear hb); obtain ⟨hcz23_0, hcz23_1, hcz23_2, hcz23_3, hfz23_0, hfz23_1, hfz23_2, hfz23_3⟩ := bk4 BK371.out; have p373 : 0 ≤ (a1 : Int) := of_decide_eq_true qA; have q373 : a1 < (l0_3.length : Int) := of_decide_eq_true qA; obtain ⟨ad373, A373_0, c373_0, e373, hx373_0, hl373_0, hi373_0⟩ := at_LIns HR0_3.out a1 p373 q373; cases e373; replace hx373_0 := (HB.out.cell (World.block_lt_of_cell? w _ hx373_0)).trans hx373_0; have HR373_0 := Aside0.mk hi373_0; have HC373_0 := Aside0.mk hl373_0; clear hi373_0 hl373_0; replace p373 := eq_true p373; replace q373 := eq_true q373))
        go_meet
        case rel => exact ⟨_, (decide (a2 > ((rd_LIns l0_3 a1).length : Int))), qT, H', ⟨qO⟩, ⟨qK BK371.out⟩, ⟨qB⟩⟩
       ·rw [if_neg c20] at H
        exact absurd H (by simp)
      ·rw [if_neg c19] at H
       exact absurd H (by simp)
  ·rw [if_neg c7] at H
   obtain ⟨c7b0, c7b1⟩ := qn c7
   (first | rw [c7b0] | (simp only [i64_w, i32_w]; rw [c7b0]) | skip)
   have H' := Aside0.mk H
   clear H
   obtain ⟨hcz24_0, hcz24_1, hcz24_2, hcz24_3, hfz24_0, hfz24_1, hfz24_2, hfz24_3⟩ := bk4 BK371.out
   go_wp2_with (first | ((with_reducible refine gate_callee (f := 17) rfl ?_); refine goesL_ (some 8) rfl rfl Tryd.func17 (by kernel_rfl) rfl #[.agg #[.string a0_0, .int .i64 a0_1, .int .i64 a0_2, .slice A0_3 l0_3.length c0_3]] rfl qL ?_; (with_reducible refine (cubbyref07_Check.calls k a0_0 a0_1 a0_2 _ _ l0_3 t372 _ ?side1 ?side2 A6.out).mono ?_); (case side1 => exact qCB HR0_3.out); (case side2 => exact HC0_3.out); rintro e w25 ⟨rfl, hb⟩; refine ⟨_, rfl, ?_⟩; replace BK371 := qW BK371 hb; replace HB := qH hb; (try clear hb)))
   go_meet
   case rel => exact ⟨_, (true), qT, H', ⟨qO⟩, ⟨qK BK371.out⟩, ⟨qB⟩⟩
 case rest =>
  clear HC4
  try clear c1; try clear c2; try clear p2; try clear c3; try clear p3; try clear q3; try clear hx3; try clear c7; try clear c7b0 c7b1; try clear c8; try clear c8b0; try clear c11; try clear c11b0; try clear c15; try clear c15b0; try clear c17; try clear c19; try clear c19b0; try clear c20; try clear c20b0; try clear c23; try clear hcz12_0 hcz12_1 hcz12_2 hcz12_3 hfz12_0 hfz12_1 hfz12_2 hfz12_3; try clear hcz14_0 hcz14_1 hcz14_2 hcz14_3 hfz14_0 hfz14_1 hfz14_2 hfz14_3; try clear hcz16_0 hcz16_1 hcz16_2 hcz16_3 hfz16_0 hfz16_1 hfz16_2 hfz16_3; try clear hcz18_0 hcz18_1 hcz18_2 hcz18_3 hfz18_0 hfz18_1 hfz18_2 hfz18_3; try clear hcz21_0 hcz21_1 hcz21_2 hcz21_3 hfz21_0 hfz21_1 hfz21_2 hfz21_3; try clear hcz23_0 hcz23_1 hcz23_2 hcz23_3 hfz23_0 hfz23_1 hfz23_2 hfz23_3; try clear hcz24_0 hcz24_1 hcz24_2 hcz24_3 hfz24_0 hfz24_1 hfz24_2 hfz24_3; try clear hcz9_0 hcz9_1 hcz9_2 hcz9_3 hfz9_0 hfz9_1 hfz9_2 hfz9_3; try clear hx373_0; try clear p373; try clear q373
  obtain ⟨kq, x34_3, rfl, HA, HJ3, BK371, HB⟩ := hcut
  cases kq with
  | zero => exact absurd HA.out (by simp [cubbyref11_Ahead.j0])
  | succ kj3 =>
   have H := HA.out
   clear HA
   simp only [cubbyref11_Ahead.j0] at H
   by_cases c26 : x34_3 = true
   ·subst c26
    have H1 : (some ([] : List Int)) = some r := by rw [if_pos rfl] at H; exact H
    clear H
    have H := H1
    clear H1
    obtain rfl := Option.some.inj H
    go_wp2
    go_ret
    exact ⟨_, qE, by first | exact Kd.R_nil _ _ _ _ _ | exact Kd.N_nil _ _ _ _ _ | exact Kd.V_nil _ _ _ _ _ | exact Kd.Q_nil _ _ _ _ _ | exact Kd.S_nil _ _ _ _ _, qB⟩
   ·replace c26 := Bool.eq_false_iff.mpr c26
    subst c26
    have H1 : ((cubbyref11_In.f kj3 a0_0 a0_1 a0_2 l0_3).bind fun t374 => ((cubbyref11_ahead.f kj3 a0_0 a0_1 a0_2 l0_3 t374 a1 a2).bind fun t377 => (some t377))) = some r := by rw [if_neg (show ¬ (false = true) by decide)] at H; exact H
    clear H
    have H := H1
    clear H1
    replace H := qb H; obtain ⟨t374, A27, H⟩ := H
    replace H := qb H; obtain ⟨t377, A28, H⟩ := H
    obtain rfl := Option.some.inj H
    try go_wp2
    have n0_ := Aside0.mk (blk_drew BK371.out)
    have n1_ := Aside0.mk (below_drew1 HB.out)
    clear BK371
    clear HB
    have BK371 := n0_
    have HB := n1_
    clear n0_ n1_
    refine start_ (n := 7) (S := fun w' => w'.cell? ⟨gb371, 0, none⟩ = some (.string a0_0) ∧ w'.cell? ⟨gb371, 1, none⟩ = some (.int .i64 a0_1) ∧ w'.cell? ⟨gb371, 2, none⟩ = some (.int .i64 a0_2) ∧ w'.cell? ⟨gb371, 3, none⟩ = some (.slice A0_3 l0_3.length c0_3)) (ds := []) #[false, false, false, false, false, false, false] (by kernel_rfl) rfl rfl ⟨(blk_cell BK371.out 0).trans rfl, (blk_cell BK371.out 1).trans rfl, (blk_cell BK371.out 2).trans rfl, (blk_cell BK371.out 3).trans rfl⟩ (fun hHeld => ?_)
    generalize wc.drew = w29 at BK371 HB hHeld ⊢
    refine pure_ (i := 3) (N := some 38) (v := ?_) (a' := ?_) #[false, false, false, true, false, false, false] rfl rfl (by kernel_rfl) (fun _ _ _ h => h) (Or.inl ⟨by rfl, ?_⟩) ?_ ?_
    rotate_left
    ·intro w'
     go_simp
     with_reducible rfl
    rotate_left
    ·simp only [Act.put, List.setIfInBounds_toArray, List.set_cons_zero, List.set_cons_succ, i64_w, i32_w]
     rfl
    refine pure_ (i := 4) (N := some 39) (v := ?_) (a' := ?_) #[false, false, false, true, true, false, false] rfl rfl (by kernel_rfl) (fun _ _ _ h => h) (Or.inl ⟨by rfl, ?_⟩) ?_ ?_
    rotate_left
    ·intro w'
     go_simp
     with_reducible rfl
    rotate_left
    ·simp only [Act.put, List.setIfInBounds_toArray, List.set_cons_zero, List.set_cons_succ, i64_w, i32_w]
     rfl
    refine take_ (i := 0) (N := some 35) (v := ?_) (a' := ?_) #[true, false, false, true, true, false, false] rfl rfl (by kernel_rfl) (fun _ _ _ h => h) (Or.inl ⟨by rfl, ?_⟩) hHeld ?_ ?_
    rotate_left
    ·rintro w' ⟨s0, s1, s2, s3⟩
     go_simp
     with_reducible rfl
    rotate_left
    ·simp only [Act.put, List.setIfInBounds_toArray, List.set_cons_zero, List.set_cons_succ, i64_w, i32_w]
     rfl
    refine take_ (i := 1) (N := some 36) (v := ?_) (a' := ?_) #[true, true, false, true, true, false, false] rfl rfl (by kernel_rfl) (fun _ _ _ h => h) (Or.inl ⟨by rfl, ?_⟩) hHeld ?_ ?_
    rotate_left
    ·rintro w' ⟨s0, s1, s2, s3⟩
     go_simp
     with_reducible rfl
    rotate_left
    ·simp only [Act.put, List.setIfInBounds_toArray, List.set_cons_zero, List.set_cons_succ, i64_w, i32_w]
     rfl
    refine one_ (i := 2) (N := some 37) #[true, true, true, true, true, false, false] rfl rfl (by kernel_rfl) (by decide) (fun K hK => ?_)
    refine goes_ Tryd.func28 (by kernel_rfl) rfl #[.agg #[.string a0_0, .int .i64 a0_1, .int .i64 a0_2, .slice A0_3 l0_3.length c0_3]] (by rfl) rfl rfl qL ?_
    with_reducible refine (cubbyref11_In.calls kj3 a0_0 a0_1 a0_2 _ _ l0_3 t374 _ ?side1 ?side2 A27.out).mono ?_
    (case side1 => exact qCB HR0_3.out)
    (case side2 => exact HC0_3.out)
    rintro e w30 ⟨v375, rfl, ho0, hb⟩
    refine ⟨_, rfl, ?_⟩
    have n0_ := Aside0.mk (Kd.S_lower ho0 (below_size qB))
    have n1_ := qW BK371 hb
    have n2_ := qH hb
    clear BK371
    clear HB
    have HO376 := n0_
    have BK371 := n1_
    have HB := n2_
    clear n0_ n1_ n2_
    (try clear hb)
    (try clear hb2)
    (try clear hk)
    (try clear hi)
    (try clear ho0)
    obtain ⟨Ao31, co31, eo31⟩ := Kd.S_slice HO376.out
    (first | subst eo31 | (injection eo31 with f1_ f2_ f3_; have f4_ := f1_.symm; have f5_ := f3_.symm; clear f1_ f2_ f3_; subst f4_; subst f5_))
    refine hK.out _ _ ⟨(blk_cell BK371.out 0).trans rfl, (blk_cell BK371.out 1).trans rfl, (blk_cell BK371.out 2).trans rfl, (blk_cell BK371.out 3).trans rfl⟩ (fun hHeld => ?_)
    clear hK K
    refine norm_ (a' := ?_) ?_ ?_
    rotate_left
    ·show Act.put _ (some 37) _ = _
     simp only [Act.put, List.setIfInBounds_toArray, List.set_cons_zero, List.set_cons_succ, i64_w, i32_w]
     rfl
    refine one_ (i := 5) (N := some 40) #[true, true, true, true, true, true, false] rfl rfl (by kernel_rfl) (by decide) (fun K hK => ?_)
    refine goes_ Tryd.func53 (by kernel_rfl) rfl #[.agg #[.string a0_0, .int .i64 a0_1, .int .i64 a0_2, .slice A0_3 l0_3.length c0_3], .slice Ao31 t374.length co31, .int .i64 a1, .int .i64 a2] (by rfl) rfl rfl qL ?_
    with_reducible refine (cubbyref11_ahead.calls kj3 a0_0 a0_1 a0_2 _ _ l0_3 _ _ t374 a1 a2 t377 _ ?side1 ?side2 ?side3 ?side4 A28.out).mono ?_
    (case side1 => exact qCB HR0_3.out)
    (case side2 => exact HC0_3.out)
    (case side3 => repeat (first | exact (Kd.S_reads' HO376.out).2.2 | (with_reducible refine Kd.C_alloc ?_ _) | (with_reducible refine Kd.C_drewN ?_ _) | (with_reducible refine Kd.C_drew ?_)))
    (case side4 => exact (Kd.S_reads' HO376.out).2.1)
    rintro e w32 ⟨v378, rfl, ho0, hb⟩
    refine ⟨_, rfl, ?_⟩
    have n0_ := Aside0.mk (Kd.S_elder' (qS HO376.out) (Kd.R_base ho0) hb)
    have n1_ := Aside0.mk (Kd.R_lower ho0 (below_size qB))
    have n2_ := qW BK371 hb
    have n3_ := qH hb
    clear HO376
    clear BK371
    clear HB
    have HO376 := n0_
    have HO379 := n1_
    have BK371 := n2_
    have HB := n3_
    clear n0_ n1_ n2_ n3_
    (try clear hb)
    (try clear hb2)
    (try clear hk)
    (try clear hi)
    (try clear ho0)
    refine hK.out _ _ ⟨(blk_cell BK371.out 0).trans rfl, (blk_cell BK371.out 1).trans rfl, (blk_cell BK371.out 2).trans rfl, (blk_cell BK371.out 3).trans rfl⟩ (fun hHeld => ?_)
    clear hK K
    refine norm_ (a' := ?_) ?_ ?_
    rotate_left
    ·show Act.put _ (some 40) _ = _
     simp only [Act.put, List.setIfInBounds_toArray, List.set_cons_zero, List.set_cons_succ, i64_w, i32_w]
     rfl
    refine pure_ (i := 6) (N := some 6) (v := ?_) (a' := ?_) #[true, true, true, true, true, true, true] rfl rfl (by kernel_rfl) (fun _ _ _ h => h) (Or.inl ⟨by rfl, ?_⟩) ?_ ?_
    rotate_left
    ·intro w'
     go_simp
     with_reducible rfl
    rotate_left
    ·simp only [Act.put, List.setIfInBounds_toArray, List.set_cons_zero, List.set_cons_succ, i64_w, i32_w]
     rfl
    refine done_ (by kernel_rfl) ?_
    try go_wp2
    go_ret
    exact ⟨_, qE, qR HO379.out, qB⟩

end Go.Proofs.YtebnnknijbgekaaDoor.Q
namespace Go.Proofs.YtebnnknijbgekaaDoor.PlainLive
open Go Go.RowKit Go.Proofs.YtebnnknijbgekaaDoorW.PrintWords Go.Proofs.YtebnnknijbgekaaDoorW.PrintMore Go.Proofs.YtebnnknijbgekaaDoor.Q Go.Proofs.YtebnnknijbgekaaDoor.Plain Go.Proofs.YtebnnknijbgekaaDoor.PlainIr Go.Proofs.YtebnnknijbgekaaDoor.PlainName Go.Proofs.YtebnnknijbgekaaDoor.PlainBits Go.Proofs.YtebnnknijbgekaaDoor.PlainFix Go.Proofs.YtebnnknijbgekaaDoor.PlainSuccs Go.Proofs.YtebnnknijbgekaaDoor.PlainOne Go.Proofs.YtebnnknijbgekaaDoor.PlainHeavy Go.Proofs.YtebnnknijbgekaaDoor.PlainCheck
set_option linter.unusedVariables false
set_option linter.unusedSimpArgs false

theorem toL_low {R x : Nat} (h0 : 0 < x) (h : x < 2 ^ R) (hR : R ≤ 64) : toL R x = (Lib.ctz 64 x : Int) :: toL R (x &&& (x - 1)) := by
  unfold toL
  rw [toN_low h0 h hR]
  rfl
theorem and_lt {x : Nat} (h0 : 0 < x) : x &&& (x - 1) < x := Nat.lt_of_le_of_lt Nat.and_le_right (by omega)
theorem list_ev {R : Nat} (hR : R ≤ 64) {s : Nat} (hs : s < 2 ^ R) : Ev (fun k => live_set_list.f k (s : Int)) (toL R s) := by
  have h : ∀ (d s : Nat) (out : List Int), s ≤ d → s < 2 ^ R → out.length + (toL R s).length ≤ 64 → Ev (fun k => live_set_list.l0 k (s : Int) out) (out ++ toL R s) := by
    intro d
    induction d with
    | zero =>
      intro s out hd hs ho
      obtain rfl : s = 0 := by omega
      rw [toL_zero, List.append_nil]
      exact Ev.step (f := fun _ => some out) (fun k => by simp only [live_set_list.l0]; rw [if_pos (by omega)]) (Ev.now _)
    | succ d ih =>
      intro s out hd hs ho
      by_cases c : s = 0
      · subst c
        rw [toL_zero, List.append_nil]
        exact Ev.step (f := fun _ => some out) (fun k => by simp only [live_set_list.l0]; rw [if_pos (by omega)]) (Ev.now _)
      · have h0 : 0 < s := by omega
        have h64 := lt64 hR hs
        have hlt := and_lt h0
        rw [toL_low h0 hs hR] at ho ⊢
        rw [List.length_cons] at ho
        have := ih (s &&& (s - 1)) (out ++ [(Lib.ctz 64 s : Int)]) (by omega) (by omega) (by rw [List.length_append, List.length_singleton]; omega)
        rw [List.append_assoc, List.singleton_append] at this
        refine Ev.step (fun k => ?_) this
        simp only [live_set_list.l0]
        have e1 : IntKind.u64.wrap ((s : Int) - 1) = ((s - 1 : Nat) : Int) := by
          rw [IntKind.wrap_u64]
          omega
        have e2 : bits_TrailingZeros64.f (s : Int) = some (Lib.ctz 64 s : Int) := by
          unfold bits_TrailingZeros64.f
          rw [if_pos (by omega), Int.toNat_natCast]
        rw [if_neg (by omega), e2, Option.bind_some, if_pos (by omega), e1, u64_and_nat _ _ (by omega) (by omega)]
  have h1 := toL_len R s
  exact h s s [] (Nat.le_refl _) hs (by rw [List.length_nil]; omega)
theorem ints_ev (l : List Int) (hl : l.length ≤ 4611686018427387904) : Ev (fun k => cubbyref10_Ints.f k l l) true := by
  refine Ev.congr (f := fun k => cubbyref10_Ints.l0 k l l ((0 : Nat) : Int)) (fun k => by unfold cubbyref10_Ints.f; rw [if_pos rfl]; rfl) ?_
  refine scan (fun k i => cubbyref10_Ints.l0 k l l (i : Int)) l.length (fun _ => true) ?_ ?_ 0 (Nat.zero_le _)
  · exact Ev.step (f := fun _ => some true) (fun k => by simp only [cubbyref10_Ints.l0]; rw [if_neg (by omega)]) (Ev.now _)
  · intro i hi hE
    exact Ev.step (fun k => by simp only [cubbyref10_Ints.l0]; rw [if_pos (by omega), if_pos (by omega), if_pos (by omega), if_pos trivial, wrap_nat (by omega)]) hE
theorem map_toL_zero (R n : Nat) : List.replicate n ([] : List Int) = (List.replicate n 0).map (toL R) := by
  rw [List.map_replicate, toL_zero]
section
variable (pn : ByteArray) (pp : Int) {R : Nat} {bs : List (List SIns)} (O : BlocksOk R bs)
include O
theorem refin_ev : ∃ z, Sol R bs z ∧ Ev (fun k => cubbyref11_In.l0 k (List.replicate bs.length []) 0 pn pp (R : Int) bs) (z.map (toL R)) := by
  have hbl := O.len
  have hR := O.le
  have E := aheadN_eqs bs R O.regs
  have hnR : bs.length * R ≤ 64000 := Nat.le_trans (Nat.mul_le_mul hbl hR) (by omega)
  have main : ∀ (d : Nat) (y : List Nat) (r : Nat), On bs.length R (fun x b => aheadN bs x b 0) y → r ≤ card R y → bs.length * R + 1 ≤ card R y + d → ∃ z, Sol R bs z ∧ Ev (fun k => cubbyref11_In.l0 k (y.map (toL R)) (r : Int) pn pp (R : Int) bs) (z.map (toL R)) := by
    intro d
    induction d with
    | zero =>
      intro y r hy hr hc
      have h1 := card_le R y
      rw [hy.len] at h1
      omega
    | succ d ih =>
      intro y r hy hr hc
      have hyl := hy.len
      have hcl := card_le R y
      rw [hyl] at hcl
      have hall := on_all E hy
      have hal : ((List.range bs.length).map (fun b => aheadN bs y b 0)).length = bs.length := by simp
      have row : ∀ (e b : Nat) (same : Bool), b + e = bs.length → (same = true ↔ ∀ c, c < b → (toN R (aheadN bs y c 0)).length = (toN R (at_ y c)).length) → ∃ z, Sol R bs z ∧ Ev (fun k => cubbyref11_In.l1 k (y.map (toL R)) (r : Int) (((List.range b).map (fun b => aheadN bs y b 0)).map (toL R)) same (b : Int) pn pp (R : Int) bs) (z.map (toL R)) := by
        intro e
        induction e with
        | zero =>
          intro b same hb hs
          obtain rfl : b = bs.length := by omega
          cases same
          · have hlt : card R y < card R ((List.range bs.length).map (fun b => aheadN bs y b 0)) := by
              apply Nat.lt_of_le_of_ne (card_mono R (by rw [hal, hyl]) hall.2)
              intro e
              have := card_eq R (by rw [hal, hyl]) hall.2 hy.lt hall.1.lt e
              apply absurd (hs.2 ?_) (by simp)
              intro c hc
              have h3 : at_ y c = at_ ((List.range bs.length).map (fun b => aheadN bs y b 0)) c := congrArg (fun l => at_ l c) this
              rw [at_map, if_pos hc] at h3
              rw [h3]
            obtain ⟨z, hz, hE⟩ := ih _ (r + 1) hall.1 (by omega) (by omega)
            exact ⟨z, hz, Ev.step (fun k => by simp only [cubbyref11_In.l1]; rw [if_neg (by omega), if_neg Bool.false_ne_true, wrap_nat (by omega)]) hE⟩
          · have heq := hs.1 rfl
            have hA : ∀ c, c < bs.length → aheadN bs y c 0 = at_ y c := fun c hc => (toN_eq (hy.up c hc) (hy.lt c) (E.lt y hy.lt c hc) (heq c hc).symm).symm
            have hy2 : (List.range bs.length).map (fun b => aheadN bs y b 0) = y := by
              refine list_ext (n := bs.length) (R := R) hal hyl fun c hc => ?_
              rw [at_map, if_pos hc, hA c hc]
            rw [hy2]
            exact ⟨y, ⟨hy, hA⟩, Ev.step (f := fun _ => some (y.map (toL R))) (fun k => by simp only [cubbyref11_In.l1]; rw [if_neg (by omega), if_pos trivial]) (Ev.now _)⟩
        | succ e ihe =>
          intro b same hb hs
          have ha : Ev (fun k => cubbyref11_ahead.f k pn pp (R : Int) bs (y.map (toL R)) (b : Int) 0) (toL R (aheadN bs y b 0)) := refahead_ev pn pp O hyl hy.lt (b := b) (i := 0) (by omega) (Nat.zero_le _)
          have hnow : (((List.range (b + 1)).map (fun b => aheadN bs y b 0)).map (toL R)) = (((List.range b).map (fun b => aheadN bs y b 0)).map (toL R)) ++ [toL R (aheadN bs y b 0)] := by
            rw [List.range_succ, List.map_append, List.map_append]
            rfl
          have hl2 : (((List.range b).map (fun b => aheadN bs y b 0)).map (toL R)).length = b := by simp
          have hlen : ∀ s, ((toL R s).length : Int) = ((toN R s).length : Int) := fun s => by
            unfold toL
            rw [List.length_map]
          cases same
          · have hs2 : ¬ ∀ c, c < b → (toN R (aheadN bs y c 0)).length = (toN R (at_ y c)).length := fun h => absurd (hs.2 h) (by simp)
            obtain ⟨z, hz, hE⟩ := ihe (b + 1) false (by omega) ⟨fun h => absurd h (by simp), fun h => absurd (fun c hc => h c (by omega)) hs2⟩
            rw [hnow] at hE
            refine ⟨z, hz, Ev.step (fun k => by simp only [cubbyref11_In.l1]; rw [if_pos (by omega)]) (Ev.bind ha ?_)⟩
            exact Ev.congr (fun k => by rw [if_neg Bool.false_ne_true, if_pos (by rw [hl2]; omega), wrap_nat (by omega)]) hE
          · have hs1 := hs.1 rfl
            obtain ⟨z, hz, hE⟩ := ihe (b + 1) (((toN R (aheadN bs y b 0)).length : Int) == ((toN R (at_ y b)).length : Int)) (by omega) (by
              rw [beq_iff_eq]
              constructor
              · intro h c hc
                by_cases e : c = b
                · subst e
                  omega
                · exact hs1 c (by omega)
              · intro h
                have := h b (by omega)
                omega)
            rw [hnow] at hE
            refine ⟨z, hz, Ev.step (fun k => by simp only [cubbyref11_In.l1]; rw [if_pos (by omega)]) (Ev.bind ha ?_)⟩
            exact Ev.congr (fun k => by rw [if_pos trivial, if_pos (by omega), if_pos (by rw [List.length_map]; omega), if_pos (by rw [hl2]; omega), rdL_map (by omega) (by omega), hlen, hlen, Int.toNat_natCast, wrap_nat (by omega)]) hE
      obtain ⟨z, hz, hE⟩ := row bs.length 0 true (by omega) ⟨fun _ c hc => by omega, fun _ => rfl⟩
      refine ⟨z, hz, Ev.step (fun k => ?_) hE⟩
      simp only [cubbyref11_In.l0]
      have e1 : ((bs.length : Int) * (R : Int)) = ((bs.length * R : Nat) : Int) := by simp
      rw [e1, wrap_id (i := ((bs.length * R : Nat) : Int)) (by omega) (by omega), wrap_id (by omega) (by omega), if_pos (by omega)]
      rfl
  obtain ⟨z, hz, hE⟩ := main (bs.length * R + 1) (List.replicate bs.length 0) 0 on_zero (Nat.zero_le _) (by omega)
  rw [← map_toL_zero] at hE
  exact ⟨z, hz, hE⟩
end

/-! ### a function that may be -/
theorem ok_regs {nm : ByteArray} {pp : Int} {R : Nat} {bs : List (List SIns)} (F : FuncOk nm pp (R : Int) bs) : ∀ b ∈ bs, ∀ x ∈ b, RegsOk R x := by
  intro b hb x hx
  have hR := F.shape.2.2.2.1
  obtain ⟨j, hj, rfl⟩ := List.mem_iff_getElem.1 hx
  have I := F.ins b hb j hj
  refine ⟨by omega, I.use, ?_⟩
  unfold defOf
  split
  · next h =>
    have := I.def_ h
    omega
  · omega
theorem regs_nat {nm : ByteArray} {pp rg : Int} {bs : List (List SIns)} (F : FuncOk nm pp rg bs) : ∃ R : Nat, rg = R := by
  have h0 := F.shape.1
  have h1 := F.shape.2.2.1
  exact ⟨rg.toNat, by omega⟩
theorem total_le {bs : List (List SIns)} : ∀ b ∈ bs, b.length ≤ total bs := by
  induction bs with
  | nil => simp
  | cons c bs ih =>
    intro b hb
    unfold total
    rcases List.mem_cons.1 hb with rfl | hb
    · omega
    · have := ih b hb
      omega
theorem ok_blocks {nm : ByteArray} {pp : Int} {R : Nat} {bs : List (List SIns)} (F : FuncOk nm pp (R : Int) bs) (hF : FairB bs) : BlocksOk R bs := by
  have h1 := F.shape
  exact ⟨by have := h1.2.2.2.1; omega, by have := h1.2.2.2.2.2.1; omega, fun b hb => by have := total_le b hb; have := F.tot; omega, ok_regs F, hF.ins⟩
section
variable (pn : ByteArray) (pp : Int) {R : Nat} {bs : List (List SIns)} (hF : FairB bs) (F : FuncOk pn pp (R : Int) bs) (hc : checkE pn pp (R : Int) bs = 0)
include hF F hc
/-- Both texts come to one list of masks. -/
theorem both : ∃ z, Sol R bs z ∧ Ev (fun k => live_sets.f k pn pp (R : Int) bs) (toI z) ∧ Ev (fun k => cubbyref11_In.f k pn pp (R : Int) bs) (z.map (toL R)) := by
  have O := ok_blocks F hF
  obtain ⟨z, hz, h1⟩ := sets_ev pn pp O
  obtain ⟨y, hy, h2⟩ := refin_ev pn pp O
  obtain rfl := hz.one hy
  refine ⟨z, hz, h1, ?_⟩
  have h3 := refcheck_ev pn pp (R : Int) bs hF
  rw [hc] at h3
  have hbl := O.len
  refine Ev.bind h3 (Ev.congr (fun k => ?_) h2)
  rw [if_pos rfl, if_pos (by omega), if_pos (by omega), Int.toNat_natCast]
end
theorem Sol.lt {R : Nat} {bs : List (List SIns)} {z : List Nat} (h : Sol R bs z) (b : Nat) : at_ z b < 2 ^ R := h.on.lt b
theorem Sol.len {R : Nat} {bs : List (List SIns)} {z : List Nat} (h : Sol R bs z) : z.length = bs.length := h.on.len
theorem aheadN_lt {R : Nat} {bs : List (List SIns)} (O : BlocksOk R bs) {z : List Nat} (hz : Sol R bs z) {b i : Nat} (hb : b < bs.length) : aheadN bs z b i < 2 ^ R := by
  unfold aheadN
  refine foldr_lt _ _ (fun x hx => ?_) (or_lt bs hz.lt _)
  have hx := List.mem_of_mem_drop hx
  rw [getD_get hb] at hx
  exact O.regs _ (List.getElem_mem hb) x hx
end Go.Proofs.YtebnnknijbgekaaDoor.PlainLive
namespace Go.Proofs.YtebnnknijbgekaaDoor.Q
open Go.RowKit Go.Proofs.YtebnnknijbgekaaDoorW.PrintWords Go.Proofs.YtebnnknijbgekaaDoorW.PrintLast Go.Proofs.YtebnnknijbgekaaDoorW.PrintMore
attribute [local go_sem] max2_int min2_int max_two min_two max_three min_three max_four min_four   -- for this text's walks alone
set_option linter.unusedVariables false
set_option linter.unusedSimpArgs false

/-! ### cubbylaw11_has: function 24 -/
def cubbylaw11_has.l0 : Nat → List Int → Int → Int → Option (Bool)
 | 0, _, _, _ => none
 | k + 1, x0, x1, x5 => if x5 < (x0.length : Int) then (if 0 ≤ x5 then (if (rd x0 x5) = x1 then (some true) else (cubbylaw11_has.l0 k x0 x1 (wrap64 (x5 + 1)))) else (none)) else (some false)
def cubbylaw11_has.f (k : Nat) (l0 : List Int) (a1 : Int) : Option (Bool) := cubbylaw11_has.l0 k l0 a1 0
theorem cubbylaw11_has.mono_l : ∀ k, (∀ y0 y1 y2, LeO (cubbylaw11_has.l0 k y0 y1 y2) (cubbylaw11_has.l0 (k + 1) y0 y1 y2))
 | 0 => fun _ _ _ r h => by simp [cubbylaw11_has.l0] at h
 | k + 1 => by
  have ih0 := cubbylaw11_has.mono_l k
  ·intro y0 y1 y2
   unfold cubbylaw11_has.l0
   repeat' first | (with_reducible exact ih0 _ _ _) | (with_reducible exact LeO.refl _) | (with_reducible exact LeO.none _) | (with_reducible refine LeO.ite ?_ ?_) | (with_reducible refine LeO.bind ?_ (fun _ => ?_)) | exact LeO.none _ | refine LeO.ite ?_ ?_ | refine LeO.bind ?_ (fun _ => ?_)
theorem cubbylaw11_has.mono : ∀ a0 a1 k, LeO (cubbylaw11_has.f k a0 a1) (cubbylaw11_has.f (k + 1) a0 a1) := by
 intro a0 a1 k
 have ih0 := cubbylaw11_has.mono_l k
 unfold cubbylaw11_has.f
 repeat' first | (with_reducible exact ih0 _ _ _) | (with_reducible exact LeO.refl _) | (with_reducible exact LeO.none _) | (with_reducible refine LeO.ite ?_ ?_) | (with_reducible refine LeO.bind ?_ (fun _ => ?_)) | exact LeO.none _ | refine LeO.ite ?_ ?_ | refine LeO.bind ?_ (fun _ => ?_)
set_option maxHeartbeats 8000000 in
set_option maxRecDepth 100000 in
theorem cubbylaw11_has.calls (k : Nat) (A0 : Option Addr) (c0 : Nat) (l0 : List Int) (a1 : Int) (r : Bool) (w : World) (hr0 : Kd.C (Kd.int .i64) w A0 l0.length l0) (hc0 : l0.length ≤ c0) (h : cubbylaw11_has.f k l0 a1 = some r) :
  Calls Tryd.prog 24 #[.slice A0 l0.length c0, .int .i64 a1] w fun e w' => e = .returned (.bool r) ∧ Drawn0 w w' := by
 have HR0 := Aside0.mk hr0
 have HC0 := Aside0.mk hc0
 clear hr0 hc0
 have H := h; clear h; unfold cubbylaw11_has.f at H
 have H' := Aside0.mk H
 clear H
 go_enter Tryd.func24, Tryd.ntmps24
 go_wp2
 go_loopg [5] k (fun kq v5 w' => ∃ (x5_1 : Int), v5 = .int .i64 x5_1 ∧ Aside0 (cubbylaw11_has.l0 kq l0 a1 x5_1 = some r) ∧ Aside0 (kq ≤ k) ∧ Drawn0 w w')
 case atStart => exact ⟨(0), qT, H', ⟨Nat.le_refl _⟩, qD⟩
 case round =>
  clear H'
  try clear c2; try clear p2
  obtain ⟨x5_1, rfl, HA, HK1, ⟨m1, rfl⟩⟩ := hrel
  cases gk with
  | zero => exact absurd HA.out (by simp [cubbylaw11_has.l0])
  | succ k1 =>
   have H := HA.out
   clear HA
   simp only [cubbylaw11_has.l0] at H
   by_cases c3 : x5_1 < (l0.length : Int)
   ·rw [if_pos c3] at H
    have c3b0 := decide_eq_true c3
    clear c3
    by_cases c4 : 0 ≤ x5_1
    ·rw [if_pos c4] at H
     have c4b0 := decide_eq_true c4
     clear c4
     by_cases c5 : (rd l0 x5_1) = a1
     ·rw [if_pos c5] at H
      obtain ⟨c5b0, c5b1⟩ := qe c5; clear c5
      obtain rfl := Option.some.inj H
      have p398 : 0 ≤ (x5_1 : Int) := of_decide_eq_true qA
      have q398 : x5_1 < (l0.length : Int) := of_decide_eq_true qA
      obtain ⟨ad398, e398, hx398_0⟩ := Kd.at_int HR0.out x5_1 p398 q398
      cases e398
      replace p398 := eq_true p398
      replace q398 := eq_true q398
      go_wp2
      go_ret
      exact ⟨by first | rfl | (simp; done) | (simp [*]; done), qD⟩
     ·rw [if_neg c5] at H
      obtain ⟨c5b0, c5b1⟩ := qn c5
      have H' := Aside0.mk H
      clear H
      have p398 : 0 ≤ (x5_1 : Int) := of_decide_eq_true qA
      have q398 : x5_1 < (l0.length : Int) := of_decide_eq_true qA
      obtain ⟨ad398, e398, hx398_0⟩ := Kd.at_int HR0.out x5_1 p398 q398
      cases e398
      replace p398 := eq_true p398
      replace q398 := eq_true q398
      go_wp2
      go_roundg k1
      case measure => have := HK1.out; omega
      case rel => exact ⟨(wrap64 (x5_1 + 1)), qT, H', ⟨by have := HK1.out; omega⟩, qD⟩
    ·rw [if_neg c4] at H
     exact absurd H (by simp)
   ·rw [if_neg c3] at H
    have c3b0 := decide_eq_false c3
    clear c3
    obtain rfl := Option.some.inj H
    go_wp2
    go_ret
    exact ⟨by first | rfl | (simp; done) | (simp [*]; done), qD⟩

end Go.Proofs.YtebnnknijbgekaaDoor.Q
namespace Go.Proofs.YtebnnknijbgekaaDoor.PlainLive
open Go Go.RowKit Go.Proofs.YtebnnknijbgekaaDoorW.PrintWords Go.Proofs.YtebnnknijbgekaaDoorW.PrintMore Go.Proofs.YtebnnknijbgekaaDoor.Q Go.Proofs.YtebnnknijbgekaaDoor.Plain Go.Proofs.YtebnnknijbgekaaDoor.PlainIr Go.Proofs.YtebnnknijbgekaaDoor.PlainName Go.Proofs.YtebnnknijbgekaaDoor.PlainBits Go.Proofs.YtebnnknijbgekaaDoor.PlainFix Go.Proofs.YtebnnknijbgekaaDoor.PlainSuccs Go.Proofs.YtebnnknijbgekaaDoor.PlainOne Go.Proofs.YtebnnknijbgekaaDoor.PlainHeavy Go.Proofs.YtebnnknijbgekaaDoor.PlainCheck
set_option linter.unusedVariables false
set_option linter.unusedSimpArgs false

theorem livenone_ev : Ev (fun k => live_Check.f k (⟨#[]⟩ : ByteArray) 0 0 ([] : List (List (SIns)))) 70 := by
  have h := check_ev (⟨#[]⟩ : ByteArray) 0 0 [] ⟨by simp, by simp, by simp⟩
  rw [show checkE (⟨#[]⟩ : ByteArray) 0 0 [] = 70 by decide +kernel] at h
  exact Ev.bind h (Ev.now _)
theorem same_ev11 (l : List Int) (hl : l.length ≤ 4611686018427387904) : Ev (fun k => cubbylaw11_same.f k l l) true := Ev.bind (ints_ev l hl) (Ev.now _)
theorem has11_ev (l : List Int) (x : Int) (hl : l.length ≤ 4611686018427387904) : Ev (fun k => cubbylaw11_has.f k l x) (decide (x ∈ l)) := by
  show Ev (fun k => cubbylaw11_has.l0 k l x ((0 : Nat) : Int)) _
  refine seek (fun k i => cubbylaw11_has.l0 k l x (i : Int)) l.length (fun i => rd l (i : Int) = x) true _ ?_ ?_ ?_ ?_
  · intro i hi hb
    exact Ev.step (f := fun _ => some true) (fun k => by simp only [cubbylaw11_has.l0]; rw [if_pos (by omega), if_pos (by omega), if_pos hb]) (Ev.now _)
  · intro i hi hb r' hE
    exact Ev.step (fun k => by simp only [cubbylaw11_has.l0]; rw [if_pos (by omega), if_pos (by omega), if_neg hb, wrap_nat (by omega)]) hE
  · rintro ⟨i, hi, hb⟩
    rw [rd_get hi] at hb
    exact decide_eq_true (hb ▸ List.getElem_mem hi)
  · intro h
    rw [decide_eq_false (fun hx => by
      obtain ⟨i, hi, e⟩ := List.mem_iff_getElem.1 hx
      exact h i hi ((rd_get hi).trans e))]
    exact Ev.step (f := fun _ => some false) (fun k => by simp only [cubbylaw11_has.l0]; rw [if_neg (by omega)]) (Ev.now _)
/-- The bound answers; and if it says no, the function may be. -/
theorem heavy11_ev (pn : ByteArray) (pp rg : Int) (bs : List (List SIns)) (hF : FairB bs) : ∃ h, Ev (fun k => cubbylaw11_heavy.f k pn pp rg bs) h ∧ (h = false → checkE pn pp rg bs = 0 ∧ pn.size ≤ 100 ∧ bs.length ≤ 12 ∧ rg ≤ 40) := by
  by_cases c0 : (pn.size : Int) > 100
  · exact ⟨true, Ev.congr (f := fun _ => some true) (fun k => by unfold cubbylaw11_heavy.f; rw [if_pos c0]) (Ev.now _), by simp⟩
  by_cases c1 : (bs.length : Int) > 12
  · exact ⟨true, Ev.congr (f := fun _ => some true) (fun k => by unfold cubbylaw11_heavy.f; rw [if_neg c0, if_pos c1]) (Ev.now _), by simp⟩
  have h := refcheck_ev pn pp rg bs hF
  by_cases c2 : checkE pn pp rg bs = 0
  · refine ⟨decide (rg > 40), Ev.congr (fun k => by unfold cubbylaw11_heavy.f; rw [if_neg c0, if_neg c1]) (Ev.bind h (Ev.congr (f := fun _ => some (decide (rg > 40))) (fun k => by rw [if_pos c2]) (Ev.now _))), fun h2 => ?_⟩
    have := of_decide_eq_false h2
    exact ⟨c2, by omega, by omega, by omega⟩
  · exact ⟨true, Ev.congr (fun k => by unfold cubbylaw11_heavy.f; rw [if_neg c0, if_neg c1]) (Ev.bind h (Ev.congr (f := fun _ => some true) (fun k => by rw [if_neg c2]) (Ev.now _))), by simp⟩
section
variable (pn : ByteArray) (pp : Int) {R : Nat} {bs : List (List SIns)} (hF : FairB bs) (F : FuncOk pn pp (R : Int) bs) (hc : checkE pn pp (R : Int) bs = 0) {z : List Nat} (hz : Sol R bs z)
  (h1 : Ev (fun k => live_sets.f k pn pp (R : Int) bs) (toI z)) (h2 : Ev (fun k => cubbyref11_In.f k pn pp (R : Int) bs) (z.map (toL R)))
include hF F hc hz h1
theorem in_ev : Ev (fun k => live_In.f k pn pp (R : Int) bs) (z.map (toL R)) := by
  have O := ok_blocks F hF
  have hbl := O.len
  have hzl := hz.len
  have hR := O.le
  have h3 := check_ev pn pp (R : Int) bs hF
  rw [hc] at h3
  refine Ev.bind h3 (Ev.congr (fun k => by rw [if_pos rfl]) (Ev.bind h1 ?_))
  have h : ∀ (d j : Nat), j + d = z.length → Ev (fun k => live_In.l0 k ((z.take j).map (toL R)) (toI z) ((toI z).length : Int) (j : Int)) (z.map (toL R)) := by
    intro d
    induction d with
    | zero =>
      intro j hj
      rw [List.take_of_length_le (by omega)]
      exact Ev.step (f := fun _ => some (z.map (toL R))) (fun k => by simp only [live_In.l0]; rw [if_neg (by rw [toI_len]; omega)]) (Ev.now _)
    | succ d ih =>
      intro j hj
      have hjl : j < z.length := by omega
      have := ih (j + 1) (by omega)
      rw [List.take_succ_eq_append_getElem hjl, List.map_append, List.map_singleton] at this
      have e : at_ z j = z[j] := by
        unfold at_
        rw [List.getD_eq_getElem?_getD, List.getElem?_eq_getElem hjl]
        rfl
      have hl := list_ev hR (hz.lt j)
      refine Ev.step (fun k => by simp only [live_In.l0]; rw [if_pos (by rw [toI_len]; omega), if_pos (by omega), if_pos (by rw [toI_len]; omega), rd_toI, Int.toNat_natCast]) (Ev.bind hl ?_)
      rw [← e] at this
      exact Ev.congr (fun k => by rw [if_pos (by rw [List.length_map, List.length_take]; omega), wrap_nat (by omega)]) this
  have := h z.length 0 (by omega)
  rw [List.take_zero] at this
  exact this
theorem aheadL_ev {b i : Nat} (hb : b < bs.length) (hi : i ≤ (bs.getD b []).length) : Ev (fun k => live_Ahead.f k pn pp (R : Int) bs (b : Int) (i : Int)) (toL R (aheadN bs z b i)) := by
  have O := ok_blocks F hF
  have hR := O.le
  have h3 := check_ev pn pp (R : Int) bs hF
  rw [hc] at h3
  refine Ev.bind h3 (Ev.congr (fun k => by rw [if_pos rfl, if_neg (by omega), if_neg (by omega), if_neg (by omega), if_pos (by omega), if_pos (by omega), rd_row hb, decide_eq_false (by omega)]) ?_)
  refine Ev.step (fun k => by simp only [live_Ahead.j0]; rw [if_neg Bool.false_ne_true]) (Ev.bind h1 (Ev.bind (ahead_ev pn pp O hz.len hz.lt hb hi) (Ev.bind (list_ev hR (aheadN_lt O hz hb)) (Ev.now _))))
end
section
variable (pn : ByteArray) (pp : Int) {R : Nat} {bs : List (List SIns)} (hF : FairB bs) (F : FuncOk pn pp (R : Int) bs) (hc : checkE pn pp (R : Int) bs = 0) {z : List Nat} (hz : Sol R bs z)
  (h2 : Ev (fun k => cubbyref11_In.f k pn pp (R : Int) bs) (z.map (toL R)))
include hF F hc hz h2
theorem refaheadL_ev {b i : Nat} (hb : b < bs.length) (hi : i ≤ (bs.getD b []).length) : Ev (fun k => cubbyref11_Ahead.f k pn pp (R : Int) bs (b : Int) (i : Int)) (toL R (aheadN bs z b i)) := by
  have O := ok_blocks F hF
  have hR := O.le
  have h3 := refcheck_ev pn pp (R : Int) bs hF
  rw [hc] at h3
  refine Ev.bind h3 (Ev.congr (fun k => by rw [if_pos rfl, if_neg (by omega), if_neg (by omega), if_neg (by omega), if_pos (by omega), if_pos (by omega), rd_row hb, decide_eq_false (by omega)]) ?_)
  refine Ev.step (fun k => by simp only [cubbyref11_Ahead.j0]; rw [if_neg Bool.false_ne_true]) (Ev.bind h2 (Ev.bind (refahead_ev pn pp O hz.len hz.lt hb hi) (Ev.now _)))
end
section
variable (pn : ByteArray) (pp rg : Int) {bs : List (List SIns)} (hF : FairB bs) (hc : checkE pn pp rg bs = 0)
include hF hc
theorem out_ev {b i : Int} (h : b < 0 ∨ (bs.length : Int) ≤ b ∨ i < 0 ∨ ((bs.getD b.toNat []).length : Int) < i) : Ev (fun k => live_Ahead.f k pn pp rg bs b i) [] := by
  have h3 := check_ev pn pp rg bs hF
  rw [hc] at h3
  have hj : Ev (fun k => live_Ahead.j0 k b i true pn pp rg bs) [] := Ev.step (f := fun _ => some []) (fun k => by simp only [live_Ahead.j0]; rw [if_pos trivial]) (Ev.now _)
  refine Ev.bind h3 ?_
  by_cases c0 : b < 0
  · exact Ev.congr (fun k => by rw [if_pos rfl, if_pos c0]) hj
  by_cases c1 : b ≥ (bs.length : Int)
  · exact Ev.congr (fun k => by rw [if_pos rfl, if_neg c0, if_pos c1]) hj
  by_cases c2 : i < 0
  · exact Ev.congr (fun k => by rw [if_pos rfl, if_neg c0, if_neg c1, if_pos c2]) hj
  have e : rd_LIns bs b = bs.getD b.toNat [] := rfl
  exact Ev.congr (fun k => by rw [if_pos rfl, if_neg c0, if_neg c1, if_neg c2, if_pos (by omega), if_pos (by omega), e, decide_eq_true (by omega)]) hj
theorem refout_ev {b i : Int} (h : b < 0 ∨ (bs.length : Int) ≤ b ∨ i < 0 ∨ ((bs.getD b.toNat []).length : Int) < i) : Ev (fun k => cubbyref11_Ahead.f k pn pp rg bs b i) [] := by
  have h3 := refcheck_ev pn pp rg bs hF
  rw [hc] at h3
  have hj : Ev (fun k => cubbyref11_Ahead.j0 k b i true pn pp rg bs) [] := Ev.step (f := fun _ => some []) (fun k => by simp only [cubbyref11_Ahead.j0]; rw [if_pos trivial]) (Ev.now _)
  refine Ev.bind h3 ?_
  by_cases c0 : b < 0
  · exact Ev.congr (fun k => by rw [if_pos rfl, if_pos c0]) hj
  by_cases c1 : b ≥ (bs.length : Int)
  · exact Ev.congr (fun k => by rw [if_pos rfl, if_neg c0, if_pos c1]) hj
  by_cases c2 : i < 0
  · exact Ev.congr (fun k => by rw [if_pos rfl, if_neg c0, if_neg c1, if_pos c2]) hj
  have e : rd_LIns bs b = bs.getD b.toNat [] := rfl
  exact Ev.congr (fun k => by rw [if_pos rfl, if_neg c0, if_neg c1, if_neg c2, if_pos (by omega), if_pos (by omega), e, decide_eq_true (by omega)]) hj
end
/-- Whatever the place: the two texts' answers are one short list. -/
theorem aheads (pn : ByteArray) (pp : Int) {R : Nat} {bs : List (List SIns)} (hF : FairB bs) (F : FuncOk pn pp (R : Int) bs) (hc : checkE pn pp (R : Int) bs = 0) {z : List Nat} (hz : Sol R bs z)
    (h1 : Ev (fun k => live_sets.f k pn pp (R : Int) bs) (toI z)) (h2 : Ev (fun k => cubbyref11_In.f k pn pp (R : Int) bs) (z.map (toL R))) (b i : Int) :
    ∃ l : List Int, l.length ≤ R ∧ Ev (fun k => live_Ahead.f k pn pp (R : Int) bs b i) l ∧ Ev (fun k => cubbyref11_Ahead.f k pn pp (R : Int) bs b i) l := by
  by_cases h : b < 0 ∨ (bs.length : Int) ≤ b ∨ i < 0 ∨ ((bs.getD b.toNat []).length : Int) < i
  · exact ⟨[], Nat.zero_le _, out_ev pn pp (R : Int) hF hc h, refout_ev pn pp (R : Int) hF hc h⟩
  · have hb : b.toNat < bs.length := by omega
    have hi : i.toNat ≤ (bs.getD b.toNat []).length := by omega
    have e1 := aheadL_ev pn pp hF F hc hz h1 hb hi
    have e2 := refaheadL_ev pn pp hF F hc hz h2 hb hi
    rw [show ((b.toNat : Nat) : Int) = b by omega, show ((i.toNat : Nat) : Int) = i by omega] at e1 e2
    exact ⟨_, toL_len R _, e1, e2⟩
theorem toL_low_of {R s p : Nat} (hs : s < 2 ^ R) : s / 2 ^ p = 0 ↔ ∀ n ∈ toL R s, n < p := by
  rw [Nat.div_eq_zero_iff_lt (Nat.pos_of_ne_zero (by simp))]
  constructor
  · intro h n hn
    obtain ⟨r, rfl, hr, hb⟩ := toL_nat hn
    apply Decidable.byContradiction
    intro hp
    have : s.testBit r = false := Nat.testBit_lt_two_pow (Nat.lt_of_lt_of_le h (Nat.pow_le_pow_right (by omega) (by omega)))
    rw [this] at hb
    exact absurd hb (by simp)
  · intro h
    apply Nat.lt_pow_two_of_testBit
    intro i hi
    cases hb : s.testBit i
    · rfl
    · have hiR : i < R := by
        apply Decidable.byContradiction
        intro hp
        have : s.testBit i = false := Nat.testBit_lt_two_pow (Nat.lt_of_lt_of_le hs (Nat.pow_le_pow_right (by omega) (by omega)))
        rw [this] at hb
        exact absurd hb (by simp)
      have := h i (mem_toL.2 ⟨hiR, hb⟩)
      omega
/-- Whether a register is used that has no value, by both texts. -/
theorem checks (pn : ByteArray) {pp : Int} {R : Nat} {bs : List (List SIns)} (hF : FairB bs) (F : FuncOk pn pp (R : Int) bs) (hc : checkE pn pp (R : Int) bs = 0) {z : List Nat} (hz : Sol R bs z)
    (h1 : Ev (fun k => live_sets.f k pn pp (R : Int) bs) (toI z)) (h2 : Ev (fun k => cubbyref11_In.f k pn pp (R : Int) bs) (z.map (toL R))) :
    Ev (fun k => live_Check.f k pn pp (R : Int) bs) (if at_ z 0 / 2 ^ pp.toNat = 0 then 0 else 110) ∧ Ev (fun k => cubbyref11_Check.f k pn pp (R : Int) bs) (if at_ z 0 / 2 ^ pp.toNat = 0 then 0 else 110) := by
  have O := ok_blocks F hF
  have hR := O.le
  have hS := F.shape
  have hp0 := hS.1
  have hp1 := hS.2.1
  have hb0 := hS.2.2.2.2.1
  have hzl := hz.len
  constructor
  · have h3 := check_ev pn pp (R : Int) bs hF
    rw [hc] at h3
    refine Ev.bind h3 (Ev.congr (fun k => by rw [if_pos rfl]) (Ev.bind h1 ?_))
    have e1 : IntKind.u64.wrap pp = pp := by
      rw [IntKind.wrap_u64]
      omega
    have e2 : shr .u64 (rd (toI z) 0) pp = ((at_ z 0 / 2 ^ pp.toNat : Nat) : Int) := by
      unfold shr
      rw [rd_toI, show IntKind.u64.bits = 64 from rfl, Nat.min_eq_left (by omega)]
      rw [show ((2 : Int) ^ pp.toNat) = ((2 ^ pp.toNat : Nat) : Int) by simp]
      rw [Int.toNat_zero]
      exact (Int.natCast_ediv _ _).symm
    by_cases c : at_ z 0 / 2 ^ pp.toNat = 0
    · rw [if_pos c]
      exact Ev.congr (f := fun _ => some 0) (fun k => by rw [if_pos (by rw [toI_len]; omega), e1, if_pos hp0, e2, if_pos (by omega)]) (Ev.now _)
    · rw [if_neg c]
      exact Ev.congr (f := fun _ => some 110) (fun k => by rw [if_pos (by rw [toI_len]; omega), e1, if_pos hp0, e2, if_neg (by omega)]) (Ev.now _)
  · have h3 := refcheck_ev pn pp (R : Int) bs hF
    rw [hc] at h3
    refine Ev.bind h3 (Ev.congr (fun k => by rw [if_pos rfl]) (Ev.bind h2 ?_))
    have hlen := toL_len R (at_ z 0)
    have hlow := toL_low_of (R := R) (p := pp.toNat) (hz.lt 0)
    refine Ev.congr (f := fun k => cubbyref11_Check.l0 k (toL R (at_ z 0)) ((0 : Nat) : Int) pn pp (R : Int) bs) (fun k => by rw [if_pos (by rw [List.length_map]; omega), rdL_map (by omega) (by omega)]; rfl) ?_
    refine seek (fun k i => cubbyref11_Check.l0 k (toL R (at_ z 0)) (i : Int) pn pp (R : Int) bs) (toL R (at_ z 0)).length (fun i => rd (toL R (at_ z 0)) (i : Int) ≥ pp) 110 _ ?_ ?_ ?_ ?_
    · intro i hi hb
      exact Ev.step (f := fun _ => some 110) (fun k => by simp only [cubbyref11_Check.l0]; rw [if_pos (by omega), if_pos (by omega), if_pos hb]) (Ev.now _)
    · intro i hi hb r' hE
      exact Ev.step (fun k => by simp only [cubbyref11_Check.l0]; rw [if_pos (by omega), if_pos (by omega), if_neg hb, wrap_nat (by omega)]) hE
    · rintro ⟨i, hi, hb⟩
      rw [rd_get hi] at hb
      rw [if_neg]
      intro h
      have := hlow.1 h _ (List.getElem_mem hi)
      omega
    · intro h
      rw [if_pos (hlow.2 fun n hn => by
        obtain ⟨i, hi, e⟩ := List.mem_iff_getElem.1 hn
        have := h i hi
        rw [rd_get hi, e] at this
        omega)]
      exact Ev.step (f := fun _ => some 0) (fun k => by simp only [cubbyref11_Check.l0]; rw [if_neg (by omega)]) (Ev.now _)
end Go.Proofs.YtebnnknijbgekaaDoor.PlainLive
