/- For every input the law LiveSmall returns true, and its arguments read behind the call as they did: no condition. -/
import Derived.Test.YtebnnknijbgekaaDoorRows
import Derived.WalkKit
import Derived.ProofKit
import Derived.OpenShut
import Derived.ShutString
import Derived.ChangeOld
import Derived.Below
import Derived.SizedLaws
import Derived.Test.YtebnnknijbgekaaDoorCards
import Derived.Test.YtebnnknijbgekaaDoorTie
import Derived.LaidMore
import Derived.Lay
import Derived.SevenTiedAt
import Derived.Stop.Joined
import Derived.Lib.LaidU8
import Derived.Test.YtebnnknijbgekaaDoorMLiveSmall1
import Derived.Test.YtebnnknijbgekaaDoorMLiveSmall2
import Derived.Test.YtebnnknijbgekaaDoorMLiveSmall3
import Derived.Test.YtebnnknijbgekaaDoorMLiveSmall4
import Derived.Test.YtebnnknijbgekaaDoorMLiveSmall5
namespace Go.Proofs.YtebnnknijbgekaaDoor.PlainLive
open Go Go.RowKit Go.Proofs.YtebnnknijbgekaaDoorW.PrintWords Go.Proofs.YtebnnknijbgekaaDoorW.PrintMore Go.Proofs.YtebnnknijbgekaaDoor.Q Go.Proofs.YtebnnknijbgekaaDoor.Plain Go.Proofs.YtebnnknijbgekaaDoor.PlainIr Go.Proofs.YtebnnknijbgekaaDoor.PlainBits Go.Proofs.YtebnnknijbgekaaDoor.PlainFix Go.Proofs.YtebnnknijbgekaaDoor.PlainSuccs Go.Proofs.YtebnnknijbgekaaDoor.PlainOne Go.Proofs.YtebnnknijbgekaaDoor.PlainHeavy Go.Proofs.YtebnnknijbgekaaDoor.PlainCheck
set_option linter.unusedVariables false
set_option linter.unusedSimpArgs false

theorem with_eq {s : Nat} {n : Int} (h0 : 0 ≤ n) (h : n < 64) (hs : s < 2 ^ 64) : live_set_with.f (s : Int) n = some ((withB s n.toNat : Nat) : Int) := by
  unfold live_set_with.f
  rw [if_pos (wrap_nonneg n)]
  have := bits_with (s := s) (r := n.toNat) (by omega) hs
  rw [show ((n.toNat : Nat) : Int) = n by omega] at this
  rw [this]
theorem without_eq {s : Nat} {n : Int} (h0 : 0 ≤ n) (h : n < 64) (hs : s < 2 ^ 64) : live_set_without.f (s : Int) n = some ((withoutB s n.toNat : Nat) : Int) := by
  unfold live_set_without.f
  rw [if_pos (wrap_nonneg n)]
  have := bits_without (s := s) (r := n.toNat) (by omega) hs
  rw [show ((n.toNat : Nat) : Int) = n by omega] at this
  rw [this]
theorem each_ev {R : Nat} (hR : R ≤ 64) (l : List Int) (hl : l.length ≤ 4611686018427387904) (hm : ∀ n ∈ l, 0 ≤ n ∧ n < R) {s : Nat} (hs : s < 2 ^ R) (B : Bool) : Ev (fun k => live_set_each.f k (s : Int) l B) ((l.foldl (fun s n => withB s n.toNat) s : Nat) : Int) := by
  have h : ∀ (d j s : Nat), j + d = l.length → s < 2 ^ R → Ev (fun k => live_set_each.l0 k (s : Int) l (l.length : Int) (j : Int)) (((l.drop j).foldl (fun s n => withB s n.toNat) s : Nat) : Int) := by
    intro d
    induction d with
    | zero =>
      intro j s hj hs
      rw [List.drop_eq_nil_of_le (by omega)]
      exact Ev.step (f := fun _ => some (s : Int)) (fun k => by simp only [live_set_each.l0]; rw [if_neg (by omega)]) (Ev.now _)
    | succ d ih =>
      intro j s hj hs
      have hjl : j < l.length := by omega
      have h1 := hm _ (List.getElem_mem hjl)
      rw [drop_cons hjl, List.foldl_cons]
      refine Ev.step (fun k => ?_) (ih (j + 1) (withB s (l[j]).toNat) (by omega) (withB_lt (by omega) hs))
      simp only [live_set_each.l0]
      rw [if_pos (by omega), if_pos (by omega), if_pos (by omega), rd_get hjl, with_eq h1.1 (by omega) (lt64 hR hs), Option.bind_some, wrap_nat (by omega)]
  have := h l.length 0 s (by omega) hs
  rw [List.drop_zero] at this
  exact this
theorem through_ev {R : Nat} {x : SIns} (O : RegsOk R x) (hx : x.f5.length ≤ 17592186043904) {s : Nat} (hs : s < 2 ^ R) : Ev (fun k => live_through.f k x.f0 x.f1 x.f2 x.f3 x.f4 x.f5 (s : Int)) ((thrN x s : Nat) : Int) := by
  have hd := O.def_
  have hR := O.le
  unfold thrN
  by_cases c : 0 ≤ defOf x.f0 x.f1
  · rw [if_pos c]
    refine Ev.congr (fun k => by unfold live_through.f; rw [def_eq, Option.bind_some, if_pos c, without_eq c (by omega) (lt64 hR hs), Option.bind_some]) (Ev.bind (uses_ev x.f0 x.f1 x.f2 x.f3 x.f4 x.f5 (by omega)) ?_)
    exact Ev.bind (each_ev hR _ (uses_short (by omega)) O.use (withoutB_lt hs) false) (Ev.now _)
  · rw [if_neg c]
    refine Ev.congr (fun k => by unfold live_through.f; rw [def_eq, Option.bind_some, if_neg c]) (Ev.bind (uses_ev x.f0 x.f1 x.f2 x.f3 x.f4 x.f5 (by omega)) ?_)
    exact Ev.bind (each_ev hR _ (uses_short (by omega)) O.use hs false) (Ev.now _)
/-- Masks as the program's numbers. -/
def toI (inn : List Nat) : List Int := inn.map (fun n : Nat => (n : Int))
theorem toI_len (inn : List Nat) : (toI inn).length = inn.length := by
  unfold toI
  rw [List.length_map]
theorem rd_toI {inn : List Nat} {b : Int} : rd (toI inn) b = ((at_ inn b.toNat : Nat) : Int) := by
  show (toI inn).getD b.toNat 0 = _
  unfold at_ toI
  rw [List.getD_eq_getElem?_getD, List.getD_eq_getElem?_getD, List.getElem?_map]
  cases inn[b.toNat]? <;> rfl
section
variable (pn : ByteArray) (pp : Int) {R : Nat} {bs : List (List SIns)} (O : BlocksOk R bs) {inn : List Nat} (hlen : inn.length = bs.length) (hlt : ∀ b, at_ inn b < 2 ^ R)
include O hlen hlt
theorem ahead_ev {b i : Nat} (hb : b < bs.length) (hi : i ≤ (bs.getD b []).length) : Ev (fun k => live_ahead.f k pn pp (R : Int) bs (toI inn) (b : Int) (i : Int)) ((aheadN bs inn b i : Nat) : Int) := by
  have hbl := O.len
  have hR := O.le
  have hrow := getD_get hb
  have hr := O.row _ (List.getElem_mem hb)
  have hregs := O.regs _ (List.getElem_mem hb)
  have hargs := O.args _ (List.getElem_mem hb)
  rw [← hrow] at hr hregs hargs
  have h1 : ∀ (d m s : Nat), i + d = m → m ≤ (bs.getD b []).length → s < 2 ^ R → Ev (fun k => live_ahead.l1 k (b : Int) (i : Int) (s : Int) ((m : Int) - 1) pn pp (R : Int) bs) (((((bs.getD b []).take m).drop i).foldr thrN s : Nat) : Int) := by
    generalize hg : bs.getD b [] = row at *
    intro d
    induction d with
    | zero =>
      intro m s hm hml hs
      rw [List.drop_eq_nil_of_le (by rw [List.length_take]; omega)]
      exact Ev.step (f := fun _ => some (s : Int)) (fun k => by simp only [live_ahead.l1]; rw [if_neg (by omega)]) (Ev.now _)
    | succ d ih =>
      intro m s hm hml hs
      obtain ⟨m', rfl⟩ : ∃ m', m = m' + 1 := ⟨m - 1, by omega⟩
      have hm' : m' < row.length := by omega
      rw [row_fold (by omega) hm']
      have hx := hregs _ (List.getElem_mem hm')
      rw [show (((m' + 1 : Nat) : Int) - 1) = (m' : Int) by omega]
      refine Ev.step (fun k => by simp only [live_ahead.l1]; rw [if_pos (by omega), if_pos (by omega), if_pos (by omega), if_pos (by omega), rd_row hb, hg, if_pos (by omega), rd_ins hm']) (Ev.bind (through_ev hx (hargs _ (List.getElem_mem hm')) hs) ?_)
      exact Ev.congr (fun k => by rw [wrap_id (by omega) (by omega)]) (ih m' _ (by omega) (by omega) (thrN_lt hx hs))
  have hm := succs_mem bs (b : Int)
  have hl := succs_len bs (b : Int)
  refine Ev.bind (succs_ev bs (b : Int) O.small) ?_
  unfold aheadN orN
  generalize succs bs (b : Int) = l at *
  have h : ∀ (d j s : Nat), j + d = l.length → s < 2 ^ R → Ev (fun k => live_ahead.l0 k (toI inn) (b : Int) (i : Int) (s : Int) l (l.length : Int) (j : Int) pn pp (R : Int) bs) ((((bs.getD b []).drop i).foldr thrN ((l.drop j).foldl (fun s k => s ||| at_ inn k.toNat) s) : Nat) : Int) := by
    intro d
    induction d with
    | zero =>
      intro j s hj hs
      rw [List.drop_eq_nil_of_le (by omega : l.length ≤ j)]
      have := h1 ((bs.getD b []).length - i) (bs.getD b []).length s (by omega) (Nat.le_refl _) hs
      rw [List.take_length] at this
      exact Ev.step (fun k => by simp only [live_ahead.l0]; rw [if_neg (by omega), if_pos (by omega), if_pos (by omega), rd_row hb, wrap_id (by omega) (by omega)]) this
    | succ d ih =>
      intro j s hj hs
      have hjl : j < l.length := by omega
      have h2 := hm _ (List.getElem_mem hjl)
      rw [drop_cons hjl, List.foldl_cons]
      have h3 := hlt (l[j]).toNat
      have h4 := lt64 hR h3
      have h5 := lt64 hR hs
      refine Ev.step (fun k => ?_) (ih (j + 1) _ (by omega) (Nat.or_lt_two_pow hs h3))
      simp only [live_ahead.l0]
      rw [if_pos (by omega), if_pos (by omega), if_pos (by omega), rd_get hjl, if_pos (by omega), if_pos (by rw [toI_len]; omega), rd_toI, u64_or_nat _ _ (by omega) (by omega), wrap_nat (by omega)]
  exact h l.length 0 0 (by omega) (Nat.pos_of_ne_zero (by simp))
end
theorem toI_set (y : List Nat) (b v : Nat) : (toI y).set b (v : Int) = toI (y.set b v) := by
  unfold toI
  rw [List.map_set]
theorem toI_zero (n : Nat) : List.replicate n (0 : Int) = toI (List.replicate n 0) := by
  unfold toI
  rw [List.map_replicate]
  rfl
/-- A list on the way that is solved. -/
structure Sol (R : Nat) (bs : List (List SIns)) (z : List Nat) : Prop where
  on : On bs.length R (fun x b => aheadN bs x b 0) z
  eq : ∀ b, b < bs.length → aheadN bs z b 0 = at_ z b
theorem Sol.one {R : Nat} {bs : List (List SIns)} {y z : List Nat} (hy : Sol R bs y) (hz : Sol R bs z) : y = z := on_eq hy.on hz.on hy.eq hz.eq
section
variable (pn : ByteArray) (pp : Int) {R : Nat} {bs : List (List SIns)} (O : BlocksOk R bs)
include O
theorem sets_ev : ∃ z, Sol R bs z ∧ Ev (fun k => live_sets.f k pn pp (R : Int) bs) (toI z) := by
  have hbl := O.len
  have E := aheadN_eqs bs R O.regs
  have main : ∀ (d : Nat) (y : List Nat), On bs.length R (fun x b => aheadN bs x b 0) y → bs.length * R + 1 ≤ card R y + d → ∃ z, Sol R bs z ∧ Ev (fun k => live_sets.l0 k (toI y) true pn pp (R : Int) bs) (toI z) := by
    intro d
    induction d with
    | zero =>
      intro y hy hc
      have h1 := card_le R y
      rw [hy.len] at h1
      omega
    | succ d ih =>
      intro y0 hy0 hc
      have row : ∀ (b : Nat), b ≤ bs.length → ∀ (y : List Nat) (again : Bool), On bs.length R (fun x b => aheadN bs x b 0) y → LE y0 y → (again = false → y = y0 ∧ ∀ c, b ≤ c → c < bs.length → aheadN bs y0 c 0 = at_ y0 c) → (again = true → card R y0 < card R y) → ∃ z, Sol R bs z ∧ Ev (fun k => live_sets.l1 k (toI y) again ((b : Int) - 1) pn pp (R : Int) bs) (toI z) := by
        intro b
        induction b with
        | zero =>
          intro _ y again hy hle hf ht
          cases again
          · obtain ⟨rfl, h2⟩ := hf rfl
            refine ⟨y, ⟨hy, fun c hc => h2 c (by omega) hc⟩, ?_⟩
            refine Ev.step (fun k => by simp only [live_sets.l1]; rw [if_neg (by omega)]) ?_
            exact Ev.step (f := fun _ => some (toI y)) (fun k => by simp only [live_sets.l0]; rw [if_neg Bool.false_ne_true]) (Ev.now _)
          · obtain ⟨z, hz, hE⟩ := ih y hy (by have := ht rfl; omega)
            exact ⟨z, hz, Ev.step (fun k => by simp only [live_sets.l1]; rw [if_neg (by omega)]) hE⟩
        | succ b ihb =>
          intro hb y again hy hle hf ht
          have ha : Ev (fun k => live_ahead.f k pn pp (R : Int) bs (toI y) (b : Int) 0) ((aheadN bs y b 0 : Nat) : Int) := ahead_ev pn pp O hy.len hy.lt (b := b) (i := 0) (by omega) (Nat.zero_le _)
          have hs := on_set E hy (b := b) (by omega)
          have hyl := hy.len
          have e0 : (((b + 1 : Nat) : Int) - 1) = (b : Int) := by omega
          rw [e0]
          have hcard := card_mono R (x := y) (y := y.set b (aheadN bs y b 0)) (by rw [List.length_set]) hs.2
          cases again
          · obtain ⟨rfl, h2⟩ := hf rfl
            by_cases c : aheadN bs y b 0 = at_ y b
            · have hset : y.set b (aheadN bs y b 0) = y := by
                refine list_ext (n := bs.length) (R := R) (by rw [List.length_set]; exact hyl) hyl fun i hi => ?_
                rw [at_set (by omega)]
                split
                · next h => rw [h]; exact c
                · rfl
              obtain ⟨z, hz, hE⟩ := ihb (by omega) y false hy hle (fun _ => ⟨rfl, fun i hi hi2 => by
                by_cases e : i = b
                · subst e
                  exact c
                · exact h2 i (by omega) hi2⟩) (fun h => absurd h (by simp))
              refine ⟨z, hz, Ev.step (fun k => by simp only [live_sets.l1]; rw [if_pos (by omega)]) (Ev.bind ha ?_)⟩
              refine Ev.congr (fun k => ?_) hE
              rw [if_neg Bool.false_ne_true, if_pos (by omega), if_pos (by rw [toI_len]; omega), rd_toI, Int.toNat_natCast, toI_set, hset, c, show ((at_ y b : Int) != (at_ y b : Int)) = false by simp, wrap_id (by omega) (by omega)]
            · have hlt : card R y < card R (y.set b (aheadN bs y b 0)) := by
                apply Nat.lt_of_le_of_ne hcard
                intro e
                have := card_eq R (x := y) (y := y.set b (aheadN bs y b 0)) (by rw [List.length_set]) hs.2 hy.lt hs.1.lt e
                have h3 : at_ y b = at_ (y.set b (aheadN bs y b 0)) b := congrArg (fun l => at_ l b) this
                rw [at_set (by omega), if_pos rfl] at h3
                exact c h3.symm
              obtain ⟨z, hz, hE⟩ := ihb (by omega) (y.set b (aheadN bs y b 0)) true hs.1 hs.2 (fun h => absurd h (by simp)) (fun _ => hlt)
              refine ⟨z, hz, Ev.step (fun k => by simp only [live_sets.l1]; rw [if_pos (by omega)]) (Ev.bind ha ?_)⟩
              refine Ev.congr (fun k => ?_) hE
              rw [if_neg Bool.false_ne_true, if_pos (by omega), if_pos (by rw [toI_len]; omega), rd_toI, Int.toNat_natCast, toI_set, show ((aheadN bs y b 0 : Int) != (at_ y b : Int)) = true by simp; omega, wrap_id (by omega) (by omega)]
          · obtain ⟨z, hz, hE⟩ := ihb (by omega) (y.set b (aheadN bs y b 0)) true hs.1 (hle.trans hs.2) (fun h => absurd h (by simp)) (fun _ => Nat.lt_of_lt_of_le (ht rfl) hcard)
            refine ⟨z, hz, Ev.step (fun k => by simp only [live_sets.l1]; rw [if_pos (by omega)]) (Ev.bind ha ?_)⟩
            refine Ev.congr (fun k => ?_) hE
            rw [if_pos trivial, if_pos (by omega), if_pos (by rw [toI_len]; omega), Int.toNat_natCast, toI_set, wrap_id (by omega) (by omega)]
      obtain ⟨z, hz, hE⟩ := row bs.length (Nat.le_refl _) y0 false hy0 (LE.refl _) (fun _ => ⟨rfl, fun c h1 h2 => by omega⟩) (fun h => absurd h (by simp))
      exact ⟨z, hz, Ev.step (fun k => by simp only [live_sets.l0]; rw [if_pos trivial, wrap_id (by omega) (by omega)]) hE⟩
  obtain ⟨z, hz, hE⟩ := main (bs.length * R + 1) _ on_zero (by omega)
  refine ⟨z, hz, Ev.congr (fun k => ?_) hE⟩
  unfold live_sets.f
  rw [if_pos (by omega), if_pos (by omega), Int.toNat_natCast, toI_zero]
end
end Go.Proofs.YtebnnknijbgekaaDoor.PlainLive
namespace Go.Proofs.YtebnnknijbgekaaDoor.PlainLive
open Go Go.RowKit Go.Proofs.YtebnnknijbgekaaDoorW.PrintWords Go.Proofs.YtebnnknijbgekaaDoorW.PrintMore Go.Proofs.YtebnnknijbgekaaDoor.Q Go.Proofs.YtebnnknijbgekaaDoor.Plain Go.Proofs.YtebnnknijbgekaaDoor.PlainIr Go.Proofs.YtebnnknijbgekaaDoor.PlainName Go.Proofs.YtebnnknijbgekaaDoor.PlainBits Go.Proofs.YtebnnknijbgekaaDoor.PlainFix Go.Proofs.YtebnnknijbgekaaDoor.PlainSuccs Go.Proofs.YtebnnknijbgekaaDoor.PlainOne Go.Proofs.YtebnnknijbgekaaDoor.PlainHeavy Go.Proofs.YtebnnknijbgekaaDoor.PlainCheck
set_option linter.unusedVariables false
set_option linter.unusedSimpArgs false

theorem map_toL_zero (R n : Nat) : List.replicate n ([] : List Int) = (List.replicate n 0).map (toL R) := by
  rw [List.map_replicate, toL_zero]
section
variable (pn : ByteArray) (pp : Int) {R : Nat} {bs : List (List SIns)} (O : BlocksOk R bs)
include O
theorem refin_ev : ∃ z, Sol R bs z ∧ Ev (fun k => cubbyref11_In.l0 k (List.replicate bs.length []) 0 pn pp (R : Int) bs) (z.map (toL R)) := by
  have hbl := O.len
  have hR := O.le
  have E := aheadN_eqs bs R O.regs
  have hnR : bs.length * R ≤ 64000 := Nat.le_trans (Nat.mul_le_mul hbl hR) (by omega)
  have main : ∀ (d : Nat) (y : List Nat) (r : Nat), On bs.length R (fun x b => aheadN bs x b 0) y → r ≤ card R y → bs.length * R + 1 ≤ card R y + d → ∃ z, Sol R bs z ∧ Ev (fun k => cubbyref11_In.l0 k (y.map (toL R)) (r : Int) pn pp (R : Int) bs) (z.map (toL R)) := by
    intro d
    induction d with
    | zero =>
      intro y r hy hr hc
      have h1 := card_le R y
      rw [hy.len] at h1
      omega
    | succ d ih =>
      intro y r hy hr hc
      have hyl := hy.len
      have hcl := card_le R y
      rw [hyl] at hcl
      have hall := on_all E hy
      have hal : ((List.range bs.length).map (fun b => aheadN bs y b 0)).length = bs.length := by simp
      have row : ∀ (e b : Nat) (same : Bool), b + e = bs.length → (same = true ↔ ∀ c, c < b → (toN R (aheadN bs y c 0)).length = (toN R (at_ y c)).length) → ∃ z, Sol R bs z ∧ Ev (fun k => cubbyref11_In.l1 k (y.map (toL R)) (r : Int) (((List.range b).map (fun b => aheadN bs y b 0)).map (toL R)) same (b : Int) pn pp (R : Int) bs) (z.map (toL R)) := by
        intro e
        induction e with
        | zero =>
          intro b same hb hs
          obtain rfl : b = bs.length := by omega
          cases same
          · have hlt : card R y < card R ((List.range bs.length).map (fun b => aheadN bs y b 0)) := by
              apply Nat.lt_of_le_of_ne (card_mono R (by rw [hal, hyl]) hall.2)
              intro e
              have := card_eq R (by rw [hal, hyl]) hall.2 hy.lt hall.1.lt e
              apply absurd (hs.2 ?_) (by simp)
              intro c hc
              have h3 : at_ y c = at_ ((List.range bs.length).map (fun b => aheadN bs y b 0)) c := congrArg (fun l => at_ l c) this
              rw [at_map, if_pos hc] at h3
              rw [h3]
            obtain ⟨z, hz, hE⟩ := ih _ (r + 1) hall.1 (by omega) (by omega)
            exact ⟨z, hz, Ev.step (fun k => by simp only [cubbyref11_In.l1]; rw [if_neg (by omega), if_neg Bool.false_ne_true, wrap_nat (by omega)]) hE⟩
          · have heq := hs.1 rfl
            have hA : ∀ c, c < bs.length → aheadN bs y c 0 = at_ y c := fun c hc => (toN_eq (hy.up c hc) (hy.lt c) (E.lt y hy.lt c hc) (heq c hc).symm).symm
            have hy2 : (List.range bs.length).map (fun b => aheadN bs y b 0) = y := by
              refine list_ext (n := bs.length) (R := R) hal hyl fun c hc => ?_
              rw [at_map, if_pos hc, hA c hc]
            rw [hy2]
            exact ⟨y, ⟨hy, hA⟩, Ev.step (f := fun _ => some (y.map (toL R))) (fun k => by simp only [cubbyref11_In.l1]; rw [if_neg (by omega), if_pos trivial]) (Ev.now _)⟩
        | succ e ihe =>
          intro b same hb hs
          have ha : Ev (fun k => cubbyref11_ahead.f k pn pp (R : Int) bs (y.map (toL R)) (b : Int) 0) (toL R (aheadN bs y b 0)) := refahead_ev pn pp O hyl hy.lt (b := b) (i := 0) (by omega) (Nat.zero_le _)
          have hnow : (((List.range (b + 1)).map (fun b => aheadN bs y b 0)).map (toL R)) = (((List.range b).map (fun b => aheadN bs y b 0)).map (toL R)) ++ [toL R (aheadN bs y b 0)] := by
            rw [List.range_succ, List.map_append, List.map_append]
            rfl
          have hl2 : (((List.range b).map (fun b => aheadN bs y b 0)).map (toL R)).length = b := by simp
          have hlen : ∀ s, ((toL R s).length : Int) = ((toN R s).length : Int) := fun s => by
            unfold toL
            rw [List.length_map]
          cases same
          · have hs2 : ¬ ∀ c, c < b → (toN R (aheadN bs y c 0)).length = (toN R (at_ y c)).length := fun h => absurd (hs.2 h) (by simp)
            obtain ⟨z, hz, hE⟩ := ihe (b + 1) false (by omega) ⟨fun h => absurd h (by simp), fun h => absurd (fun c hc => h c (by omega)) hs2⟩
            rw [hnow] at hE
            refine ⟨z, hz, Ev.step (fun k => by simp only [cubbyref11_In.l1]; rw [if_pos (by omega)]) (Ev.bind ha ?_)⟩
            exact Ev.congr (fun k => by rw [if_neg Bool.false_ne_true, if_pos (by rw [hl2]; omega), wrap_nat (by omega)]) hE
          · have hs1 := hs.1 rfl
            obtain ⟨z, hz, hE⟩ := ihe (b + 1) (((toN R (aheadN bs y b 0)).length : Int) == ((toN R (at_ y b)).length : Int)) (by omega) (by
              rw [beq_iff_eq]
              constructor
              · intro h c hc
                by_cases e : c = b
                · subst e
                  omega
                · exact hs1 c (by omega)
              · intro h
                have := h b (by omega)
                omega)
            rw [hnow] at hE
            refine ⟨z, hz, Ev.step (fun k => by simp only [cubbyref11_In.l1]; rw [if_pos (by omega)]) (Ev.bind ha ?_)⟩
            exact Ev.congr (fun k => by rw [if_pos trivial, if_pos (by omega), if_pos (by rw [List.length_map]; omega), if_pos (by rw [hl2]; omega), rdL_map (by omega) (by omega), hlen, hlen, Int.toNat_natCast, wrap_nat (by omega)]) hE
      obtain ⟨z, hz, hE⟩ := row bs.length 0 true (by omega) ⟨fun _ c hc => by omega, fun _ => rfl⟩
      refine ⟨z, hz, Ev.step (fun k => ?_) hE⟩
      simp only [cubbyref11_In.l0]
      have e1 : ((bs.length : Int) * (R : Int)) = ((bs.length * R : Nat) : Int) := by simp
      rw [e1, wrap_id (i := ((bs.length * R : Nat) : Int)) (by omega) (by omega), wrap_id (by omega) (by omega), if_pos (by omega)]
      rfl
  obtain ⟨z, hz, hE⟩ := main (bs.length * R + 1) (List.replicate bs.length 0) 0 on_zero (Nat.zero_le _) (by omega)
  rw [← map_toL_zero] at hE
  exact ⟨z, hz, hE⟩
end

/-! ### a function that may be -/
theorem ok_regs {nm : ByteArray} {pp : Int} {R : Nat} {bs : List (List SIns)} (F : FuncOk nm pp (R : Int) bs) : ∀ b ∈ bs, ∀ x ∈ b, RegsOk R x := by
  intro b hb x hx
  have hR := F.shape.2.2.2.1
  obtain ⟨j, hj, rfl⟩ := List.mem_iff_getElem.1 hx
  have I := F.ins b hb j hj
  refine ⟨by omega, I.use, ?_⟩
  unfold defOf
  split
  · next h =>
    have := I.def_ h
    omega
  · omega
theorem regs_nat {nm : ByteArray} {pp rg : Int} {bs : List (List SIns)} (F : FuncOk nm pp rg bs) : ∃ R : Nat, rg = R := by
  have h0 := F.shape.1
  have h1 := F.shape.2.2.1
  exact ⟨rg.toNat, by omega⟩
theorem total_le {bs : List (List SIns)} : ∀ b ∈ bs, b.length ≤ total bs := by
  induction bs with
  | nil => simp
  | cons c bs ih =>
    intro b hb
    unfold total
    rcases List.mem_cons.1 hb with rfl | hb
    · omega
    · have := ih b hb
      omega
theorem ok_blocks {nm : ByteArray} {pp : Int} {R : Nat} {bs : List (List SIns)} (F : FuncOk nm pp (R : Int) bs) (hF : FairB bs) : BlocksOk R bs := by
  have h1 := F.shape
  exact ⟨by have := h1.2.2.2.1; omega, by have := h1.2.2.2.2.2.1; omega, fun b hb => by have := total_le b hb; have := F.tot; omega, ok_regs F, hF.ins⟩
section
variable (pn : ByteArray) (pp : Int) {R : Nat} {bs : List (List SIns)} (hF : FairB bs) (F : FuncOk pn pp (R : Int) bs) (hc : checkE pn pp (R : Int) bs = 0)
include hF F hc
/-- Both texts come to one list of masks. -/
theorem both : ∃ z, Sol R bs z ∧ Ev (fun k => live_sets.f k pn pp (R : Int) bs) (toI z) ∧ Ev (fun k => cubbyref11_In.f k pn pp (R : Int) bs) (z.map (toL R)) := by
  have O := ok_blocks F hF
  obtain ⟨z, hz, h1⟩ := sets_ev pn pp O
  obtain ⟨y, hy, h2⟩ := refin_ev pn pp O
  obtain rfl := hz.one hy
  refine ⟨z, hz, h1, ?_⟩
  have h3 := refcheck_ev pn pp (R : Int) bs hF
  rw [hc] at h3
  have hbl := O.len
  refine Ev.bind h3 (Ev.congr (fun k => ?_) h2)
  rw [if_pos rfl, if_pos (by omega), if_pos (by omega), Int.toNat_natCast]
end
theorem Sol.lt {R : Nat} {bs : List (List SIns)} {z : List Nat} (h : Sol R bs z) (b : Nat) : at_ z b < 2 ^ R := h.on.lt b
theorem Sol.len {R : Nat} {bs : List (List SIns)} {z : List Nat} (h : Sol R bs z) : z.length = bs.length := h.on.len
theorem aheadN_lt {R : Nat} {bs : List (List SIns)} (O : BlocksOk R bs) {z : List Nat} (hz : Sol R bs z) {b i : Nat} (hb : b < bs.length) : aheadN bs z b i < 2 ^ R := by
  unfold aheadN
  refine foldr_lt _ _ (fun x hx => ?_) (or_lt bs hz.lt _)
  have hx := List.mem_of_mem_drop hx
  rw [getD_get hb] at hx
  exact O.regs _ (List.getElem_mem hb) x hx
end Go.Proofs.YtebnnknijbgekaaDoor.PlainLive
namespace Go.Proofs.YtebnnknijbgekaaDoor.Q
open Go.RowKit Go.Proofs.YtebnnknijbgekaaDoorW.PrintWords Go.Proofs.YtebnnknijbgekaaDoorW.PrintLast Go.Proofs.YtebnnknijbgekaaDoorW.PrintMore
attribute [local go_sem] max2_int min2_int max_two min_two max_three min_three max_four min_four   -- for this text's walks alone
set_option linter.unusedVariables false
set_option linter.unusedSimpArgs false

/-! ### cubbyref11_Check: function 29 -/
def cubbyref11_Check.l0 : Nat → List Int → Int → ByteArray → Int → Int → List (List (SIns)) → Option (Int)
 | 0, _, _, _, _, _, _ => none
 | k + 1, x4, x5, x438000, x438001, x438002, x438003 => if x5 < (x4.length : Int) then (if 0 ≤ x5 then (if (rd x4 x5) ≥ x438001 then (some 110) else (cubbyref11_Check.l0 k x4 (wrap64 (x5 + 1)) x438000 x438001 x438002 x438003)) else (none)) else (some 0)
def cubbyref11_Check.f (k : Nat) (a0_0 : ByteArray) (a0_1 : Int) (a0_2 : Int) (l0_3 : List (List (SIns))) : Option (Int) := (cubbyref07_Check.f k a0_0 a0_1 a0_2 l0_3).bind fun t438 => (if t438 = 0 then ((cubbyref11_In.f k a0_0 a0_1 a0_2 l0_3).bind fun t439 => (if 0 < (t439.length : Int) then (cubbyref11_Check.l0 k (rd_LInt t439 0) 0 a0_0 a0_1 a0_2 l0_3) else (none))) else (some t438))
theorem cubbyref11_Check.mono_l : ∀ k, (∀ y0 y1 y2 y3 y4 y5, LeO (cubbyref11_Check.l0 k y0 y1 y2 y3 y4 y5) (cubbyref11_Check.l0 (k + 1) y0 y1 y2 y3 y4 y5))
 | 0 => fun _ _ _ _ _ _ r h => by simp [cubbyref11_Check.l0] at h
 | k + 1 => by
  have ih0 := cubbyref11_Check.mono_l k
  ·intro y0 y1 y2 y3 y4 y5
   unfold cubbyref11_Check.l0
   repeat' first | (with_reducible exact ih0 _ _ _ _ _ _) | (with_reducible exact cubbyref07_Check.mono _ _ _ _ _) | (with_reducible exact cubbyref11_In.mono _ _ _ _ _) | (with_reducible exact LeO.refl _) | (with_reducible exact LeO.none _) | (with_reducible refine LeO.ite ?_ ?_) | (with_reducible refine LeO.bind ?_ (fun _ => ?_)) | exact LeO.none _ | refine LeO.ite ?_ ?_ | refine LeO.bind ?_ (fun _ => ?_)
theorem cubbyref11_Check.mono : ∀ a0 a1 a2 a3 k, LeO (cubbyref11_Check.f k a0 a1 a2 a3) (cubbyref11_Check.f (k + 1) a0 a1 a2 a3) := by
 intro a0 a1 a2 a3 k
 have ih0 := cubbyref11_Check.mono_l k
 unfold cubbyref11_Check.f
 repeat' first | (with_reducible exact ih0 _ _ _ _ _ _) | (with_reducible exact cubbyref07_Check.mono _ _ _ _ _) | (with_reducible exact cubbyref11_In.mono _ _ _ _ _) | (with_reducible exact LeO.refl _) | (with_reducible exact LeO.none _) | (with_reducible refine LeO.ite ?_ ?_) | (with_reducible refine LeO.bind ?_ (fun _ => ?_)) | exact LeO.none _ | refine LeO.ite ?_ ?_ | refine LeO.bind ?_ (fun _ => ?_)
set_option maxHeartbeats 8000000 in
set_option maxRecDepth 100000 in
theorem cubbyref11_Check.calls (k : Nat) (a0_0 : ByteArray) (a0_1 : Int) (a0_2 : Int) (A0_3 : Option Addr) (c0_3 : Nat) (l0_3 : List (List (SIns))) (r : Int) (w : World) (hr0_3 : Kd.C (Kd.slice 31 kIns) w A0_3 l0_3.length l0_3) (hc0_3 : l0_3.length ≤ c0_3) (h : cubbyref11_Check.f k a0_0 a0_1 a0_2 l0_3 = some r) :
  Calls Tryd.prog 29 #[.agg #[.string a0_0, .int .i64 a0_1, .int .i64 a0_2, .slice A0_3 l0_3.length c0_3]] w fun e w' => e = .returned (.int .i64 r) ∧ Below w.heap.size w w' := by
 have hu34 := Tryd.underlying34
 have HR0_3 := Aside0.mk hr0_3
 have HC0_3 := Aside0.mk hc0_3
 clear hr0_3 hc0_3
 have HB := Aside0.mk (Below.refl w.heap.size w)
 have H := h; clear h; unfold cubbyref11_Check.f at H
 replace H := qb H; obtain ⟨t438, A2, H⟩ := H
 by_cases c3 : t438 = 0
 ·rw [if_pos c3] at H
  obtain ⟨c3b0, c3b1⟩ := qe c3; clear c3
  replace H := qb H; obtain ⟨t439, A4, H⟩ := H
  by_cases c5 : 0 < (t439.length : Int)
  ·rw [if_pos c5] at H
   have c5b0 := decide_eq_true c5
   have c5b1 : decide (0 < t439.length) = true := decide_eq_true (by omega)
   clear c5
   have H' := Aside0.mk H
   clear H
   go_enter Tryd.func29, Tryd.ntmps29
   go_wp2_with (first | ((with_reducible refine gate_dst (N := 1) rfl ?_); refine box_event (by rfl) (N := 1) (by rfl) (cs := #[.string a0_0, .int .i64 a0_1, .int .i64 a0_2, .slice A0_3 l0_3.length c0_3]) (t := 34) ?hr ?_; (case hr => first | (go_simp; done) | (go_simp; rfl)); intro gb437 hg w6 hbox hb; have BK437 := Aside0.mk (hbox); have GW437 := qG hg; have GE437 := GW437; replace HB := qH hb; clear hb hbox hg; obtain ⟨hcz7_0, hcz7_1, hcz7_2, hcz7_3, hfz7_0, hfz7_1, hfz7_2, hfz7_3⟩ := bk4 BK437.out) | (go_at_call 17; (with_reducible refine (cubbyref07_Check.calls k a0_0 a0_1 a0_2 _ _ l0_3 t438 _ ?side1 ?side2 A2.out).mono ?_); (case side1 => exact qCB HR0_3.out); (case side2 => exact HC0_3.out); rintro e w8 ⟨rfl, hb⟩; replace BK437 := qW BK437 hb; replace HB := qH hb; (try clear hb); obtain ⟨hcz9_0, hcz9_1, hcz9_2, hcz9_3, hfz9_0, hfz9_1, hfz9_2, hfz9_3⟩ := bk4 BK437.out) | (go_at_call 28; (with_reducible refine (cubbyref11_In.calls k a0_0 a0_1 a0_2 _ _ l0_3 t439 _ ?side1 ?side2 A4.out).mono ?_); (case side1 => exact qCB HR0_3.out); (case side2 => exact HC0_3.out); rintro e w10 ⟨v440, rfl, ho0, hb⟩; have HO441 := Aside0.mk (Kd.S_lower ho0 (below_size qB)); replace BK437 := qW BK437 hb; replace HB := qH hb; (try clear hb); (try clear ho0); obtain ⟨Ao11, co11, eo11⟩ := Kd.S_slice HO441.out; subst eo11; have p442 : 0 ≤ (0 : Int) := (by omega); have q442 : 0 < (t439.length : Int) := of_decide_eq_true qA; obtain ⟨ad442, A442_0, c442_0, e442, hx442_0, hl442_0, hi442_0⟩ := at_LInt (Kd.S_reads' HO441.out).2.2 0 p442 q442; cases e442; obtain ⟨ce442, hce442, hMe442, hcc442⟩ := Kd.S_get HO441.out [] 0 p442 (by first | exact q442 | exact of_decide_eq_true qA | (have e_ := (Kd.S_reads' HO441.out).1; omega)); obtain ⟨ve442_0, rfl, ge442_0⟩ := hMe442; have hv442_0 := hcc442 0 _ rfl; rw [Nat.add_zero, show ((Kd.slice 3 (Kd.int .i64))).sz = 1 from rfl, Nat.mul_one] at hv442_0; replace hv442_0 := Option.some.inj (hv442_0.symm.trans hx442_0); rw [hv442_0] at ge442_0; have HL442_0 := Aside0.mk (show Kd.R (Kd.int .i64) 3 _ _ _ _ (rd_LInt t439 0) from ge442_0); clear hv442_0 ge442_0; clear hcc442 hce442; have qi442 : (0 < t439.length) = True := eq_true (by omega); (try rw [show ((0 : Int)).toNat = 0 from rfl] at hx442_0); (try rw [Addr.add_zero'] at hx442_0); have HR442_0 := Aside0.mk hi442_0; have HC442_0 := Aside0.mk hl442_0; clear hi442_0 hl442_0; replace p442 := eq_true p442; replace q442 := eq_true q442))
   repeat (go_quiet (first | ((with_reducible refine gate_dst (N := 1) rfl ?_); refine box_event (by rfl) (N := 1) (by rfl) (cs := #[.string a0_0, .int .i64 a0_1, .int .i64 a0_2, .slice A0_3 l0_3.length c0_3]) (t := 34) ?hr ?_; (case hr => first | (go_simp; done) | (go_simp; rfl)); intro gb437 hg w6 hbox hb; have BK437 := Aside0.mk (hbox); have GW437 := qG hg; have GE437 := GW437; replace HB := qH hb; clear hb hbox hg; obtain ⟨hcz7_0, hcz7_1, hcz7_2, hcz7_3, hfz7_0, hfz7_1, hfz7_2, hfz7_3⟩ := bk4 BK437.out) | (go_at_call 17; (with_reducible refine (cubbyref07_Check.calls k a0_0 a0_1 a0_2 _ _ l0_3 t438 _ ?side1 ?side2 A2.out).mono ?_); (case side1 => exact qCB HR0_3.out); (case side2 => exact HC0_3.out); rintro e w8 ⟨rfl, hb⟩; replace BK437 := qW BK437 hb; replace HB := qH hb; (try clear hb); obtain ⟨hcz9_0, hcz9_1, hcz9_2, hcz9_3, hfz9_0, hfz9_1, hfz9_2, hfz9_3⟩ := bk4 BK437.out) | (go_at_call 28; (with_reducible refine (cubbyref11_In.calls k a0_0 a0_1 a0_2 _ _ l0_3 t439 _ ?side1 ?side2 A4.out).mono ?_); (case side1 => exact qCB HR0_3.out); (case side2 => exact HC0_3.out); rintro e w10 ⟨v440, rfl, ho0, hb⟩; have HO441 := Aside0.mk (Kd.S_lower ho0 (below_size qB)); replace BK437 := qW BK437 hb; replace HB := qH hb; (try clear hb); (try clear ho0); obtain ⟨Ao11, co11, eo11⟩ := Kd.S_slice HO441.out; subst eo11; have p442 : 0 ≤ (0 : Int) := (by omega); have q442 : 0 < (t439.length : Int) := of_decide_eq_true qA; obtain ⟨ad442, A442_0, c442_0, e442, hx442_0, hl442_0, hi442_0⟩ := at_LInt (Kd.S_reads' HO441.out).2.2 0 p442 q442; cases e442; obtain ⟨ce442, hce442, hMe442, hcc442⟩ := Kd.S_get HO441.out [] 0 p442 (by first | exact q442 | exact of_decide_eq_true qA | (have e_ := (Kd.S_reads' HO441.out).1; omega)); obtain ⟨ve442_0, rfl, ge442_0⟩ := hMe442; have hv442_0 := hcc442 0 _ rfl; rw [Nat.add_zero, show ((Kd.slice 3 (Kd.int .i64))).sz = 1 from rfl, Nat.mul_one] at hv442_0; replace hv442_0 := Option.some.inj (hv442_0.symm.trans hx442_0); rw [hv442_0] at ge442_0; have HL442_0 := Aside0.mk (show Kd.R (Kd.int .i64) 3 _ _ _ _ (rd_LInt t439 0) from ge442_0); clear hv442_0 ge442_0; clear hcc442 hce442; have qi442 : (0 < t439.length) = True := eq_true (by omega); (try rw [show ((0 : Int)).toNat = 0 from rfl] at hx442_0); (try rw [Addr.add_zero'] at hx442_0); have HR442_0 := Aside0.mk hi442_0; have HC442_0 := Aside0.mk hl442_0; clear hi442_0 hl442_0; replace p442 := eq_true p442; replace q442 := eq_true q442)); try go_wp2_with (first | ((with_reducible refine gate_dst (N := 1) rfl ?_); refine box_event (by rfl) (N := 1) (by rfl) (cs := #[.string a0_0, .int .i64 a0_1, .int .i64 a0_2, .slice A0_3 l0_3.length c0_3]) (t := 34) ?hr ?_; (case hr => first | (go_simp; done) | (go_simp; rfl)); intro gb437 hg w6 hbox hb; have BK437 := Aside0.mk (hbox); have GW437 := qG hg; have GE437 := GW437; replace HB := qH hb; clear hb hbox hg; obtain ⟨hcz7_0, hcz7_1, hcz7_2, hcz7_3, hfz7_0, hfz7_1, hfz7_2, hfz7_3⟩ := bk4 BK437.out) | (go_at_call 17; (with_reducible refine (cubbyref07_Check.calls k a0_0 a0_1 a0_2 _ _ l0_3 t438 _ ?side1 ?side2 A2.out).mono ?_); (case side1 => exact qCB HR0_3.out); (case side2 => exact HC0_3.out); rintro e w8 ⟨rfl, hb⟩; replace BK437 := qW BK437 hb; replace HB := qH hb; (try clear hb); obtain ⟨hcz9_0, hcz9_1, hcz9_2, hcz9_3, hfz9_0, hfz9_1, hfz9_2, hfz9_3⟩ := bk4 BK437.out) | (go_at_call 28; (with_reducible refine (cubbyref11_In.calls k a0_0 a0_1 a0_2 _ _ l0_3 t439 _ ?side1 ?side2 A4.out).mono ?_); (case side1 => exact qCB HR0_3.out); (case side2 => exact HC0_3.out); rintro e w10 ⟨v440, rfl, ho0, hb⟩; have HO441 := Aside0.mk (Kd.S_lower ho0 (below_size qB)); replace BK437 := qW BK437 hb; replace HB := qH hb; (try clear hb); (try clear ho0); obtain ⟨Ao11, co11, eo11⟩ := Kd.S_slice HO441.out; subst eo11; have p442 : 0 ≤ (0 : Int) := (by omega); have q442 : 0 < (t439.length : Int) := of_decide_eq_true qA; obtain ⟨ad442, A442_0, c442_0, e442, hx442_0, hl442_0, hi442_0⟩ := at_LInt (Kd.S_reads' HO441.out).2.2 0 p442 q442; cases e442; obtain ⟨ce442, hce442, hMe442, hcc442⟩ := Kd.S_get HO441.out [] 0 p442 (by first | exact q442 | exact of_decide_eq_true qA | (have e_ := (Kd.S_reads' HO441.out).1; omega)); obtain ⟨ve442_0, rfl, ge442_0⟩ := hMe442; have hv442_0 := hcc442 0 _ rfl; rw [Nat.add_zero, show ((Kd.slice 3 (Kd.int .i64))).sz = 1 from rfl, Nat.mul_one] at hv442_0; replace hv442_0 := Option.some.inj (hv442_0.symm.trans hx442_0); rw [hv442_0] at ge442_0; have HL442_0 := Aside0.mk (show Kd.R (Kd.int .i64) 3 _ _ _ _ (rd_LInt t439 0) from ge442_0); clear hv442_0 ge442_0; clear hcc442 hce442; have qi442 : (0 < t439.length) = True := eq_true (by omega); (try rw [show ((0 : Int)).toNat = 0 from rfl] at hx442_0); (try rw [Addr.add_zero'] at hx442_0); have HR442_0 := Aside0.mk hi442_0; have HC442_0 := Aside0.mk hl442_0; clear hi442_0 hl442_0; replace p442 := eq_true p442; replace q442 := eq_true q442)))
   go_loopg [5] k (fun kq v5 w' => ∃ (x5_1 : Int), v5 = .int .i64 x5_1 ∧ Aside0 (cubbyref11_Check.l0 kq (rd_LInt t439 0) x5_1 a0_0 a0_1 a0_2 l0_3 = some r) ∧ Aside0 (kq ≤ k) ∧ Aside0 (w'.heap[gb437]? = some (.cells #[.string a0_0, .int .i64 a0_1, .int .i64 a0_2, (.slice A0_3 l0_3.length c0_3)] 34 (0, 0))) ∧ Aside0 (Kd.C (Kd.int .i64) w' A442_0 (rd_LInt t439 0).length (rd_LInt t439 0)) ∧ Aside0 (Below w.heap.size w w'))
   case atStart => exact ⟨(0), qT, H', ⟨Nat.le_refl _⟩, ⟨qK BK437.out⟩, ⟨by repeat (first | (with_reducible exact HR442_0.out) | (with_reducible refine Kd.C_alloc ?_ _) | (with_reducible refine Kd.C_drewN ?_ _) | (with_reducible refine Kd.C_drew ?_) | exact HR442_0.out)⟩, ⟨qB⟩⟩
   case round =>
    clear H'
    try clear c2; try clear p2; try clear c3; try clear c3b0 c3b1; try clear c4; try clear p4; try clear q4; try clear hx4; try clear qi4; try clear c5; try clear c5b0 c5b1; try clear hcz7_0 hcz7_1 hcz7_2 hcz7_3 hfz7_0 hfz7_1 hfz7_2 hfz7_3; try clear hcz9_0 hcz9_1 hcz9_2 hcz9_3 hfz9_0 hfz9_1 hfz9_2 hfz9_3; try clear hx442_0; try clear p442; try clear q442
    obtain ⟨x5_1, rfl, HA, HK1, BK437, HR442_0, HB⟩ := hrel
    cases gk with
    | zero => exact absurd HA.out (by simp [cubbyref11_Check.l0])
    | succ k1 =>
     have H := HA.out
     clear HA
     simp only [cubbyref11_Check.l0] at H
     by_cases c12 : x5_1 < ((rd_LInt t439 0).length : Int)
     ·rw [if_pos c12] at H
      have c12b0 := decide_eq_true c12
      clear c12
      by_cases c13 : 0 ≤ x5_1
      ·rw [if_pos c13] at H
       have c13b0 := decide_eq_true c13
       clear c13
       by_cases c14 : (rd (rd_LInt t439 0) x5_1) ≥ a0_1
       ·rw [if_pos c14] at H
        have c14b0 : decide (a0_1 ≤ (rd (rd_LInt t439 0) x5_1)) = true := decide_eq_true c14
        clear c14
        obtain rfl := Option.some.inj H
        have p443 : 0 ≤ (x5_1 : Int) := of_decide_eq_true qA
        have q443 : x5_1 < ((rd_LInt t439 0).length : Int) := of_decide_eq_true qA
        obtain ⟨ad443, e443, hx443_0⟩ := Kd.at_int HR442_0.out x5_1 p443 q443
        cases e443
        (try replace hx443_0 := (HB.out.cell (World.block_lt_of_cell? w _ hx443_0)).trans hx443_0)
        replace p443 := eq_true p443
        replace q443 := eq_true q443
        obtain ⟨hcz15_0, hcz15_1, hcz15_2, hcz15_3, hfz15_0, hfz15_1, hfz15_2, hfz15_3⟩ := bk4 BK437.out
        go_wp2
        repeat (go_quiet (fail); try go_wp2)
        go_ret
        exact ⟨qE, qB⟩
       ·rw [if_neg c14] at H
        have c14b0 : decide (a0_1 ≤ (rd (rd_LInt t439 0) x5_1)) = false := decide_eq_false c14
        clear c14
        have H' := Aside0.mk H
        clear H
        have p443 : 0 ≤ (x5_1 : Int) := of_decide_eq_true qA
        have q443 : x5_1 < ((rd_LInt t439 0).length : Int) := of_decide_eq_true qA
        obtain ⟨ad443, e443, hx443_0⟩ := Kd.at_int HR442_0.out x5_1 p443 q443
        cases e443
        (try replace hx443_0 := (HB.out.cell (World.block_lt_of_cell? w _ hx443_0)).trans hx443_0)
        replace p443 := eq_true p443
        replace q443 := eq_true q443
        obtain ⟨hcz16_0, hcz16_1, hcz16_2, hcz16_3, hfz16_0, hfz16_1, hfz16_2, hfz16_3⟩ := bk4 BK437.out
        go_wp2
        repeat (go_quiet (fail); try go_wp2)
        go_roundg k1
        case measure => have := HK1.out; omega
        case rel => exact ⟨(wrap64 (x5_1 + 1)), qT, H', ⟨by have := HK1.out; omega⟩, ⟨qK BK437.out⟩, ⟨by repeat (first | (with_reducible exact HR442_0.out) | (with_reducible refine Kd.C_alloc ?_ _) | (with_reducible refine Kd.C_drewN ?_ _) | (with_reducible refine Kd.C_drew ?_) | exact HR442_0.out)⟩, ⟨qB⟩⟩
      ·rw [if_neg c13] at H
       exact absurd H (by simp)
     ·rw [if_neg c12] at H
      have c12b0 := decide_eq_false c12
      clear c12
      obtain rfl := Option.some.inj H
      go_wp2
      repeat (go_quiet (fail); try go_wp2)
      go_ret
      exact ⟨qE, qB⟩
  ·rw [if_neg c5] at H
   exact absurd H (by simp)
 ·rw [if_neg c3] at H
  obtain ⟨c3b0, c3b1⟩ := qn c3
  obtain rfl := Option.some.inj H
  go_enter Tryd.func29, Tryd.ntmps29
  go_wp2_with (first | ((with_reducible refine gate_dst (N := 1) rfl ?_); refine box_event (by rfl) (N := 1) (by rfl) (cs := #[.string a0_0, .int .i64 a0_1, .int .i64 a0_2, .slice A0_3 l0_3.length c0_3]) (t := 34) ?hr ?_; (case hr => first | (go_simp; done) | (go_simp; rfl)); intro gb437 hg w17 hbox hb; have BK437 := Aside0.mk (hbox); have GW437 := qG hg; have GE437 := GW437; replace HB := qH hb; clear hb hbox hg; obtain ⟨hcz18_0, hcz18_1, hcz18_2, hcz18_3, hfz18_0, hfz18_1, hfz18_2, hfz18_3⟩ := bk4 BK437.out) | (go_at_call 17; (with_reducible refine (cubbyref07_Check.calls k a0_0 a0_1 a0_2 _ _ l0_3 t438 _ ?side1 ?side2 A2.out).mono ?_); (case side1 => exact qCB HR0_3.out); (case side2 => exact HC0_3.out); rintro e w19 ⟨rfl, hb⟩; replace BK437 := qW BK437 hb; replace HB := qH hb; (try clear hb)))
  repeat (go_quiet (first | ((with_reducible refine gate_dst (N := 1) rfl ?_); refine box_event (by rfl) (N := 1) (by rfl) (cs := #[.string a0_0, .int .i64 a0_1, .int .i64 a0_2, .slice A0_3 l0_3.length c0_3]) (t := 34) ?hr ?_; (case hr => first | (go_simp; done) | (go_simp; rfl)); intro gb437 hg w17 hbox hb; have BK437 := Aside0.mk (hbox); have GW437 := qG hg; have GE437 := GW437; replace HB := qH hb; clear hb hbox hg; obtain ⟨hcz18_0, hcz18_1, hcz18_2, hcz18_3, hfz18_0, hfz18_1, hfz18_2, hfz18_3⟩ := bk4 BK437.out) | (go_at_call 17; (with_reducible refine (cubbyref07_Check.calls k a0_0 a0_1 a0_2 _ _ l0_3 t438 _ ?side1 ?side2 A2.out).mono ?_); (case side1 => exact qCB HR0_3.out); (case side2 => exact HC0_3.out); rintro e w19 ⟨rfl, hb⟩; replace BK437 := qW BK437 hb; replace HB := qH hb; (try clear hb))); try go_wp2_with (first | ((with_reducible refine gate_dst (N := 1) rfl ?_); refine box_event (by rfl) (N := 1) (by rfl) (cs := #[.string a0_0, .int .i64 a0_1, .int .i64 a0_2, .slice A0_3 l0_3.length c0_3]) (t := 34) ?hr ?_; (case hr => first | (go_simp; done) | (go_simp; rfl)); intro gb437 hg w17 hbox hb; have BK437 := Aside0.mk (hbox); have GW437 := qG hg; have GE437 := GW437; replace HB := qH hb; clear hb hbox hg; obtain ⟨hcz18_0, hcz18_1, hcz18_2, hcz18_3, hfz18_0, hfz18_1, hfz18_2, hfz18_3⟩ := bk4 BK437.out) | (go_at_call 17; (with_reducible refine (cubbyref07_Check.calls k a0_0 a0_1 a0_2 _ _ l0_3 t438 _ ?side1 ?side2 A2.out).mono ?_); (case side1 => exact qCB HR0_3.out); (case side2 => exact HC0_3.out); rintro e w19 ⟨rfl, hb⟩; replace BK437 := qW BK437 hb; replace HB := qH hb; (try clear hb))))
  go_ret
  exact ⟨qE, qB⟩

end Go.Proofs.YtebnnknijbgekaaDoor.Q
namespace Go.Proofs.YtebnnknijbgekaaDoor.PlainLive
open Go Go.RowKit Go.Proofs.YtebnnknijbgekaaDoorW.PrintWords Go.Proofs.YtebnnknijbgekaaDoorW.PrintMore Go.Proofs.YtebnnknijbgekaaDoor.Q Go.Proofs.YtebnnknijbgekaaDoor.Plain Go.Proofs.YtebnnknijbgekaaDoor.PlainIr Go.Proofs.YtebnnknijbgekaaDoor.PlainName Go.Proofs.YtebnnknijbgekaaDoor.PlainBits Go.Proofs.YtebnnknijbgekaaDoor.PlainFix Go.Proofs.YtebnnknijbgekaaDoor.PlainSuccs Go.Proofs.YtebnnknijbgekaaDoor.PlainOne Go.Proofs.YtebnnknijbgekaaDoor.PlainHeavy Go.Proofs.YtebnnknijbgekaaDoor.PlainCheck
set_option linter.unusedVariables false
set_option linter.unusedSimpArgs false

theorem toL_low_of {R s p : Nat} (hs : s < 2 ^ R) : s / 2 ^ p = 0 ↔ ∀ n ∈ toL R s, n < p := by
  rw [Nat.div_eq_zero_iff_lt (Nat.pos_of_ne_zero (by simp))]
  constructor
  · intro h n hn
    obtain ⟨r, rfl, hr, hb⟩ := toL_nat hn
    apply Decidable.byContradiction
    intro hp
    have : s.testBit r = false := Nat.testBit_lt_two_pow (Nat.lt_of_lt_of_le h (Nat.pow_le_pow_right (by omega) (by omega)))
    rw [this] at hb
    exact absurd hb (by simp)
  · intro h
    apply Nat.lt_pow_two_of_testBit
    intro i hi
    cases hb : s.testBit i
    · rfl
    · have hiR : i < R := by
        apply Decidable.byContradiction
        intro hp
        have : s.testBit i = false := Nat.testBit_lt_two_pow (Nat.lt_of_lt_of_le hs (Nat.pow_le_pow_right (by omega) (by omega)))
        rw [this] at hb
        exact absurd hb (by simp)
      have := h i (mem_toL.2 ⟨hiR, hb⟩)
      omega
/-- Whether a register is used that has no value, by both texts. -/
theorem checks (pn : ByteArray) {pp : Int} {R : Nat} {bs : List (List SIns)} (hF : FairB bs) (F : FuncOk pn pp (R : Int) bs) (hc : checkE pn pp (R : Int) bs = 0) {z : List Nat} (hz : Sol R bs z)
    (h1 : Ev (fun k => live_sets.f k pn pp (R : Int) bs) (toI z)) (h2 : Ev (fun k => cubbyref11_In.f k pn pp (R : Int) bs) (z.map (toL R))) :
    Ev (fun k => live_Check.f k pn pp (R : Int) bs) (if at_ z 0 / 2 ^ pp.toNat = 0 then 0 else 110) ∧ Ev (fun k => cubbyref11_Check.f k pn pp (R : Int) bs) (if at_ z 0 / 2 ^ pp.toNat = 0 then 0 else 110) := by
  have O := ok_blocks F hF
  have hR := O.le
  have hS := F.shape
  have hp0 := hS.1
  have hp1 := hS.2.1
  have hb0 := hS.2.2.2.2.1
  have hzl := hz.len
  constructor
  · have h3 := check_ev pn pp (R : Int) bs hF
    rw [hc] at h3
    refine Ev.bind h3 (Ev.congr (fun k => by rw [if_pos rfl]) (Ev.bind h1 ?_))
    have e1 : IntKind.u64.wrap pp = pp := by
      rw [IntKind.wrap_u64]
      omega
    have e2 : shr .u64 (rd (toI z) 0) pp = ((at_ z 0 / 2 ^ pp.toNat : Nat) : Int) := by
      unfold shr
      rw [rd_toI, show IntKind.u64.bits = 64 from rfl, Nat.min_eq_left (by omega)]
      rw [show ((2 : Int) ^ pp.toNat) = ((2 ^ pp.toNat : Nat) : Int) by simp]
      rw [Int.toNat_zero]
      exact (Int.natCast_ediv _ _).symm
    by_cases c : at_ z 0 / 2 ^ pp.toNat = 0
    · rw [if_pos c]
      exact Ev.congr (f := fun _ => some 0) (fun k => by rw [if_pos (by rw [toI_len]; omega), e1, if_pos hp0, e2, if_pos (by omega)]) (Ev.now _)
    · rw [if_neg c]
      exact Ev.congr (f := fun _ => some 110) (fun k => by rw [if_pos (by rw [toI_len]; omega), e1, if_pos hp0, e2, if_neg (by omega)]) (Ev.now _)
  · have h3 := refcheck_ev pn pp (R : Int) bs hF
    rw [hc] at h3
    refine Ev.bind h3 (Ev.congr (fun k => by rw [if_pos rfl]) (Ev.bind h2 ?_))
    have hlen := toL_len R (at_ z 0)
    have hlow := toL_low_of (R := R) (p := pp.toNat) (hz.lt 0)
    refine Ev.congr (f := fun k => cubbyref11_Check.l0 k (toL R (at_ z 0)) ((0 : Nat) : Int) pn pp (R : Int) bs) (fun k => by rw [if_pos (by rw [List.length_map]; omega), rdL_map (by omega) (by omega)]; rfl) ?_
    refine seek (fun k i => cubbyref11_Check.l0 k (toL R (at_ z 0)) (i : Int) pn pp (R : Int) bs) (toL R (at_ z 0)).length (fun i => rd (toL R (at_ z 0)) (i : Int) ≥ pp) 110 _ ?_ ?_ ?_ ?_
    · intro i hi hb
      exact Ev.step (f := fun _ => some 110) (fun k => by simp only [cubbyref11_Check.l0]; rw [if_pos (by omega), if_pos (by omega), if_pos hb]) (Ev.now _)
    · intro i hi hb r' hE
      exact Ev.step (fun k => by simp only [cubbyref11_Check.l0]; rw [if_pos (by omega), if_pos (by omega), if_neg hb, wrap_nat (by omega)]) hE
    · rintro ⟨i, hi, hb⟩
      rw [rd_get hi] at hb
      rw [if_neg]
      intro h
      have := hlow.1 h _ (List.getElem_mem hi)
      omega
    · intro h
      rw [if_pos (hlow.2 fun n hn => by
        obtain ⟨i, hi, e⟩ := List.mem_iff_getElem.1 hn
        have := h i hi
        rw [rd_get hi, e] at this
        omega)]
      exact Ev.step (f := fun _ => some 0) (fun k => by simp only [cubbyref11_Check.l0]; rw [if_neg (by omega)]) (Ev.now _)
end Go.Proofs.YtebnnknijbgekaaDoor.PlainLive
namespace Go.Proofs.YtebnnknijbgekaaDoor.PlainLive
open Go Go.RowKit Go.Proofs.YtebnnknijbgekaaDoorW.PrintWords Go.Proofs.YtebnnknijbgekaaDoorW.PrintMore Go.Proofs.YtebnnknijbgekaaDoor.Q Go.Proofs.YtebnnknijbgekaaDoor.Plain Go.Proofs.YtebnnknijbgekaaDoor.PlainIr Go.Proofs.YtebnnknijbgekaaDoor.PlainName Go.Proofs.YtebnnknijbgekaaDoor.PlainBits Go.Proofs.YtebnnknijbgekaaDoor.PlainFix Go.Proofs.YtebnnknijbgekaaDoor.PlainSuccs Go.Proofs.YtebnnknijbgekaaDoor.PlainOne Go.Proofs.YtebnnknijbgekaaDoor.PlainHeavy Go.Proofs.YtebnnknijbgekaaDoor.PlainCheck
set_option linter.unusedVariables false
set_option linter.unusedSimpArgs false

theorem toL_low {R x : Nat} (h0 : 0 < x) (h : x < 2 ^ R) (hR : R ≤ 64) : toL R x = (Lib.ctz 64 x : Int) :: toL R (x &&& (x - 1)) := by
  unfold toL
  rw [toN_low h0 h hR]
  rfl
theorem and_lt {x : Nat} (h0 : 0 < x) : x &&& (x - 1) < x := Nat.lt_of_le_of_lt Nat.and_le_right (by omega)
theorem list_ev {R : Nat} (hR : R ≤ 64) {s : Nat} (hs : s < 2 ^ R) : Ev (fun k => live_set_list.f k (s : Int)) (toL R s) := by
  have h : ∀ (d s : Nat) (out : List Int), s ≤ d → s < 2 ^ R → out.length + (toL R s).length ≤ 64 → Ev (fun k => live_set_list.l0 k (s : Int) out) (out ++ toL R s) := by
    intro d
    induction d with
    | zero =>
      intro s out hd hs ho
      obtain rfl : s = 0 := by omega
      rw [toL_zero, List.append_nil]
      exact Ev.step (f := fun _ => some out) (fun k => by simp only [live_set_list.l0]; rw [if_pos (by omega)]) (Ev.now _)
    | succ d ih =>
      intro s out hd hs ho
      by_cases c : s = 0
      · subst c
        rw [toL_zero, List.append_nil]
        exact Ev.step (f := fun _ => some out) (fun k => by simp only [live_set_list.l0]; rw [if_pos (by omega)]) (Ev.now _)
      · have h0 : 0 < s := by omega
        have h64 := lt64 hR hs
        have hlt := and_lt h0
        rw [toL_low h0 hs hR] at ho ⊢
        rw [List.length_cons] at ho
        have := ih (s &&& (s - 1)) (out ++ [(Lib.ctz 64 s : Int)]) (by omega) (by omega) (by rw [List.length_append, List.length_singleton]; omega)
        rw [List.append_assoc, List.singleton_append] at this
        refine Ev.step (fun k => ?_) this
        simp only [live_set_list.l0]
        have e1 : IntKind.u64.wrap ((s : Int) - 1) = ((s - 1 : Nat) : Int) := by
          rw [IntKind.wrap_u64]
          omega
        have e2 : bits_TrailingZeros64.f (s : Int) = some (Lib.ctz 64 s : Int) := by
          unfold bits_TrailingZeros64.f
          rw [if_pos (by omega), Int.toNat_natCast]
        rw [if_neg (by omega), e2, Option.bind_some, if_pos (by omega), e1, u64_and_nat _ _ (by omega) (by omega)]
  have h1 := toL_len R s
  exact h s s [] (Nat.le_refl _) hs (by rw [List.length_nil]; omega)
theorem ints_ev (l : List Int) (hl : l.length ≤ 4611686018427387904) : Ev (fun k => cubbyref10_Ints.f k l l) true := by
  refine Ev.congr (f := fun k => cubbyref10_Ints.l0 k l l ((0 : Nat) : Int)) (fun k => by unfold cubbyref10_Ints.f; rw [if_pos rfl]; rfl) ?_
  refine scan (fun k i => cubbyref10_Ints.l0 k l l (i : Int)) l.length (fun _ => true) ?_ ?_ 0 (Nat.zero_le _)
  · exact Ev.step (f := fun _ => some true) (fun k => by simp only [cubbyref10_Ints.l0]; rw [if_neg (by omega)]) (Ev.now _)
  · intro i hi hE
    exact Ev.step (fun k => by simp only [cubbyref10_Ints.l0]; rw [if_pos (by omega), if_pos (by omega), if_pos (by omega), if_pos trivial, wrap_nat (by omega)]) hE
theorem livenone_ev : Ev (fun k => live_Check.f k (⟨#[]⟩ : ByteArray) 0 0 ([] : List (List (SIns)))) 70 := by
  have h := check_ev (⟨#[]⟩ : ByteArray) 0 0 [] ⟨by simp, by simp, by simp⟩
  rw [show checkE (⟨#[]⟩ : ByteArray) 0 0 [] = 70 by decide +kernel] at h
  exact Ev.bind h (Ev.now _)
theorem same_ev11 (l : List Int) (hl : l.length ≤ 4611686018427387904) : Ev (fun k => cubbylaw11_same.f k l l) true := Ev.bind (ints_ev l hl) (Ev.now _)
theorem has11_ev (l : List Int) (x : Int) (hl : l.length ≤ 4611686018427387904) : Ev (fun k => cubbylaw11_has.f k l x) (decide (x ∈ l)) := by
  show Ev (fun k => cubbylaw11_has.l0 k l x ((0 : Nat) : Int)) _
  refine seek (fun k i => cubbylaw11_has.l0 k l x (i : Int)) l.length (fun i => rd l (i : Int) = x) true _ ?_ ?_ ?_ ?_
  · intro i hi hb
    exact Ev.step (f := fun _ => some true) (fun k => by simp only [cubbylaw11_has.l0]; rw [if_pos (by omega), if_pos (by omega), if_pos hb]) (Ev.now _)
  · intro i hi hb r' hE
    exact Ev.step (fun k => by simp only [cubbylaw11_has.l0]; rw [if_pos (by omega), if_pos (by omega), if_neg hb, wrap_nat (by omega)]) hE
  · rintro ⟨i, hi, hb⟩
    rw [rd_get hi] at hb
    exact decide_eq_true (hb ▸ List.getElem_mem hi)
  · intro h
    rw [decide_eq_false (fun hx => by
      obtain ⟨i, hi, e⟩ := List.mem_iff_getElem.1 hx
      exact h i hi ((rd_get hi).trans e))]
    exact Ev.step (f := fun _ => some false) (fun k => by simp only [cubbylaw11_has.l0]; rw [if_neg (by omega)]) (Ev.now _)
/-- The bound answers; and if it says no, the function may be. -/
theorem heavy11_ev (pn : ByteArray) (pp rg : Int) (bs : List (List SIns)) (hF : FairB bs) : ∃ h, Ev (fun k => cubbylaw11_heavy.f k pn pp rg bs) h ∧ (h = false → checkE pn pp rg bs = 0 ∧ pn.size ≤ 100 ∧ bs.length ≤ 12 ∧ rg ≤ 40) := by
  by_cases c0 : (pn.size : Int) > 100
  · exact ⟨true, Ev.congr (f := fun _ => some true) (fun k => by unfold cubbylaw11_heavy.f; rw [if_pos c0]) (Ev.now _), by simp⟩
  by_cases c1 : (bs.length : Int) > 12
  · exact ⟨true, Ev.congr (f := fun _ => some true) (fun k => by unfold cubbylaw11_heavy.f; rw [if_neg c0, if_pos c1]) (Ev.now _), by simp⟩
  have h := refcheck_ev pn pp rg bs hF
  by_cases c2 : checkE pn pp rg bs = 0
  · refine ⟨decide (rg > 40), Ev.congr (fun k => by unfold cubbylaw11_heavy.f; rw [if_neg c0, if_neg c1]) (Ev.bind h (Ev.congr (f := fun _ => some (decide (rg > 40))) (fun k => by rw [if_pos c2]) (Ev.now _))), fun h2 => ?_⟩
    have := of_decide_eq_false h2
    exact ⟨c2, by omega, by omega, by omega⟩
  · exact ⟨true, Ev.congr (fun k => by unfold cubbylaw11_heavy.f; rw [if_neg c0, if_neg c1]) (Ev.bind h (Ev.congr (f := fun _ => some true) (fun k => by rw [if_neg c2]) (Ev.now _))), by simp⟩
section
variable (pn : ByteArray) (pp : Int) {R : Nat} {bs : List (List SIns)} (hF : FairB bs) (F : FuncOk pn pp (R : Int) bs) (hc : checkE pn pp (R : Int) bs = 0) {z : List Nat} (hz : Sol R bs z)
  (h1 : Ev (fun k => live_sets.f k pn pp (R : Int) bs) (toI z)) (h2 : Ev (fun k => cubbyref11_In.f k pn pp (R : Int) bs) (z.map (toL R)))
include hF F hc hz h1
theorem in_ev : Ev (fun k => live_In.f k pn pp (R : Int) bs) (z.map (toL R)) := by
  have O := ok_blocks F hF
  have hbl := O.len
  have hzl := hz.len
  have hR := O.le
  have h3 := check_ev pn pp (R : Int) bs hF
  rw [hc] at h3
  refine Ev.bind h3 (Ev.congr (fun k => by rw [if_pos rfl]) (Ev.bind h1 ?_))
  have h : ∀ (d j : Nat), j + d = z.length → Ev (fun k => live_In.l0 k ((z.take j).map (toL R)) (toI z) ((toI z).length : Int) (j : Int)) (z.map (toL R)) := by
    intro d
    induction d with
    | zero =>
      intro j hj
      rw [List.take_of_length_le (by omega)]
      exact Ev.step (f := fun _ => some (z.map (toL R))) (fun k => by simp only [live_In.l0]; rw [if_neg (by rw [toI_len]; omega)]) (Ev.now _)
    | succ d ih =>
      intro j hj
      have hjl : j < z.length := by omega
      have := ih (j + 1) (by omega)
      rw [List.take_succ_eq_append_getElem hjl, List.map_append, List.map_singleton] at this
      have e : at_ z j = z[j] := by
        unfold at_
        rw [List.getD_eq_getElem?_getD, List.getElem?_eq_getElem hjl]
        rfl
      have hl := list_ev hR (hz.lt j)
      refine Ev.step (fun k => by simp only [live_In.l0]; rw [if_pos (by rw [toI_len]; omega), if_pos (by omega), if_pos (by rw [toI_len]; omega), rd_toI, Int.toNat_natCast]) (Ev.bind hl ?_)
      rw [← e] at this
      exact Ev.congr (fun k => by rw [if_pos (by rw [List.length_map, List.length_take]; omega), wrap_nat (by omega)]) this
  have := h z.length 0 (by omega)
  rw [List.take_zero] at this
  exact this
theorem aheadL_ev {b i : Nat} (hb : b < bs.length) (hi : i ≤ (bs.getD b []).length) : Ev (fun k => live_Ahead.f k pn pp (R : Int) bs (b : Int) (i : Int)) (toL R (aheadN bs z b i)) := by
  have O := ok_blocks F hF
  have hR := O.le
  have h3 := check_ev pn pp (R : Int) bs hF
  rw [hc] at h3
  refine Ev.bind h3 (Ev.congr (fun k => by rw [if_pos rfl, if_neg (by omega), if_neg (by omega), if_neg (by omega), if_pos (by omega), if_pos (by omega), rd_row hb, decide_eq_false (by omega)]) ?_)
  refine Ev.step (fun k => by simp only [live_Ahead.j0]; rw [if_neg Bool.false_ne_true]) (Ev.bind h1 (Ev.bind (ahead_ev pn pp O hz.len hz.lt hb hi) (Ev.bind (list_ev hR (aheadN_lt O hz hb)) (Ev.now _))))
end
section
variable (pn : ByteArray) (pp : Int) {R : Nat} {bs : List (List SIns)} (hF : FairB bs) (F : FuncOk pn pp (R : Int) bs) (hc : checkE pn pp (R : Int) bs = 0) {z : List Nat} (hz : Sol R bs z)
  (h2 : Ev (fun k => cubbyref11_In.f k pn pp (R : Int) bs) (z.map (toL R)))
include hF F hc hz h2
theorem refaheadL_ev {b i : Nat} (hb : b < bs.length) (hi : i ≤ (bs.getD b []).length) : Ev (fun k => cubbyref11_Ahead.f k pn pp (R : Int) bs (b : Int) (i : Int)) (toL R (aheadN bs z b i)) := by
  have O := ok_blocks F hF
  have hR := O.le
  have h3 := refcheck_ev pn pp (R : Int) bs hF
  rw [hc] at h3
  refine Ev.bind h3 (Ev.congr (fun k => by rw [if_pos rfl, if_neg (by omega), if_neg (by omega), if_neg (by omega), if_pos (by omega), if_pos (by omega), rd_row hb, decide_eq_false (by omega)]) ?_)
  refine Ev.step (fun k => by simp only [cubbyref11_Ahead.j0]; rw [if_neg Bool.false_ne_true]) (Ev.bind h2 (Ev.bind (refahead_ev pn pp O hz.len hz.lt hb hi) (Ev.now _)))
end
section
variable (pn : ByteArray) (pp rg : Int) {bs : List (List SIns)} (hF : FairB bs) (hc : checkE pn pp rg bs = 0)
include hF hc
theorem out_ev {b i : Int} (h : b < 0 ∨ (bs.length : Int) ≤ b ∨ i < 0 ∨ ((bs.getD b.toNat []).length : Int) < i) : Ev (fun k => live_Ahead.f k pn pp rg bs b i) [] := by
  have h3 := check_ev pn pp rg bs hF
  rw [hc] at h3
  have hj : Ev (fun k => live_Ahead.j0 k b i true pn pp rg bs) [] := Ev.step (f := fun _ => some []) (fun k => by simp only [live_Ahead.j0]; rw [if_pos trivial]) (Ev.now _)
  refine Ev.bind h3 ?_
  by_cases c0 : b < 0
  · exact Ev.congr (fun k => by rw [if_pos rfl, if_pos c0]) hj
  by_cases c1 : b ≥ (bs.length : Int)
  · exact Ev.congr (fun k => by rw [if_pos rfl, if_neg c0, if_pos c1]) hj
  by_cases c2 : i < 0
  · exact Ev.congr (fun k => by rw [if_pos rfl, if_neg c0, if_neg c1, if_pos c2]) hj
  have e : rd_LIns bs b = bs.getD b.toNat [] := rfl
  exact Ev.congr (fun k => by rw [if_pos rfl, if_neg c0, if_neg c1, if_neg c2, if_pos (by omega), if_pos (by omega), e, decide_eq_true (by omega)]) hj
theorem refout_ev {b i : Int} (h : b < 0 ∨ (bs.length : Int) ≤ b ∨ i < 0 ∨ ((bs.getD b.toNat []).length : Int) < i) : Ev (fun k => cubbyref11_Ahead.f k pn pp rg bs b i) [] := by
  have h3 := refcheck_ev pn pp rg bs hF
  rw [hc] at h3
  have hj : Ev (fun k => cubbyref11_Ahead.j0 k b i true pn pp rg bs) [] := Ev.step (f := fun _ => some []) (fun k => by simp only [cubbyref11_Ahead.j0]; rw [if_pos trivial]) (Ev.now _)
  refine Ev.bind h3 ?_
  by_cases c0 : b < 0
  · exact Ev.congr (fun k => by rw [if_pos rfl, if_pos c0]) hj
  by_cases c1 : b ≥ (bs.length : Int)
  · exact Ev.congr (fun k => by rw [if_pos rfl, if_neg c0, if_pos c1]) hj
  by_cases c2 : i < 0
  · exact Ev.congr (fun k => by rw [if_pos rfl, if_neg c0, if_neg c1, if_pos c2]) hj
  have e : rd_LIns bs b = bs.getD b.toNat [] := rfl
  exact Ev.congr (fun k => by rw [if_pos rfl, if_neg c0, if_neg c1, if_neg c2, if_pos (by omega), if_pos (by omega), e, decide_eq_true (by omega)]) hj
end
/-- Whatever the place: the two texts' answers are one short list. -/
theorem aheads (pn : ByteArray) (pp : Int) {R : Nat} {bs : List (List SIns)} (hF : FairB bs) (F : FuncOk pn pp (R : Int) bs) (hc : checkE pn pp (R : Int) bs = 0) {z : List Nat} (hz : Sol R bs z)
    (h1 : Ev (fun k => live_sets.f k pn pp (R : Int) bs) (toI z)) (h2 : Ev (fun k => cubbyref11_In.f k pn pp (R : Int) bs) (z.map (toL R))) (b i : Int) :
    ∃ l : List Int, l.length ≤ R ∧ Ev (fun k => live_Ahead.f k pn pp (R : Int) bs b i) l ∧ Ev (fun k => cubbyref11_Ahead.f k pn pp (R : Int) bs b i) l := by
  by_cases h : b < 0 ∨ (bs.length : Int) ≤ b ∨ i < 0 ∨ ((bs.getD b.toNat []).length : Int) < i
  · exact ⟨[], Nat.zero_le _, out_ev pn pp (R : Int) hF hc h, refout_ev pn pp (R : Int) hF hc h⟩
  · have hb : b.toNat < bs.length := by omega
    have hi : i.toNat ≤ (bs.getD b.toNat []).length := by omega
    have e1 := aheadL_ev pn pp hF F hc hz h1 hb hi
    have e2 := refaheadL_ev pn pp hF F hc hz h2 hb hi
    rw [show ((b.toNat : Nat) : Int) = b by omega, show ((i.toNat : Nat) : Int) = i by omega] at e1 e2
    exact ⟨_, toL_len R _, e1, e2⟩
end Go.Proofs.YtebnnknijbgekaaDoor.PlainLive
namespace Go.Proofs.YtebnnknijbgekaaDoor.RLiveSmall.Pure
open Go Go.RowKit Go.Proofs.YtebnnknijbgekaaDoorW.PrintWords Go.Proofs.YtebnnknijbgekaaDoorW.PrintMore Go.Proofs.YtebnnknijbgekaaDoor.Q Go.Proofs.YtebnnknijbgekaaDoor.Plain Go.Proofs.YtebnnknijbgekaaDoor.PlainIr Go.Proofs.YtebnnknijbgekaaDoor.PlainOne Go.Proofs.YtebnnknijbgekaaDoor.PlainBits Go.Proofs.YtebnnknijbgekaaDoor.PlainFix Go.Proofs.YtebnnknijbgekaaDoor.PlainHeavy Go.Proofs.YtebnnknijbgekaaDoor.PlainCheck Go.Proofs.YtebnnknijbgekaaDoor.PlainSuccs Go.Proofs.YtebnnknijbgekaaDoor.PlainLive
set_option linter.unusedVariables false
theorem tmod_pos (a n : Int) (h : 0 ≤ a) (hn : 0 < n) : 0 ≤ Int.tmod a n ∧ Int.tmod a n < n := ⟨Int.tmod_nonneg n h, Int.tmod_lt_of_pos a hn⟩
theorem u8_range {n : Int} (h : (Lit.int .u8 n).wf = true) : 0 ≤ n ∧ n ≤ 255 := by
  have := bounds_u8 h
  omega
/-- Is a register read by one of these instructions? -/
def readB (r : Int) (l : List SIns) : Bool := l.any fun x => decide (r ∈ uses x.f0 x.f2 x.f3 x.f5)
/-- A register that is never read is never live. -/
theorem never {R : Nat} {bs : List (List SIns)} (O : BlocksOk R bs) {z : List Nat} (hz : Sol R bs z) (r : Nat) (hr : r < R) (hn : ∀ b ∈ bs, readB (r : Int) b = false) (b : Nat) : (at_ z b).testBit r = false := by
  have hR := O.le
  have hm : ∀ i, (withoutB (2 ^ R - 1) r).testBit i = (decide (i < R) && decide (i ≠ r)) := by
    intro i
    have hp : 2 ^ R ≤ 2 ^ 64 := Nat.pow_le_pow_right (by omega) hR
    have hp0 : 0 < 2 ^ R := Nat.pos_of_ne_zero (by simp)
    rw [withoutB_bit (by omega) (by omega), Nat.testBit_two_pow_sub_one]
  have hat : ∀ c, at_ (List.replicate bs.length (withoutB (2 ^ R - 1) r)) c = if c < bs.length then withoutB (2 ^ R - 1) r else 0 := by
    intro c
    unfold at_
    rw [List.getD_eq_getElem?_getD, List.getElem?_replicate]
    split <;> rfl
  have hno : ∀ c, (at_ (List.replicate bs.length (withoutB (2 ^ R - 1) r)) c).testBit r = false := by
    intro c
    rw [hat]
    split
    · rw [hm]
      simp
    · simp
  have hlt : ∀ c, at_ (List.replicate bs.length (withoutB (2 ^ R - 1) r)) c < 2 ^ R := by
    intro c
    have hp0 : 0 < 2 ^ R := Nat.pos_of_ne_zero (by simp)
    rw [hat]
    split
    · exact withoutB_lt (by omega)
    · exact hp0
  have hfold : ∀ (l : List Int) (s : Nat), s.testBit r = false → (l.foldl (fun s k => s ||| at_ (List.replicate bs.length (withoutB (2 ^ R - 1) r)) k.toNat) s).testBit r = false := by
    intro l
    induction l with
    | nil => exact fun s h => h
    | cons k l ih =>
      intro s h
      refine ih _ ?_
      rw [Nat.testBit_or, h, hno]
      rfl
  have hrow : ∀ (l : List SIns) (s : Nat), (∀ x ∈ l, RegsOk R x) → readB (r : Int) l = false → s < 2 ^ R → s.testBit r = false → (l.foldr thrN s).testBit r = false := by
    intro l
    induction l with
    | nil => exact fun s _ _ _ h => h
    | cons x l ih =>
      intro s hO hu hs h
      unfold readB at hu
      rw [List.any_cons, Bool.or_eq_false_iff] at hu
      have h1 := ih s (fun y hy => hO y (List.mem_cons_of_mem _ hy)) hu.2 hs h
      rw [List.foldr_cons, thrN_bit (hO x List.mem_cons_self) (foldr_lt l s (fun y hy => hO y (List.mem_cons_of_mem _ hy)) hs), h1, hu.1]
      rfl
  have hpre : Pre bs.length (fun x b => aheadN bs x b 0) (List.replicate bs.length (withoutB (2 ^ R - 1) r)) := by
    intro c hc i hi
    have hA : (aheadN bs (List.replicate bs.length (withoutB (2 ^ R - 1) r)) c 0) < 2 ^ R := (aheadN_eqs bs R O.regs).lt _ hlt c hc
    rw [hat, if_pos hc, hm]
    by_cases e : i = r
    · subst e
      have : (aheadN bs (List.replicate bs.length (withoutB (2 ^ R - 1) i)) c 0).testBit i = false := by
        unfold aheadN orN
        rw [getD_get hc, List.drop_zero]
        exact hrow _ _ (O.regs _ (List.getElem_mem hc)) (hn _ (List.getElem_mem hc)) (or_lt bs hlt _) (hfold _ 0 (by simp))
      rw [this] at hi
      exact absurd hi (by simp)
    · rw [decide_eq_true e, Bool.and_true, decide_eq_true_iff]
      apply Decidable.byContradiction
      intro hge
      have : (aheadN bs (List.replicate bs.length (withoutB (2 ^ R - 1) r)) c 0).testBit i = false := Nat.testBit_lt_two_pow (Nat.lt_of_lt_of_le hA (Nat.pow_le_pow_right (by omega) (by omega)))
      rw [this] at hi
      exact absurd hi (by simp)
  cases h : (at_ z b).testBit r
  · rfl
  · have := hz.on.least _ hpre b r h
    rw [hno] at this
    exact absurd this (by simp)
section
variable (pn : ByteArray) (pp rg : Int) (bs : List (List SIns)) (hl : bs.length ≤ 1000) (hr : ∀ b ∈ bs, b.length ≤ 1000) (ha : ∀ b ∈ bs, ∀ x ∈ b, x.f5.length ≤ 17592186043904) (b0 : Int) (zz : List (List Int)) (r : Int)
include hl hr ha
theorem used_row (res : Bool) (i : Nat) (hi : i < bs.length) (hE : ∀ u, Ev (fun k => cubbylaw11_LiveSmall.l1 k b0 zz r u ((i + 1 : Nat) : Int) pn pp rg bs) res → True) (H : ∀ u, u = (readB r bs[i]) → True) : ∀ (d j : Nat) (u : Bool), j + d = bs[i].length →
    Ev (fun k => cubbylaw11_LiveSmall.l1 k b0 zz r (u || readB r (bs[i].drop j)) ((i + 1 : Nat) : Int) pn pp rg bs) res → Ev (fun k => cubbylaw11_LiveSmall.l2 k b0 zz r u (i : Int) (j : Int) pn pp rg bs) res := by
  have hbl := hr _ (List.getElem_mem hi)
  have hba := ha _ (List.getElem_mem hi)
  intro d
  induction d with
  | zero =>
    intro j u hj h
    rw [List.drop_eq_nil_of_le (by omega)] at h
    refine Ev.step (fun k => ?_) h
    simp only [cubbylaw11_LiveSmall.l2]
    rw [if_pos (by omega), if_pos (by omega), rdL_get hi, if_neg (by omega), wrap_nat (by omega)]
    simp [readB]
  | succ d ih =>
    intro j u hj h
    have hjl : j < bs[i].length := by omega
    rw [drop_cons hjl] at h
    have e : readB r (bs[i][j] :: bs[i].drop (j + 1)) = (decide (r ∈ uses bs[i][j].f0 bs[i][j].f2 bs[i][j].f3 bs[i][j].f5) || readB r (bs[i].drop (j + 1))) := by
      unfold readB
      rw [List.any_cons]
    rw [e] at h
    cases u
    · rw [Bool.false_or] at h
      have hx := hba _ (List.getElem_mem hjl)
      refine Ev.step (fun k => by simp only [cubbylaw11_LiveSmall.l2]; rw [if_pos (by omega), if_pos (by omega), rdL_get hi, if_pos (by omega), if_neg Bool.false_ne_true, if_pos (by omega), rd_ins hjl, wrap_nat (by omega)]) (Ev.bind (refuses_ev bs[i][j].f0 bs[i][j].f1 bs[i][j].f2 bs[i][j].f3 bs[i][j].f4 bs[i][j].f5 (by omega)) (Ev.bind (has11_ev _ r (uses_short hx)) ?_))
      exact ih (j + 1) _ (by omega) h
    · rw [Bool.true_or] at h
      refine Ev.step (fun k => by simp only [cubbylaw11_LiveSmall.l2]; rw [if_pos (by omega), if_pos (by omega), rdL_get hi, if_pos (by omega), if_pos trivial, wrap_nat (by omega)]) (ih (j + 1) true (by omega) ?_)
      rw [Bool.true_or]
      exact h
theorem used_all (res : Bool) (H : ∀ u, u = bs.any (readB r) → Ev (fun k => cubbylaw11_LiveSmall.l1 k b0 zz r u (bs.length : Int) pn pp rg bs) res) : ∀ (d i : Nat) (u : Bool), i + d = bs.length → (u || (bs.drop i).any (readB r)) = bs.any (readB r) →
    Ev (fun k => cubbylaw11_LiveSmall.l1 k b0 zz r u (i : Int) pn pp rg bs) res := by
  intro d
  induction d with
  | zero =>
    intro i u hi hu
    obtain rfl : i = bs.length := by omega
    rw [List.drop_length, List.any_nil, Bool.or_false] at hu
    exact H u hu
  | succ d ih =>
    intro i u hi hu
    have hil : i < bs.length := by omega
    have := ih (i + 1) (u || readB r bs[i]) (by omega) (by rw [← hu, drop_cons hil, List.any_cons, Bool.or_assoc])
    refine Ev.step (fun k => by simp only [cubbylaw11_LiveSmall.l1]; rw [if_pos (by omega)]) ?_
    exact used_row pn pp rg bs hl hr ha b0 zz r res i hil (fun _ _ => trivial) (fun _ _ => trivial) bs[i].length 0 u (by omega) this
end
theorem LiveSmall : LiveSmall.Pure := by
  intro pn pp rg bs a hn h1 h2 hbs ha
  refine Ev.rounds ?_
  have hF : FairB bs := ⟨by omega, fun b hb => by have := (hbs.2.2 b hb).1; omega, fun b hb y hy => by have := ((hbs.2.2 b hb).2.2 y hy).2.2.2.2.2.1; omega⟩
  have ha := u8_range ha
  obtain ⟨hv, hE, hfalse⟩ := heavy11_ev pn pp rg bs hF
  refine Ev.bind hE ?_
  cases hv
  · obtain ⟨hc, -, -, -⟩ := hfalse rfl
    have F := checkE_zero hc
    have hS := F.shape
    obtain ⟨R, rfl⟩ := regs_nat F
    obtain ⟨z, hz, e1, e2⟩ := both pn pp hF F hc
    have O := ok_blocks F hF
    have hbl := O.len
    have hR := O.le
    have hb0 := hS.2.2.2.2.1
    have hzl := hz.len
    rw [wrap_id (by omega) (by omega)]
    have t1 := tmod_pos a (bs.length : Int) (by omega) (by omega)
    refine Ev.congr (fun k => by rw [if_neg Bool.false_ne_true, if_neg (by omega), if_pos t1.1, if_pos t1.2]) ?_
    generalize Int.tmod a (bs.length : Int) = b at t1 ⊢
    obtain ⟨b, rfl⟩ : ∃ b' : Nat, b = b' := ⟨b.toNat, by omega⟩
    have hb : b < bs.length := by omega
    have hrow : rd_LIns bs (b : Int) = bs[b] := getD_get hb
    have hgd : bs.getD b [] = bs[b] := getD_get hb
    have hr := O.row _ (List.getElem_mem hb)
    have hne := F.row _ (List.getElem_mem hb)
    rw [hrow]
    have l1 := aheadL_ev pn pp hF F hc hz e1 (b := b) (i := bs[b].length) hb (by rw [hgd]; omega)
    have l3 := refaheadL_ev pn pp hF F hc hz e2 (b := b) (i := bs[b].length) hb (by rw [hgd]; omega)
    have hend : aheadN bs z b bs[b].length = orN z (succs bs (b : Int)) := by
      unfold aheadN
      rw [hgd, List.drop_length]
      rfl
    rw [hend] at l1 l3
    have hlen := toL_len R (orN z (succs bs (b : Int)))
    refine Ev.bind l1 (Ev.bind l3 (Ev.bind (same_ev11 _ (by omega)) ?_))
    have hj : Ev (fun k => cubbylaw11_LiveSmall.j0 k (b : Int) false pn pp (R : Int) bs) true := by
      refine Ev.step (fun k => by simp only [cubbylaw11_LiveSmall.j0]; rw [if_neg Bool.false_ne_true]) (Ev.bind (in_ev pn pp hF F hc hz e1) (Ev.congr (fun k => by rw [if_pos (by rw [List.length_map]; omega)]) ?_))
      refine scan (fun k r => cubbylaw11_LiveSmall.l0 k (b : Int) (z.map (toL R)) (r : Int) pn pp (R : Int) bs) R (fun _ => true) ?_ ?_ 0 (Nat.zero_le _)
      · exact Ev.step (f := fun _ => some true) (fun k => by simp only [cubbylaw11_LiveSmall.l0]; rw [if_neg (by omega)]) (Ev.now _)
      · intro r hr hE2
        refine Ev.step (fun k => by simp only [cubbylaw11_LiveSmall.l0]; rw [if_pos (by omega)]) ?_
        refine used_all pn pp (R : Int) bs O.len O.row O.args (b : Int) (z.map (toL R)) (r : Int) true ?_ bs.length 0 false (by omega) (by rw [List.drop_zero, Bool.false_or])
        intro u hu
        cases u
        · have hno := never O hz r hr (fun c hc => by
            cases h : readB (r : Int) c
            · rfl
            · rw [eq_comm, List.any_eq_false] at hu
              exact absurd h (hu c hc)) b
          have hh := has11_ev (toL R (at_ z b)) (r : Int) (by have := toL_len R (at_ z b); omega)
          rw [decide_eq_false (fun h => by rw [(mem_toL.1 h).2] at hno; exact absurd hno (by simp))] at hh
          refine Ev.step (fun k => by simp only [cubbylaw11_LiveSmall.l1]; rw [if_neg (by omega), if_neg Bool.false_ne_true, if_pos (by omega), if_pos (by rw [List.length_map]; omega), rdL_map (by omega) (by omega), Int.toNat_natCast]) (Ev.bind hh ?_)
          exact Ev.congr (fun k => by rw [if_neg Bool.false_ne_true, wrap_nat (by omega)]) hE2
        · exact Ev.step (fun k => by simp only [cubbylaw11_LiveSmall.l1]; rw [if_neg (by omega), if_pos trivial, wrap_nat (by omega)]) hE2
    have hw := rd_last (b := bs[b]) (fun h => by rw [h] at hne; simp at hne) (by omega)
    by_cases c : (rd_TIns bs[b] (wrap64 ((bs[b].length : Int) - 1))).f0 = 14
    · refine Ev.congr (fun k => by rw [if_pos rfl, if_pos hw.1, if_pos hw.2.1, if_pos c]) ?_
      have hs : succs bs (b : Int) = [] := by
        have hblk : blockAt bs (b : Int) = bs[b] := hgd
        unfold succs
        split
        · rfl
        · rw [hblk, ← hw.2.2]
          unfold targets
          rw [if_neg (by omega), if_neg (by omega)]
          rfl
      rw [hs, show orN z [] = 0 from rfl, toL_zero, decide_eq_false (by simp)]
      exact hj
    · exact Ev.congr (fun k => by rw [if_pos rfl, if_pos hw.1, if_pos hw.2.1, if_neg c]) hj
  · exact Ev.congr (fun k => by rw [if_pos rfl]) (Ev.bind livenone_ev (Ev.now _))
end Go.Proofs.YtebnnknijbgekaaDoor.RLiveSmall.Pure
namespace Go.Proofs.YtebnnknijbgekaaDoor.RLiveSmall
open Go.ChangeShapes Go.WideShapes Go.ChangeAt
open Go.ChangeMaps (open_string shut_string)
open Go Go.RowKit Go.Proofs.YtebnnknijbgekaaDoorW.PrintWords Go.Proofs.YtebnnknijbgekaaDoorW.PrintLast Go.Proofs.YtebnnknijbgekaaDoorW.PrintMore Go.Proofs.YtebnnknijbgekaaDoor.Q Go.Proofs.YtebnnknijbgekaaDoor.Open
set_option linter.unusedVariables false
theorem own : ownKnob Tryd.prog.godebug = none := by kernel_rfl
theorem laidOut : laidOutB Tryd.prog = true := by kernel_rfl
theorem opensIns : Opens Tryd.prog 31 kIns GIns :=
  (Opens.iso (fun x : SIns => (x.f0, x.f1, x.f2, x.f3, x.f4, x.f5)) (fun y => ⟨y.1, y.2.1, y.2.2.1, y.2.2.2.1, y.2.2.2.2.1, y.2.2.2.2.2⟩) (fun _ => rfl) (Opens.struct Tryd.underlying31 (by kernel_rfl) (OpensFs.cons rfl (Opens.int (Tryd.underlying3) (by kernel_rfl)) (OpensFs.cons rfl (Opens.int (Tryd.underlying3) (by kernel_rfl)) (OpensFs.cons rfl (Opens.int (Tryd.underlying3) (by kernel_rfl)) (OpensFs.cons rfl (Opens.int (Tryd.underlying3) (by kernel_rfl)) (OpensFs.cons rfl (Opens.string (Tryd.underlying9) (by kernel_rfl)) (OpensFs.one rfl (Opens.slice (B := 8) (Tryd.underlying29) (by kernel_rfl) (by kernel_rfl) (Opens.int (Tryd.underlying3) (by kernel_rfl))))))))))).imp (fun _ h => h)
set_option maxRecDepth 100000 in
theorem lifted (os : Os) (started : os.Started) (H : Type) (enc : TypeId × Value → H) :
    ReturnsInHanded {} Tryd.checked os 9 .any (fun w args => (Rows.liveSmallSpec.pre enc Tryd.prog Tryd.f9 [] false w args ∧ laidMetH Tryd.prog Rows.liveSmallRow.laid w) ∧ sizedMet enc Tryd.prog Tryd.f9 (OpenSpec.ofChange Rows.liveSmallSpec) false w args) (Rows.liveSmallSpec.post enc Tryd.prog Tryd.f9 false true false false) := by
  refine returnsInHanded_of_change_and (C := Tryd.checked) (X := fun w _ => laidMetH Tryd.prog Rows.liveSmallRow.laid w) (fun _ _ _ hh h => h.of_heap hh) own started (by kernel_rfl) Tryd.func9
    (ChangeSpec.witness_shaped (enc := enc) (C := Tryd.checked) (os := os) (X := fun w _ => laidMetH Tryd.prog Rows.liveSmallRow.laid w) false (World.laidAll Tryd.prog os Rows.liveSmallRow.laid) #[.agg #[.string ByteArray.empty, .int .i64 0, .int .i64 0, .slice none 0 0], .int .u8 0] 8 (World.laidAll_os _ _ _)
      (World.shaped_of_ZipB (by kernel_rfl) (by kernel_rfl)) (by kernel_rfl) (by kernel_rfl) (by kernel_rfl)
      (by rw [MakeChecks.laidMetH_plain _ _ _ (by kernel_rfl)]; exact laidMet_laidAll _ (by kernel_rfl) (by kernel_rfl))) ?_
  intro W base args ds gs before hval0 hW hcnd hsz0 hL0 _
  rw [MakeChecks.laidMetH_plain _ _ _ (by kernel_rfl)] at hL0
  have LAIDF : LaidW W := LaidW.of_reads2 (show Lib.VarReads Tryd.prog W "cubby/ir.shapes" shapesD from Lib.laidMet.reads hL0 (n := "cubby/ir.shapes") (d := Rows.laid_cubby_ir_shapes) (by simp [Rows.liveSmallRow])) (show Lib.VarReads Tryd.prog W "math/bits.deBruijn64tab" tabD from Lib.laidMet.reads hL0 (n := "math/bits.deBruijn64tab") (d := Rows.laid_math_bits_deBruijn64tab) (by simp [Rows.liveSmallRow]))
  have hsz : (DataW.weightsEach Tryd.prog (Tryd.f9.params.toList ++ Rows.liveSmallSpec.plain.varTypes Tryd.prog) (ds ++ gs)).all (· ≤ reachBytes) = true := hsz0
  have hval : ∀ (j : Nat) t v, Tryd.f9.params[j]? = some t → args[j]? = some v → Value.okWide Tryd.prog W .any base t v := hval0
  have hW' := hW
  obtain ⟨p, q, hA0, hV, rfl, hfz, hnd⟩ := hW
  have hA : DataW.TrodAll enc Tryd.prog W 0 (fun _ => true) true Tryd.f9.params.toList args.toList ds p := hA0
  rw [Tryd.params9] at hA hval hsz
  obtain ⟨v0, vs0, d0, ds0, p0, q0, hargs, rfl, rfl, h0, r0⟩ := trodAll_cons hA
  obtain ⟨v1, vs1, d1, ds1, p1, q1, rfl, rfl, rfl, h1, r1⟩ := trodAll_cons r0
  obtain ⟨rfl, rfl, rfl⟩ := trodAll_nil r1
  obtain rfl : args = #[v0, v1] := by cases args; simp_all
  obtain ⟨rfl, rfl⟩ := trodVars_none hV
  have lt0 : ∀ x ∈ p0, x.block < W.heap.size := by obtain ⟨m, hm⟩ := h0; exact DataW.trod_lt m _ _ _ hm
  obtain ⟨cs0, rfl, -⟩ := okWide_struct Tryd.underlying34 (hval 0 34 v0 rfl rfl)
  obtain ⟨⟨a0_0, a0_1, a0_2, l0_3⟩, hk0, gg0⟩ := (Opens.struct Tryd.underlying34 (by kernel_rfl) (OpensFs.cons rfl (Opens.string (Tryd.underlying9) (by kernel_rfl)) (OpensFs.cons rfl (Opens.int (Tryd.underlying3) (by kernel_rfl)) (OpensFs.cons rfl (Opens.int (Tryd.underlying3) (by kernel_rfl)) (OpensFs.one rfl (Opens.slice (B := 24) (Tryd.underlying22) (by kernel_rfl) (by kernel_rfl) (Opens.slice (B := 72) (Tryd.underlying28) (by kernel_rfl) (by kernel_rfl) opensIns)))))) : Opens Tryd.prog 34 (Kd.pair Kd.string (Kd.pair (Kd.int .i64) (Kd.pair (Kd.int .i64) (Kd.slice 28 (Kd.slice 31 kIns))))) (fun y => ((y.1).size ≤ 140737488351232 ∧ ((Lit.int .i64 (y.2.1)).wf = true ∧ ((Lit.int .i64 (y.2.2.1)).wf = true ∧ ((y.2.2.2).length * 24 ≤ 140737488351232 ∧ (y.2.2.2).length ≤ maxLen ∧ ∀ y1 ∈ (y.2.2.2), ((y1).length * 72 ≤ 140737488351232 ∧ (y1).length ≤ maxLen ∧ ∀ y2 ∈ (y1), GIns (y2)))))))).arg h0 hsz (j := 0) rfl rfl
  obtain ⟨g0_0, g0_1, g0_2, g0_3⟩ := gg0
  obtain ⟨_, _, h0_, rfl, ⟨_, _, rfl, rfl, ⟨_, _, rfl, rfl, ⟨A0_3, c0_3, rfl, hc0_3, hr0_3⟩⟩⟩⟩ := hk0
  obtain rfl : cs0 = #[.string a0_0, .int .i64 a0_1, .int .i64 a0_2, .slice A0_3 l0_3.length c0_3] := by
    cases cs0
    simp [Value.cells] at h0_
    simp [h0_]
  have lt1 : ∀ x ∈ p1, x.block < W.heap.size := by obtain ⟨m, hm⟩ := h1; exact DataW.trod_lt m _ _ _ hm
  obtain ⟨a1, rfl, rfl, rfl, w1⟩ := open_int Tryd.underlying5 (hval 1 5 v1 rfl rfl) h1
  clear hA0 hval0 hsz0 hsz
  obtain ⟨k, hf⟩ := Pure.LiveSmall a0_0 a0_1 a0_2 l0_3 a1 g0_0 g0_1 g0_2 g0_3 w1
  refine (Q.cubbylaw11_LiveSmall.calls k a0_0 a0_1 a0_2 A0_3 c0_3 l0_3 a1 true W LAIDF rfl hr0_3 hc0_3 hf).mono ?_
  rintro e W' ⟨rfl, hd⟩
  have bel : Below W.heap.size W W' := hd
  exact ⟨_, rfl, _, _, _, [], _, [], hW', trodAll_mk1 (shut_bool Tryd.underlying4 _), (trodAll_cons_mk (Below.trod laidOut (by kernel_rfl) (of_decide_eq_true (by kernel_rfl)) h0 bel lt0) (trodAll_cons_mk (Below.trod laidOut (by kernel_rfl) (of_decide_eq_true (by kernel_rfl)) h1 bel lt1) trodAll_mk0)), rfl, bel.frame _, fun h => by cases h⟩
theorem over : Rows.liveSmallRow.holds Tryd.pinned (OpenSpec.ofChange Rows.liveSmallSpec) :=
  OpenClaim.holds_of_wide 9 Tryd.f9 rfl rfl rfl rfl rfl rfl rfl ⟨rfl, rfl, rfl, rfl, rfl⟩ rfl rfl rfl rfl rfl (by kernel_rfl) Tryd.func9 (by kernel_rfl)
    (of_decide_eq_true (by kernel_rfl)) (by unfold Func.isWrapper; first | (rw [if_pos (by decide +kernel)]; kernel_rfl) | (rw [if_neg (by decide +kernel)]; exact ⟨rfl, rfl⟩))
    (fun os started H enc _ => lifted os started H enc)
end Go.Proofs.YtebnnknijbgekaaDoor.RLiveSmall
namespace Go.Proofs.YtebnnknijbgekaaDoor
/-- The row, under a short name, for the claim. -/
theorem liveSmall_holds : Rows.LiveSmallSaid := RLiveSmall.over
/-- The tied card. -/
theorem liveSmall_card : Rows.LiveSmallCardSaid :=
  Claim7.holds_tied_plain_at .later [] [.data, .data, .data, .pinned] true (true, "f478bf7cf80a0a19cd0e3ed25470ae850c7921cd0ccad9bb821bd05bde23d4b3") false liveSmall_holds (fun _ h => by cases h) (by kernel_rfl) (fun _ h => by cases h) liveSmall_row_tie rfl ⟨rfl, rfl⟩ (by kernel_rfl) rfl
    (fun f fn hf hfn => by
      obtain rfl : f = 9 := Option.some.inj ((show Tryd.prog.funcNamed "cubby/cubbylaw11.LiveSmall" = some 9 by kernel_rfl).symm.trans hf) |>.symm
      obtain rfl : fn = Tryd.f9 := (Option.some.inj (Tryd.func9.symm.trans hfn)).symm
      exact ⟨by kernel_rfl, fun j t ht => by
        rw [Tryd.params9] at ht
        have hm : t ∈ [34, 5] := by simpa using Array.mem_of_getElem? ht
        have hall : ([34, 5].all fun u => !Tryd.prog.wantsStandIn u) = true := by kernel_rfl
        exact (show Tryd.prog.wantsStandIn t = false by simpa using List.all_eq_true.1 hall t hm)⟩)
    (by kernel_rfl)
#print axioms liveSmall_card
end Go.Proofs.YtebnnknijbgekaaDoor
