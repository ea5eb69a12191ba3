/- For every input the law MachSpoilt returns true, and its arguments read behind the call as they did: no condition. -/
import Derived.Test.YthidcafbhjahdaaDoorRows
import Derived.WalkKit
import Derived.ProofKit
import Derived.OpenShut
import Derived.ShutString
import Derived.ChangeOld
import Derived.Below
import Derived.SizedLaws
import Derived.Test.YthidcafbhjahdaaDoorCards
import Derived.Test.YthidcafbhjahdaaDoorTie
import Derived.LaidMore
import Derived.Lay
import Derived.SevenTiedAt
import Derived.Stop.Joined
import Derived.Lib.LaidU8
import Derived.Test.YthidcafbhjahdaaDoorMMachSpoilt1
import Derived.Test.YthidcafbhjahdaaDoorMMachSpoilt2
import Derived.Test.YthidcafbhjahdaaDoorMMachSpoilt3
import Derived.Test.YthidcafbhjahdaaDoorMMachSpoilt4
namespace Go.Proofs.YthidcafbhjahdaaDoor.PlainOne
open Go Go.RowKit Go.Proofs.YthidcafbhjahdaaDoorW.PrintWords Go.Proofs.YthidcafbhjahdaaDoorW.PrintMore Go.Proofs.YthidcafbhjahdaaDoor.Q Go.Proofs.YthidcafbhjahdaaDoor.Plain Go.Proofs.YthidcafbhjahdaaDoor.PlainIr Go.Proofs.YthidcafbhjahdaaDoor.PlainName
set_option linter.unusedVariables false
set_option linter.unusedSimpArgs false
theorem lt3 {i : Nat} (h : i < 3) : i = 0 ∨ i = 1 ∨ i = 2 := by omega
section
variable (pn : ByteArray) (pp regs : Int) (bs : List (List SIns)) (op d a b : Int) (nm : ByteArray) (args : List Int)
theorem o5 (B : Bool) (hb : op = 11 ∨ (nm.toList = ([] : List UInt8) ∧ args.length = 0)) : Ev (fun k => ir_one.j5 k B op d a b nm args) (if B = true then 70 else e5 op args) := by
 refine Ev.step (f := fun _ => some _) (fun k => ?_) (Ev.now _)
 simp only [ir_one.j5]
 unfold e5
 repeat' split
 all_goals first | rfl | omega
theorem o3 (hb : op = 11 ∨ (nm.toList = ([] : List UInt8) ∧ args.length = 0)) : Ev (fun k => ir_one.l3 k (targets7 op d a b) ((targets7 op d a b).length : Int) 0 pn pp regs bs op d a b nm args) (e3 (bs.length : Int) op d a b nm args) := by
 have hl := targets_short op d a b
 unfold e3
 refine seek (fun k i => ir_one.l3 k (targets7 op d a b) ((targets7 op d a b).length : Int) (i : Int) pn pp regs bs op d a b nm args) (targets7 op d a b).length (fun i => oddReg (bs.length : Int) (rd (targets7 op d a b) (i : Int)) = true) 74 _ ?_ ?_ ?_ ?_
 ·intro i hi hx
  rw [odd_iff] at hx
  refine Ev.step (f := fun _ => some 74) (fun k => ?_) (Ev.now _)
  simp only [ir_one.l3]
  rw [zC (by omega), zC (by omega), zC (by omega)]
  split
  ·rfl
  ·rw [zC (by omega)]
 ·intro i hi hx r' hE
  rw [odd_iff] at hx
  refine Ev.step (fun k => ?_) hE
  simp only [ir_one.l3]
  rw [zC (by omega), zC (by omega), zC (by omega), zD (by omega), zD (by omega), wrap_nat (by omega)]
 ·intro h
  rw [zC (any_odd.2 h)]
 ·intro h
  rw [zD (fun x => by
   obtain ⟨i, hi, hx⟩ := any_odd.1 x
   exact h i hi hx)]
  unfold e4
  by_cases c : op = 11
  ·refine Ev.step (fun k => by simp only [ir_one.l3]; rw [zD (by omega), zC c, name_eq, zJ]) ?_
   have := o5 op d a b nm args (!nameOk nm) hb
   cases hn : nameOk nm
   ·rw [hn] at this
    rw [zC ⟨c, rfl⟩]
    exact this
   ·rw [hn] at this
    rw [zD (by simp)]
    exact this
  ·rw [zD (fun x => c x.1)]
   exact Ev.step (fun k => by simp only [ir_one.l3]; rw [zD (by omega), zD c]) (o5 op d a b nm args false hb)
theorem o2 (s : ByteArray) (S : Sh op s) (hb : op = 11 ∨ (nm.toList = ([] : List UInt8) ∧ args.length = 0)) : Ev (fun k => ir_one.l2 k s [d, a, b] (([d, a, b] : List Int).length : Int) 0 pn pp regs bs op d a b nm args) (e2 (bs.length : Int) op d a b nm args) := by
 have hs := S.size
 have hl : ([d, a, b] : List Int).length = 3 := rfl
 have h0 := S.n0
 have h1 := S.n1
 have h2 := S.n2
 unfold e2
 refine seek (fun k i => ir_one.l2 k s [d, a, b] (([d, a, b] : List Int).length : Int) (i : Int) pn pp regs bs op d a b nm args) 3 (fun i => bt s (i : Int) = 110 ∧ (rd [d, a, b] (i : Int) < 0 ∨ rd [d, a, b] (i : Int) ≥ 65536)) 81 _ ?_ ?_ ?_ ?_
 ·rintro i hi ⟨hx, hy⟩
  refine Ev.step (f := fun _ => some 81) (fun k => ?_) (Ev.now _)
  simp only [ir_one.l2]
  rw [zC (by omega), zC (by omega), zC (by omega), zC (by omega), zC hx]
  split
  ·rfl
  ·rw [zC (by omega)]
 ·intro i hi hx r' hE
  refine Ev.step (fun k => ?_) hE
  simp only [ir_one.l2]
  rw [zC (by omega), zC (by omega), zC (by omega), zC (by omega), wrap_nat (by omega)]
  repeat' split
  all_goals first
   | rfl
   | (exfalso; apply hx; constructor <;> first | assumption | omega)
 ·rintro ⟨i, hi, hx, hy⟩
  rcases lt3 hi with rfl | rfl | rfl
  ·exact absurd hx h0
  ·exact zC ⟨h1.1 hx, hy⟩
  ·exact absurd hx h2
 ·intro h
  rw [zD (fun x => h 1 (by omega) ⟨h1.2 x.1, x.2⟩)]
  refine Ev.step (fun k => by simp only [ir_one.l2]; rw [zD (by omega), targets_eq, zJ]) (o3 pn pp regs bs op d a b nm args hb)
theorem o1 (s : ByteArray) (S : Sh op s) (hop : 1 ≤ op ∧ op ≤ 14) (hb : op = 11 ∨ (nm.toList = ([] : List UInt8) ∧ args.length = 0)) : Ev (fun k => ir_one.l1 k s [d, a, b] [d, a, b] (([d, a, b] : List Int).length : Int) 0 pn pp regs bs op d a b nm args) (e1 regs (bs.length : Int) op d a b nm args) := by
 have hs := S.size
 have hl : ([d, a, b] : List Int).length = 3 := rfl
 have h0 := S.b0
 have h1 := S.b1
 have h2 := S.b2
 have hargs : ¬ op = 11 → args = [] := fun h => by
  rcases hb with hb | hb
  ·exact absurd hb h
  ·exact List.length_eq_zero_iff.1 hb.2
 unfold e1
 have hC : ((hasD op ∧ oddReg regs d = true) ∨ (uses op a b args).any (oddReg regs) = true) ↔ ((∃ i : Nat, i < 3 ∧ bt s (i : Int) = 114 ∧ oddReg regs (rd [d, a, b] (i : Int)) = true) ∨ args.any (oddReg regs) = true) := by
  constructor
  ·rintro (⟨x, y⟩ | x)
   ·exact .inl ⟨0, by omega, h0.2 x, y⟩
   ·by_cases c : op = 11
    ·right
     unfold uses at x
     rwa [zD (by omega), zD (by omega), zC c] at x
    ·left
     unfold uses at x
     split at x
     ·simp at x
      exact ⟨1, by omega, h1.2 (by omega), x⟩
     ·split at x
      ·simp at x
       rcases x with x | x
       ·exact ⟨1, by omega, h1.2 (by omega), x⟩
       ·exact ⟨2, by omega, h2.2 (by omega), x⟩
      ·exact absurd x (by simp)
  ·rintro (⟨i, hi, hx, hy⟩ | x)
   ·rcases lt3 hi with rfl | rfl | rfl
    ·exact .inl ⟨h0.1 hx, hy⟩
    ·right
     have := h1.1 hx
     have hy' : oddReg regs a = true := hy
     unfold uses
     split
     ·simp [hy']
     ·split
      ·simp [hy']
      ·omega
    ·right
     have := h2.1 hx
     have hy' : oddReg regs b = true := hy
     unfold uses
     rw [zD (by omega), zC (by omega)]
     simp [hy']
   ·by_cases c : op = 11
    ·right
     unfold uses
     rw [zD (by omega), zD (by omega), zC c]
     exact x
    ·rw [hargs c] at x
     exact absurd x (by simp)
 refine seek (fun k i => ir_one.l1 k s [d, a, b] [d, a, b] (([d, a, b] : List Int).length : Int) (i : Int) pn pp regs bs op d a b nm args) 3 (fun i => bt s (i : Int) = 114 ∧ oddReg regs (rd [d, a, b] (i : Int)) = true) 73 _ ?_ ?_ ?_ ?_
 ·rintro i hi ⟨hx, hy⟩
  refine Ev.step (f := fun _ => some 73) (fun k => ?_) (Ev.now _)
  simp only [ir_one.l1]
  rw [zC (by omega), zC (by omega), zC (by omega), zC (by omega), zC hx]
  simp only [ir_one_1.f, zJ, hy, if_true]
 ·intro i hi hx r' hE
  refine Ev.step (fun k => ?_) hE
  simp only [ir_one.l1]
  rw [zC (by omega), zC (by omega), zC (by omega), zC (by omega), wrap_nat (by omega)]
  by_cases c : bt s (i : Int) = 114
  ·rw [zC c]
   simp only [ir_one_1.f, zJ]
   rw [zD (fun y => hx ⟨c, y⟩)]
  ·rw [zD c]
 ·rintro ⟨i, hi, hx⟩
  exact zC (hC.2 (.inl ⟨i, hi, hx⟩))
 ·intro h
  by_cases c : args.any (oddReg regs) = true
  ·rw [zC (hC.2 (.inr c))]
   exact Ev.step (f := fun _ => some 73) (fun k => by simp only [ir_one.l1]; rw [zD (by omega)]; simp only [slices_ContainsFunc_int_int.f, zJ]; rw [zC c]) (Ev.now _)
  ·rw [zD (fun x => by
    rcases hC.1 x with ⟨i, hi, hy⟩ | y
    ·exact h i hi hy
    ·exact c y)]
   exact Ev.step (fun k => by simp only [ir_one.l1]; rw [zD (by omega)]; simp only [slices_ContainsFunc_int_int.f, zJ]; rw [zD c]) (o2 pn pp regs bs op d a b nm args s S hb)
theorem o0 (s : ByteArray) (S : Sh op s) (hop : 1 ≤ op ∧ op ≤ 14) (hb : op = 11 ∨ (nm.toList = ([] : List UInt8) ∧ args.length = 0)) : Ev (fun k => ir_one.l0 k s [d, a, b] [d, a, b] (([d, a, b] : List Int).length : Int) 0 pn pp regs bs op d a b nm args) (if bareP op d a b nm args then e1 regs (bs.length : Int) op d a b nm args else 72) := by
 have hs := S.size
 have hl : ([d, a, b] : List Int).length = 3 := rfl
 have h0 := S.f0
 have h1 := S.f1
 have h2 := S.f2
 refine seek (fun k i => ir_one.l0 k s [d, a, b] [d, a, b] (([d, a, b] : List Int).length : Int) (i : Int) pn pp regs bs op d a b nm args) 3 (fun i => bt s (i : Int) = 32 ∧ ¬ rd [d, a, b] (i : Int) = 0) 72 _ ?_ ?_ ?_ ?_
 ·rintro i hi ⟨hx, hy⟩
  refine Ev.step (f := fun _ => some 72) (fun k => ?_) (Ev.now _)
  simp only [ir_one.l0]
  rw [zC (by omega), zC (by omega), zC (by omega), zC (by omega), zC hx, zD hy]
 ·intro i hi hx r' hE
  refine Ev.step (fun k => ?_) hE
  simp only [ir_one.l0]
  rw [zC (by omega), zC (by omega), zC (by omega), zC (by omega), wrap_nat (by omega)]
  by_cases c : bt s (i : Int) = 32
  ·rw [zC c, zC (Decidable.byContradiction fun y => hx ⟨c, y⟩)]
  ·rw [zD c]
 ·rintro ⟨i, hi, hx, hy⟩
  refine zD (fun hB => ?_)
  obtain ⟨_, f0, f1, f2⟩ := hB
  rcases lt3 hi with rfl | rfl | rfl
  ·exact hy (f0 (h0.1 hx))
  ·exact hy (f1 (h1.1 hx))
  ·exact hy (f2 (h2.1 hx))
 ·intro h
  rw [zC ⟨hb, fun x => Decidable.byContradiction fun y => h 0 (by omega) ⟨h0.2 x, y⟩, fun x => Decidable.byContradiction fun y => h 1 (by omega) ⟨h1.2 x, y⟩, fun x => Decidable.byContradiction fun y => h 2 (by omega) ⟨h2.2 x, y⟩⟩]
  exact Ev.step (fun k => by simp only [ir_one.l0]; rw [zD (by omega)]) (o1 pn pp regs bs op d a b nm args s S hop hb)
theorem one_ev (last : Bool) : Ev (fun k => ir_one.f k pn pp regs bs op d a b nm args last) (oneE regs (bs.length : Int) op d a b nm args last) := by
 unfold oneE
 by_cases hop : 1 ≤ op ∧ op ≤ 14
 ·obtain ⟨s, hs, S⟩ := shape_some hop
  have hyes : Ev (fun k => ir_one.j0 k s true pn pp regs bs op d a b nm args) 72 := Ev.step (f := fun _ => some 72) (fun k => by simp only [ir_one.j0]; rw [zC trivial]) (Ev.now _)
  by_cases c2 : lastOp op = last
  ·have hgo : (op = 11 ∨ (nm.toList = ([] : List UInt8) ∧ args.length = 0)) → Ev (fun k => ir_one.j0 k s false pn pp regs bs op d a b nm args) (if (1 ≤ op ∧ op ≤ 14) ∧ lastOp op = last ∧ bareP op d a b nm args then e1 regs (bs.length : Int) op d a b nm args else 72) := fun hb => by
    refine Ev.step (fun k => by simp only [ir_one.j0]; rw [zD Bool.false_ne_true, zJ]) ?_
    have := o0 pn pp regs bs op d a b nm args s S hop hb
    by_cases c3 : bareP op d a b nm args
    ·rw [zC ⟨hop, c2, c3⟩]
     rw [zC c3] at this
     exact this
    ·rw [zD (fun x => c3 x.2.2)]
     rw [zD c3] at this
     exact this
   by_cases c : op = 11
   ·exact Ev.congr (fun k => by unfold ir_one.f; rw [hs, zJ, zD S.ne, last_eq, zJ, zD (by simp [c2]), zC c]) (hgo (.inl c))
   ·by_cases c1 : nm.toList = ([] : List UInt8)
    ·refine Ev.congr (fun k => by unfold ir_one.f; rw [hs, zJ, zD S.ne, last_eq, zJ, zD (by simp [c2]), zD c, zC c1]) ?_
     by_cases c4 : (args.length : Int) > 0
     ·rw [zF c4, zD (fun x => by have := x.2.2.1; omega)]
      exact hyes
     ·rw [zG c4]
      exact hgo (.inr ⟨c1, by omega⟩)
    ·rw [zD (fun x => by
      rcases x.2.2.1 with y | y
      ·exact c y
      ·exact c1 y.1)]
     exact Ev.congr (fun k => by unfold ir_one.f; rw [hs, zJ, zD S.ne, last_eq, zJ, zD (by simp [c2]), zD c, zD c1]) hyes
  ·rw [zD (fun x => c2 x.2.1)]
   exact Ev.congr (fun k => by unfold ir_one.f; rw [hs, zJ, zD S.ne, last_eq, zJ, zC (by simpa using c2)]) hyes
 ·rw [zD (fun x => hop x.1)]
  refine Ev.congr (fun k => by unfold ir_one.f; rw [shape_none hop, zJ, zC nil_toList]) ?_
  exact Ev.step (f := fun _ => some 72) (fun k => by simp only [ir_one.j0]; rw [zC trivial]) (Ev.now _)
end
end Go.Proofs.YthidcafbhjahdaaDoor.PlainOne
namespace Go.Proofs.YthidcafbhjahdaaDoor.PlainHeavy
open Go Go.RowKit Go.Proofs.YthidcafbhjahdaaDoorW.PrintWords Go.Proofs.YthidcafbhjahdaaDoorW.PrintMore Go.Proofs.YthidcafbhjahdaaDoor.Q Go.Proofs.YthidcafbhjahdaaDoor.Plain
set_option linter.unusedVariables false
set_option linter.unusedSimpArgs false
theorem rdL_get {l : List (List SIns)} {j : Nat} (h : j < l.length) : rd_LIns l (j : Int) = l[j] := by
 show l.getD j [] = _
 rw [List.getD_eq_getElem?_getD, List.getElem?_eq_getElem h]
 rfl
theorem rdT_get {l : List SIns} {j : Nat} (h : j < l.length) : rd_TIns l (j : Int) = l[j] := by
 show l.getD j zIns = _
 rw [List.getD_eq_getElem?_getD, List.getElem?_eq_getElem h]
 rfl
structure FairB (x : List (List SIns)) : Prop where
 len : x.length ≤ 1000000000000000
 row : ∀ b ∈ x, b.length ≤ 1000000000000000
 ins : ∀ b ∈ x, ∀ y ∈ b, y.f5.length ≤ 17592186043904
end Go.Proofs.YthidcafbhjahdaaDoor.PlainHeavy
namespace Go.Proofs.YthidcafbhjahdaaDoor.PlainCheck
open Go Go.RowKit Go.Proofs.YthidcafbhjahdaaDoorW.PrintWords Go.Proofs.YthidcafbhjahdaaDoorW.PrintMore Go.Proofs.YthidcafbhjahdaaDoor.Q Go.Proofs.YthidcafbhjahdaaDoor.Plain Go.Proofs.YthidcafbhjahdaaDoor.PlainName Go.Proofs.YthidcafbhjahdaaDoor.PlainOne Go.Proofs.YthidcafbhjahdaaDoor.PlainHeavy
set_option linter.unusedVariables false
set_option linter.unusedSimpArgs false
def insE (regs nb : Int) (x : SIns) (last : Bool) : Int := oneE regs nb x.f0 x.f1 x.f2 x.f3 x.f4 x.f5 last
def rowE (regs nb : Int) : List SIns → Int
 | [] => 0
 | x :: xs => if insE regs nb x xs.isEmpty = 0 then rowE regs nb xs else insE regs nb x xs.isEmpty
def allE (regs nb : Int) : List (List SIns) → Int
 | [] => 0
 | b :: bs => if rowE regs nb b = 0 then allE regs nb bs else rowE regs nb b
def total : List (List SIns) → Nat
 | [] => 0
 | b :: bs => b.length + total bs
def fits (left : Int) (l : List (List SIns)) : Bool := decide ((∀ b ∈ l, b.length ≠ 0) ∧ (total l : Int) ≤ left)
def shapeP (params regs : Int) (bs : List (List SIns)) : Prop := 0 ≤ params ∧ params ≤ 4 ∧ params ≤ regs ∧ regs ≤ 64 ∧ 1 ≤ bs.length ∧ bs.length ≤ 32 ∧ fits 200 bs = true
instance (params regs : Int) (bs : List (List SIns)) : Decidable (shapeP params regs bs) := by unfold shapeP; infer_instance
def checkE (nm : ByteArray) (params regs : Int) (bs : List (List SIns)) : Int := if nameOk nm = true then (if shapeP params regs bs then allE regs (bs.length : Int) bs else 71) else 70
theorem fits_nil {left : Int} (h : 0 ≤ left) : fits left [] = true := by
 unfold fits
 apply zF
 exact ⟨by simp, by unfold total; omega⟩
theorem fits_cons (left : Int) (b : List SIns) (bs : List (List SIns)) : fits left (b :: bs) = (decide (b.length ≠ 0) && fits (left - b.length) bs) := by
 unfold fits
 rw [← Bool.decide_and]
 apply decide_eq_decide.2
 simp only [List.mem_cons, forall_eq_or_imp, total]
 constructor
 ·rintro ⟨⟨h1, h2⟩, h3⟩
  exact ⟨h1, h2, by omega⟩
 ·rintro ⟨h1, h2, h3⟩
  exact ⟨⟨h1, h2⟩, by omega⟩
theorem fits_neg {left : Int} {bs : List (List SIns)} (h : left < 0) : fits left bs = false := by
 unfold fits
 apply zG
 rintro ⟨_, h2⟩
 omega
theorem last_eq' {b : List SIns} {j : Nat} (hj : j < b.length) (hl : b.length ≤ 4611686018427387904) : ((j : Int) == wrap64 ((b.length : Int) - 1)) = (b.drop (j + 1)).isEmpty := by
 rw [wrap_pred (by omega) hl]
 by_cases c : j + 1 = b.length
 ·rw [List.drop_eq_nil_of_le (by omega)]
  simp
  omega
 ·have : b.drop (j + 1) ≠ [] := fun h => by
   have := congrArg List.length h
   rw [List.length_drop] at this
   simp at this
   omega
  rw [List.isEmpty_eq_false_iff.2 this]
  simp
  omega

section
variable (pn : ByteArray) (pp rg : Int) (bs : List (List SIns)) (hF : FairB bs)
include hF

theorem check_row (i : Nat) (hi : i < bs.length) (R : Int) (h : Ev (fun k => ir_Check.l1 k bs (bs.length : Int) ((i + 1 : Nat) : Int) pn pp rg bs) R) : ∀ (d j : Nat), bs[i].length - j = d → j ≤ bs[i].length → Ev (fun k => ir_Check.l2 k bs[i] bs (bs.length : Int) (i : Int) bs[i] (bs[i].length : Int) (j : Int) pn pp rg bs) (if rowE rg (bs.length : Int) (bs[i].drop j) = 0 then R else rowE rg (bs.length : Int) (bs[i].drop j)) := by
 have hlen := hF.len
 have hr := hF.row _ (List.getElem_mem hi)
 intro d
 induction d with
 | zero =>
  intro j hd hj
  rw [List.drop_eq_nil_of_le (by omega)]
  unfold rowE
  rw [zC rfl]
  exact Ev.step (fun k => by simp only [ir_Check.l2]; rw [zD (by omega), wrap_nat (by omega)]) h
 | succ d ih =>
  intro j hd hj
  have hlt : j < bs[i].length := by omega
  have hx := hF.ins _ (List.getElem_mem hi) _ (List.getElem_mem hlt)
  rw [drop_cons hlt]
  unfold rowE
  have h1 := one_ev pn pp rg bs bs[i][j].f0 bs[i][j].f1 bs[i][j].f2 bs[i][j].f3 bs[i][j].f4 bs[i][j].f5 (bs[i].drop (j + 1)).isEmpty
  refine Ev.step (fun k => by simp only [ir_Check.l2]; rw [zC (by omega), zC (by omega), zC (by omega), rdT_get hlt, last_eq' hlt (by omega)]) (Ev.bind h1 ?_)
  show Ev (fun n => if insE rg (bs.length : Int) bs[i][j] (bs[i].drop (j + 1)).isEmpty = 0 then _ else some (insE rg (bs.length : Int) bs[i][j] (bs[i].drop (j + 1)).isEmpty)) _
  by_cases c : insE rg (bs.length : Int) bs[i][j] (bs[i].drop (j + 1)).isEmpty = 0
  ·rw [zC c]
   exact Ev.congr (fun k => by rw [zC c, wrap_nat (by omega)]) (ih (j + 1) (by omega) (by omega))
  ·rw [zD c, zD c]
   exact Ev.congr (f := fun _ => some _) (fun k => by rw [zD c]) (Ev.now _)
theorem check_all : ∀ (d i : Nat), bs.length - i = d → i ≤ bs.length → Ev (fun k => ir_Check.l1 k bs (bs.length : Int) (i : Int) pn pp rg bs) (allE rg (bs.length : Int) (bs.drop i)) := by
 intro d
 induction d with
 | zero =>
  intro i hd hi
  rw [List.drop_eq_nil_of_le (by omega)]
  exact Ev.step (f := fun _ => some 0) (fun k => by simp only [ir_Check.l1]; rw [zD (by omega)]) (Ev.now _)
 | succ d ih =>
  intro i hd hi
  have hlt : i < bs.length := by omega
  rw [drop_cons hlt]
  unfold allE
  refine Ev.step (fun k => by simp only [ir_Check.l1]; rw [zC (by omega), zC (by omega), zC (by omega), rdL_get hlt]) ?_
  have := check_row pn pp rg bs hF i hlt _ (ih (i + 1) (by omega) (by omega)) bs[i].length 0 (by omega) (by omega)
  rw [List.drop_zero] at this
  exact this
theorem check_fits : ∀ (d i : Nat), bs.length - i = d → i ≤ bs.length → ∀ left : Int, 0 ≤ left → left ≤ 200 → Ev (fun k => ir_Check.l0 k left bs (bs.length : Int) (i : Int) pn pp rg bs) (if fits left (bs.drop i) = true then allE rg (bs.length : Int) bs else 71) := by
 have hlen := hF.len
 intro d
 induction d with
 | zero =>
  intro i hd hi left h0 h1
  rw [List.drop_eq_nil_of_le (by omega), fits_nil h0, zC rfl]
  have := check_all pn pp rg bs hF bs.length 0 (by omega) (by omega)
  exact Ev.step (fun k => by simp only [ir_Check.l0]; rw [zD (by omega)]; rfl) this
 | succ d ih =>
  intro i hd hi left h0 h1
  have hlt : i < bs.length := by omega
  rw [drop_cons hlt, fits_cons]
  by_cases c : ((bs[i]).length : Int) = 0
  ·rw [zG (by omega), Bool.false_and, zD Bool.false_ne_true]
   exact Ev.step (f := fun _ => some 71) (fun k => by simp only [ir_Check.l0]; rw [zC (by omega), zC (by omega), zC (by omega), rdL_get hlt, zC c]) (Ev.now _)
  ·by_cases c1 : ((bs[i]).length : Int) > left
   ·rw [fits_neg (by omega), Bool.and_false, zD Bool.false_ne_true]
    exact Ev.step (f := fun _ => some 71) (fun k => by simp only [ir_Check.l0]; rw [zC (by omega), zC (by omega), zC (by omega), rdL_get hlt, zD c, zC c1]) (Ev.now _)
   ·rw [zF (by omega), Bool.true_and]
    refine Ev.step (fun k => ?_) (ih (i + 1) (by omega) (by omega) (left - (bs[i]).length) (by omega) (by omega))
    simp only [ir_Check.l0]
    rw [zC (by omega), zC (by omega), zC (by omega), rdL_get hlt, zD c, zD c1, wrap_nat (by omega), wrap_id (by omega) (by omega)]
theorem check_ev : Ev (fun k => ir_Check.f k pn pp rg bs) (checkE pn pp rg bs) := by
 unfold checkE
 cases hn : nameOk pn
 ·exact Ev.congr (f := fun _ => some 70) (fun k => by unfold ir_Check.f; rw [name_eq, zJ, hn, zD Bool.false_ne_true]) (Ev.now _)
 ·rw [zC rfl]
  refine Ev.congr (fun k => by unfold ir_Check.f; rw [name_eq, zJ, hn, zC rfl]) ?_
  have hyes : ¬ shapeP pp rg bs → Ev (fun k => ir_Check.j0 k true pn pp rg bs) (if shapeP pp rg bs then allE rg (bs.length : Int) bs else 71) := fun h => by
   rw [zD h]
   exact Ev.step (f := fun _ => some 71) (fun k => by simp only [ir_Check.j0]; rw [zC trivial]) (Ev.now _)
  by_cases c0 : pp < 0
  ·exact Ev.congr (fun k => by rw [zC c0]) (hyes (fun h => by have := h.1; omega))
  by_cases c1 : pp > 4
  ·exact Ev.congr (fun k => by rw [zD c0, zC c1]) (hyes (fun h => by have := h.2.1; omega))
  by_cases c2 : rg < pp
  ·exact Ev.congr (fun k => by rw [zD c0, zD c1, zC c2]) (hyes (fun h => by have := h.2.2.1; omega))
  by_cases c3 : rg > 64
  ·exact Ev.congr (fun k => by rw [zD c0, zD c1, zD c2, zC c3]) (hyes (fun h => by have := h.2.2.2.1; omega))
  by_cases c4 : (bs.length : Int) < 1
  ·exact Ev.congr (fun k => by rw [zD c0, zD c1, zD c2, zD c3, zC c4]) (hyes (fun h => by have := h.2.2.2.2.1; omega))
  refine Ev.congr (fun k => by rw [zD c0, zD c1, zD c2, zD c3, zD c4]) ?_
  by_cases c5 : (bs.length : Int) > 32
  ·rw [zF c5]
   exact hyes (fun h => by have := h.2.2.2.2.2.1; omega)
  ·rw [zG c5]
   have := check_fits pn pp rg bs hF bs.length 0 (by omega) (by omega) 200 (by omega) (by omega)
   rw [List.drop_zero] at this
   refine Ev.step (f := fun k => ir_Check.l0 k 200 bs (bs.length : Int) ((0 : Nat) : Int) pn pp rg bs) (fun k => by simp only [ir_Check.j0]; rw [zD Bool.false_ne_true]; rfl) ?_
   by_cases hf : fits 200 bs = true
   ·rw [zC hf] at this
    rw [zC ⟨by omega, by omega, by omega, by omega, by omega, by omega, hf⟩]
    exact this
   ·rw [zD hf] at this
    rw [zD (fun h => hf h.2.2.2.2.2.2)]
    exact this
end
end Go.Proofs.YthidcafbhjahdaaDoor.PlainCheck
namespace Go.Proofs.YthidcafbhjahdaaDoor.PlainMachOne
open Go Go.RowKit Go.Proofs.YthidcafbhjahdaaDoorW.PrintWords Go.Proofs.YthidcafbhjahdaaDoorW.PrintMore Go.Proofs.YthidcafbhjahdaaDoor.Q Go.Proofs.YthidcafbhjahdaaDoor.Plain Go.Proofs.YthidcafbhjahdaaDoor.PlainIr Go.Proofs.YthidcafbhjahdaaDoor.PlainName Go.Proofs.YthidcafbhjahdaaDoor.PlainOne Go.Proofs.YthidcafbhjahdaaDoor.PlainHeavy Go.Proofs.YthidcafbhjahdaaDoor.PlainCheck
set_option linter.unusedVariables false
set_option linter.unusedSimpArgs false
def inB (n most : Int) : Bool := decide (0 ≤ n ∧ n < most)
theorem below_eq (n most : Int) : mach_below.f n most = some (inB n most) := by
 unfold mach_below.f inB
 by_cases c : n ≥ 0
 ·rw [zC c]
  congr 1
  apply decide_eq_decide.2
  omega
 ·rw [zD c, zG (by omega)]
theorem in_eq (n most : Int) : cubbyref13_in.f n most = some (inB n most) := by
 unfold cubbyref13_in.f inB
 by_cases c : n ≥ 0
 ·rw [zC c]
  congr 1
  apply decide_eq_decide.2
  omega
 ·rw [zD c, zG (by omega)]
def machE (rg sl nb op d a b : Int) (nm : ByteArray) (args : List Int) (last : Bool) : Int :=
 if op = 21 ∨ op = 22 then (if last = true ∨ b ≠ 0 ∨ nm.toList ≠ ([] : List UInt8) ∨ 0 < args.length then 72 else if (inB (if op = 21 then d else a) rg && inB (if op = 21 then a else d) sl) = true then 0 else 73)
 else if op = 11 then (if last = true ∨ d ≠ 0 ∨ b ≠ 0 ∨ 0 < args.length then 72 else if nameOk nm = true then (if inB a 5 = true then 0 else 192) else 70)
 else oneE rg nb op d a b nm args last
section
variable (pn : ByteArray) (pp rg sl : Int) (bs : List (List SIns)) (op d a b : Int) (nm : ByteArray) (args : List Int)
theorem ref_j1 (hop : op = 21 ∨ op = 22) (B : Bool) : Ev (fun k => cubbyref13_one.j1 k B op d a b nm args pn pp rg sl bs) (if B = true then 72 else if (inB (if op = 21 then d else a) rg && inB (if op = 21 then a else d) sl) = true then 0 else 73) := by
 cases B
 ·rw [zD Bool.false_ne_true]
  by_cases c : op = 21
  ·rw [zC c, zC c]
   cases h1 : inB d rg
   ·exact Ev.step (f := fun _ => some _) (fun k => by simp only [cubbyref13_one.j1]; rw [zD Bool.false_ne_true, zC c, in_eq, zJ, h1, zD Bool.false_ne_true]; rfl) (Ev.now _)
   ·cases h2 : inB a sl
    ·exact Ev.step (f := fun _ => some _) (fun k => by simp only [cubbyref13_one.j1]; rw [zD Bool.false_ne_true, zC c, in_eq, zJ, h1, zC rfl, in_eq, zJ, h2, zD Bool.false_ne_true]; rfl) (Ev.now _)
    ·exact Ev.step (f := fun _ => some _) (fun k => by simp only [cubbyref13_one.j1]; rw [zD Bool.false_ne_true, zC c, in_eq, zJ, h1, zC rfl, in_eq, zJ, h2, zC rfl, zD (by omega)]; rfl) (Ev.now _)
  ·have c2 : op = 22 := by omega
   rw [zD c, zD c]
   cases h1 : inB d sl
   ·rw [Bool.and_false]
    exact Ev.step (f := fun _ => some _) (fun k => by simp only [cubbyref13_one.j1]; rw [zD Bool.false_ne_true, zD c, zC c2, in_eq, zJ, h1, zD Bool.false_ne_true]; rfl) (Ev.now _)
   ·rw [Bool.and_true]
    cases h2 : inB a rg
    ·exact Ev.step (f := fun _ => some _) (fun k => by simp only [cubbyref13_one.j1]; rw [zD Bool.false_ne_true, zD c, zC c2, in_eq, zJ, h1, zC rfl, in_eq, zJ, h2, zD Bool.false_ne_true]; rfl) (Ev.now _)
    ·exact Ev.step (f := fun _ => some _) (fun k => by simp only [cubbyref13_one.j1]; rw [zD Bool.false_ne_true, zD c, zC c2, in_eq, zJ, h1, zC rfl, in_eq, zJ, h2, zC rfl]; rfl) (Ev.now _)
 ·rw [zC rfl]
  exact Ev.step (f := fun _ => some _) (fun k => by simp only [cubbyref13_one.j1]; rw [zC trivial]) (Ev.now _)
theorem ref_j2 (B : Bool) : Ev (fun k => cubbyref13_one.j2 k B op d a b nm args) (if B = true then 72 else if nameOk nm = true then (if inB a 5 = true then 0 else 192) else 70) := by
 cases B
 ·rw [zD Bool.false_ne_true]
  refine Ev.step (fun k => by simp only [cubbyref13_one.j2]; rw [zD Bool.false_ne_true]) (Ev.bind (refname_ev nm) ?_)
  cases nameOk nm
  ·exact Ev.congr (f := fun _ => some _) (fun k => by rw [zD Bool.false_ne_true]; rfl) (Ev.now _)
  ·rw [zC rfl]
   cases h : inB a 5
   ·exact Ev.congr (f := fun _ => some _) (fun k => by rw [zC rfl, in_eq, zJ, h, zD Bool.false_ne_true]; rfl) (Ev.now _)
   ·exact Ev.congr (f := fun _ => some _) (fun k => by rw [zC rfl, in_eq, zJ, h, zC rfl]; rfl) (Ev.now _)
 ·rw [zC rfl]
  exact Ev.step (f := fun _ => some _) (fun k => by simp only [cubbyref13_one.j2]; rw [zC trivial]) (Ev.now _)
theorem refmach_ev (ha : args.length ≤ 17592186043904) (last : Bool) : Ev (fun k => cubbyref13_one.f k op d a b nm args pn pp rg sl bs last) (machE rg sl (bs.length : Int) op d a b nm args last) := by
 have h0 : Ev (fun k => cubbyref13_one.j0 k last op (decide (op = 21 ∨ op = 22)) op d a b nm args pn pp rg sl bs) (machE rg sl (bs.length : Int) op d a b nm args last) := by
  unfold machE
  by_cases c : op = 21 ∨ op = 22
  ·rw [zC c, zF c]
   have hj := fun B => ref_j1 pn pp rg sl bs op d a b nm args c B
   by_cases c1 : last = true
   ·rw [zC (.inl c1)]
    have := hj true
    rw [zC rfl] at this
    exact Ev.step (fun k => by simp only [cubbyref13_one.j0]; rw [zC trivial, zC c1]) this
   by_cases c2 : b = 0
   ·by_cases c3 : nm.toList = ([] : List UInt8)
    ·by_cases c4 : (args.length : Int) > 0
     ·rw [zC (.inr (.inr (.inr (by omega))))]
      have := hj true
      rw [zC rfl] at this
      exact Ev.step (fun k => by simp only [cubbyref13_one.j0]; rw [zC trivial, zD c1, zC c2, zC c3, zF c4]) this
     ·rw [zD (fun h => by rcases h with h | h | h | h <;> first | exact c1 h | exact h c2 | exact h c3 | omega)]
      have := hj false
      rw [zD Bool.false_ne_true] at this
      exact Ev.step (fun k => by simp only [cubbyref13_one.j0]; rw [zC trivial, zD c1, zC c2, zC c3, zG c4]) this
    ·rw [zC (.inr (.inr (.inl c3)))]
     have := hj true
     rw [zC rfl] at this
     exact Ev.step (fun k => by simp only [cubbyref13_one.j0]; rw [zC trivial, zD c1, zC c2, zD c3]) this
   ·rw [zC (.inr (.inl c2))]
    have := hj true
    rw [zC rfl] at this
    exact Ev.step (fun k => by simp only [cubbyref13_one.j0]; rw [zC trivial, zD c1, zD c2]) this
  ·rw [zD c, zG c]
   by_cases e : op = 11
   ·rw [zC e]
    have hj := fun B => ref_j2 op d a b nm args B
    by_cases c1 : last = true
    ·rw [zC (.inl c1)]
     have := hj true
     rw [zC rfl] at this
     exact Ev.step (fun k => by simp only [cubbyref13_one.j0]; rw [zD Bool.false_ne_true, zC e, zC c1]) this
    by_cases c2 : d = 0
    ·by_cases c3 : b = 0
     ·by_cases c4 : (args.length : Int) > 0
      ·rw [zC (.inr (.inr (.inr (by omega))))]
       have := hj true
       rw [zC rfl] at this
       exact Ev.step (fun k => by simp only [cubbyref13_one.j0]; rw [zD Bool.false_ne_true, zC e, zD c1, zC c2, zC c3, zF c4]) this
      ·rw [zD (fun h => by rcases h with h | h | h | h <;> first | exact c1 h | exact h c2 | exact h c3 | omega)]
       have := hj false
       rw [zD Bool.false_ne_true] at this
       exact Ev.step (fun k => by simp only [cubbyref13_one.j0]; rw [zD Bool.false_ne_true, zC e, zD c1, zC c2, zC c3, zG c4]) this
     ·rw [zC (.inr (.inr (.inl c3)))]
      have := hj true
      rw [zC rfl] at this
      exact Ev.step (fun k => by simp only [cubbyref13_one.j0]; rw [zD Bool.false_ne_true, zC e, zD c1, zC c2, zD c3]) this
    ·rw [zC (.inr (.inl c2))]
     have := hj true
     rw [zC rfl] at this
     exact Ev.step (fun k => by simp only [cubbyref13_one.j0]; rw [zD Bool.false_ne_true, zC e, zD c1, zD c2]) this
   ·rw [zD e]
    exact Ev.step (fun k => by simp only [cubbyref13_one.j0]; rw [zD Bool.false_ne_true, zD e]) (Ev.bind (refone_ev op d a b nm args ha rg (bs.length : Int) last) (Ev.now _))
 by_cases c : op = 21
 ·rw [zF (.inl c)] at h0
  exact Ev.congr (fun k => by unfold cubbyref13_one.f; rw [zC c, show (op == 21) = true by rw [c]; rfl]) h0
 ·refine Ev.congr (fun k => ?_) h0
  unfold cubbyref13_one.f
  rw [zD c]
  congr 1
  rw [Bool.eq_iff_iff, beq_iff_eq, decide_eq_true_iff]
  omega
end

theorem jump_ok (rg : Int) : insE rg 1 ⟨12, 0, 0, 0, ⟨#[]⟩, []⟩ true = 0 := by
 show oneE rg 1 12 0 0 0 ⟨#[]⟩ [] true = 0
 unfold oneE
 rw [zC ⟨by omega, by decide, by decide +kernel⟩]
 unfold e1
 rw [zD (by
  rintro (⟨h, _⟩ | h)
  ·unfold hasD at h
   omega
  ·exact absurd h (by simp [uses]))]
 unfold e2
 rw [zD (by omega)]
 unfold e3
 rw [zD (by
  have : (targets7 12 0 0 0).any (oddReg 1) = false := by decide
  rw [this]
  simp)]
 unfold e4
 rw [zD (by omega)]
 unfold e5
 rw [zD (by omega)]
def toB (nb n : Int) : Int := if 0 ≤ n ∧ n < nb then 0 else -1
theorem odd_to (nb n : Int) : oddReg 1 (toB nb n) = oddReg nb n := by
 unfold oddReg toB
 apply decide_eq_decide.2
 split <;> omega
theorem name_f : nameOk ⟨#[102]⟩ = true := by decide +kernel
theorem check_one {rg : Int} (h0 : 0 ≤ rg) (h1 : rg ≤ 64) (x : SIns) : checkE ⟨#[102]⟩ 0 rg [[x]] = insE rg 1 x true := by
 unfold checkE
 rw [name_f, zC rfl, zC ⟨by omega, by omega, h0, h1, by simp, by simp, by unfold fits; apply zF; exact ⟨by simp, by simp [total]⟩⟩]
 show allE rg 1 [[x]] = _
 simp only [allE, rowE, List.isEmpty_nil]
 by_cases c : insE rg 1 x true = 0
 ·simp [c]
 ·simp [c]
theorem check_two {rg : Int} (h0 : 0 ≤ rg) (h1 : rg ≤ 64) (x : SIns) : checkE ⟨#[102]⟩ 0 rg [[x, ⟨12, 0, 0, 0, ⟨#[]⟩, []⟩]] = insE rg 1 x false := by
 unfold checkE
 rw [name_f, zC rfl, zC ⟨by omega, by omega, h0, h1, by simp, by simp, by unfold fits; apply zF; exact ⟨by simp, by simp [total]⟩⟩]
 show allE rg 1 [[x, _]] = _
 have hj := jump_ok rg
 simp only [allE, rowE, List.isEmpty_nil, List.isEmpty_cons]
 by_cases c : insE rg 1 x false = 0
 ·simp [c, hj]
 ·simp [c]
theorem lead (rg nb op d a b : Int) (nm : ByteArray) (args : List Int) (last : Bool) :
 oneE rg 1 op (if op = 13 then toB nb d else d) (if op = 12 then toB nb a else a) (if op = 13 then toB nb b else b) nm args last = oneE rg nb op d a b nm args last := by
 by_cases c : op = 13
 ·subst c
  simp only [if_true, zD (show ¬ (13 : Int) = 12 by omega)]
  have hb : bareP 13 (toB nb d) a (toB nb b) nm args ↔ bareP 13 d a b nm args := by
   unfold bareP
   simp
  have hu : uses 13 a (toB nb b) args = uses 13 a b args := by
   unfold uses
   simp
  have ht : (targets7 13 (toB nb d) a (toB nb b)).any (oddReg 1) = (targets7 13 d a b).any (oddReg nb) := by
   unfold targets7
   simp [odd_to]
  unfold oneE
  by_cases h : (1 ≤ (13 : Int) ∧ (13 : Int) ≤ 14) ∧ lastOp 13 = last ∧ bareP 13 d a b nm args
  ·rw [zC h, zC ⟨h.1, h.2.1, hb.2 h.2.2⟩]
   unfold e1 e2 e3
   rw [hu, ht]
   have hd : ¬ hasD 13 := by unfold hasD; omega
   simp [hd]
  ·rw [zD h, zD (fun h' => h ⟨h'.1, h'.2.1, hb.1 h'.2.2⟩)]
 ·by_cases c2 : op = 12
  ·subst c2
   simp only [if_true, zD (show ¬ (12 : Int) = 13 by omega)]
   have hb : bareP 12 d (toB nb a) b nm args ↔ bareP 12 d a b nm args := by
    unfold bareP
    simp
   have hu : uses 12 (toB nb a) b args = uses 12 a b args := by
    unfold uses
    simp
   have ht : (targets7 12 d (toB nb a) b).any (oddReg 1) = (targets7 12 d a b).any (oddReg nb) := by
    unfold targets7
    simp [odd_to]
   unfold oneE
   by_cases h : (1 ≤ (12 : Int) ∧ (12 : Int) ≤ 14) ∧ lastOp 12 = last ∧ bareP 12 d a b nm args
   ·rw [zC h, zC ⟨h.1, h.2.1, hb.2 h.2.2⟩]
    unfold e1 e2 e3
    rw [hu, ht]
    simp
   ·rw [zD h, zD (fun h' => h ⟨h'.1, h'.2.1, hb.1 h'.2.2⟩)]
  ·rw [zD c, zD c2, zD c]
   have ht : ∀ m, (targets7 op d a b).any (oddReg m) = false := by
    intro m
    unfold targets7
    rw [zD c2, zD c]
    rfl
   unfold oneE e1 e2 e3
   rw [ht, ht]
section
variable (pn : ByteArray) (pp rg sl : Int) (bs : List (List SIns)) (op d a b : Int) (nm : ByteArray) (args : List Int)
theorem own_j1 (reg slot : Int) (B : Bool) : Ev (fun k => mach_one.j1 k reg slot B pn pp rg sl bs) (if B = true then 72 else if (inB reg rg && inB slot sl) = true then 0 else 73) := by
 cases B
 ·rw [zD Bool.false_ne_true]
  cases h1 : inB reg rg
  ·exact Ev.step (f := fun _ => some _) (fun k => by simp only [mach_one.j1]; rw [zD Bool.false_ne_true, below_eq, zJ, h1, zD Bool.false_ne_true]; rfl) (Ev.now _)
  ·cases h2 : inB slot sl
   ·exact Ev.step (f := fun _ => some _) (fun k => by simp only [mach_one.j1]; rw [zD Bool.false_ne_true, below_eq, zJ, h1, zC rfl, below_eq, zJ, h2, zD Bool.false_ne_true]; rfl) (Ev.now _)
   ·exact Ev.step (f := fun _ => some _) (fun k => by simp only [mach_one.j1]; rw [zD Bool.false_ne_true, below_eq, zJ, h1, zC rfl, below_eq, zJ, h2, zC rfl]; rfl) (Ev.now _)
 ·rw [zC rfl]
  exact Ev.step (f := fun _ => some _) (fun k => by simp only [mach_one.j1]; rw [zC trivial]) (Ev.now _)
theorem own_j0 (reg slot : Int) (last : Bool) : Ev (fun k => mach_one.j0 k last reg slot pn pp rg sl bs op d a b nm args) (if last = true ∨ b ≠ 0 ∨ nm.toList ≠ ([] : List UInt8) ∨ 0 < args.length then 72 else if (inB reg rg && inB slot sl) = true then 0 else 73) := by
 have hj := fun B => own_j1 pn pp rg sl bs reg slot B
 by_cases c1 : last = true
 ·rw [zC (.inl c1)]
  have := hj true
  rw [zC rfl] at this
  exact Ev.step (fun k => by simp only [mach_one.j0]; rw [zC c1]) this
 by_cases c2 : b = 0
 ·by_cases c3 : nm.toList = ([] : List UInt8)
  ·by_cases c4 : (args.length : Int) > 0
   ·rw [zC (.inr (.inr (.inr (by omega))))]
    have := hj true
    rw [zC rfl] at this
    exact Ev.step (fun k => by simp only [mach_one.j0]; rw [zD c1, zC c2, zC c3, zF c4]) this
   ·rw [zD (fun h => by rcases h with h | h | h | h <;> first | exact c1 h | exact h c2 | exact h c3 | omega)]
    have := hj false
    rw [zD Bool.false_ne_true] at this
    exact Ev.step (fun k => by simp only [mach_one.j0]; rw [zD c1, zC c2, zC c3, zG c4]) this
  ·rw [zC (.inr (.inr (.inl c3)))]
   have := hj true
   rw [zC rfl] at this
   exact Ev.step (fun k => by simp only [mach_one.j0]; rw [zD c1, zC c2, zD c3]) this
 ·rw [zC (.inr (.inl c2))]
  have := hj true
  rw [zC rfl] at this
  exact Ev.step (fun k => by simp only [mach_one.j0]; rw [zD c1, zD c2]) this
theorem own_j2 (B : Bool) : Ev (fun k => mach_one.j2 k B op d a b nm args) (if B = true then 72 else if nameOk nm = true then (if inB a 5 = true then 0 else 192) else 70) := by
 cases B
 ·rw [zD Bool.false_ne_true]
  cases hn : nameOk nm
  ·exact Ev.step (f := fun _ => some _) (fun k => by simp only [mach_one.j2]; rw [zD Bool.false_ne_true, name_eq, zJ, hn, zD Bool.false_ne_true]; rfl) (Ev.now _)
  ·rw [zC rfl]
   cases h : inB a 5
   ·exact Ev.step (f := fun _ => some _) (fun k => by simp only [mach_one.j2]; rw [zD Bool.false_ne_true, name_eq, zJ, hn, zC rfl, below_eq, zJ, h, zD Bool.false_ne_true]; rfl) (Ev.now _)
   ·exact Ev.step (f := fun _ => some _) (fun k => by simp only [mach_one.j2]; rw [zD Bool.false_ne_true, name_eq, zJ, hn, zC rfl, below_eq, zJ, h, zC rfl]; rfl) (Ev.now _)
 ·rw [zC rfl]
  exact Ev.step (f := fun _ => some _) (fun k => by simp only [mach_one.j2]; rw [zC trivial]) (Ev.now _)
theorem to_eq (n : Int) : mach_one_1.f pn pp rg sl bs n = some (toB (bs.length : Int) n) := rfl
theorem tail_ev {rg : Int} (h0 : 0 ≤ rg) (h1 : rg ≤ 64) (x : SIns) (hx : x.f5.length ≤ 17592186043904) (last : Bool) (F : Nat → Option Int) (hF : ∀ k, F k = if last = true then ((ir_Check.f k (⟨#[102]⟩ : ByteArray) 0 rg (([[x]] : List (List (SIns))))).bind fun t => (some t)) else (if ([x] : List SIns).length < 1954687338268 then ((ir_Check.f k (⟨#[102]⟩ : ByteArray) 0 rg (([([x] ++ [(⟨12, 0, 0, 0, (⟨#[]⟩ : ByteArray), ([] : List Int)⟩ : SIns)])] : List (List (SIns))))).bind fun t => (some t)) else (none))) :
 Ev F (insE rg 1 x last) := by
 cases last
 ·have hc := check_ev (⟨#[102]⟩ : ByteArray) 0 rg [[x, ⟨12, 0, 0, 0, ⟨#[]⟩, []⟩]] ⟨by simp, by simp, by
   intro r hr y hy
   obtain rfl := List.mem_singleton.1 hr
   rcases List.mem_cons.1 hy with rfl | hy
   ·exact hx
   ·obtain rfl := List.mem_singleton.1 hy
    simp⟩
  rw [check_two h0 h1] at hc
  exact Ev.congr (fun k => by rw [hF, zD Bool.false_ne_true, zC (by simp)]; rfl) (Ev.bind hc (Ev.now _))
 ·have hc := check_ev (⟨#[102]⟩ : ByteArray) 0 rg [[x]] ⟨by simp, by simp, by
   intro r hr y hy
   obtain rfl := List.mem_singleton.1 hr
   obtain rfl := List.mem_singleton.1 hy
   exact hx⟩
  rw [check_one h0 h1] at hc
  exact Ev.congr (fun k => by rw [hF, zC rfl]) (Ev.bind hc (Ev.now _))
theorem mach_ev (h0 : 0 ≤ rg) (h1 : rg ≤ 64) (ha : args.length ≤ 17592186043904) (last : Bool) : Ev (fun k => mach_one.f k pn pp rg sl bs op d a b nm args last) (machE rg sl (bs.length : Int) op d a b nm args last) := by
 have hl := lead rg (bs.length : Int) op d a b nm args last
 unfold machE
 by_cases c22 : op = 22
 ·have hj := own_j0 pn pp rg sl bs op d a b nm args a d last
  rw [zC (.inr c22), zD (show ¬ op = 21 by omega), zD (show ¬ op = 21 by omega)]
  exact Ev.congr (fun k => by unfold mach_one.f; rw [zC c22]) hj
 by_cases c21 : op = 21
 ·have hj := own_j0 pn pp rg sl bs op d a b nm args d a last
  rw [zC (.inl c21), zC c21, zC c21]
  exact Ev.congr (fun k => by unfold mach_one.f; rw [zD c22, zC c21]) hj
 rw [zD (by omega)]
 by_cases e : op = 11
 ·rw [zC e]
  have hj := fun B => own_j2 op d a b nm args B
  by_cases c1 : last = true
  ·rw [zC (.inl c1)]
   have := hj true
   rw [zC rfl] at this
   exact Ev.congr (fun k => by unfold mach_one.f; rw [zD c22, zD c21, zC e, zC c1]) this
  by_cases c2 : d = 0
  ·by_cases c3 : b = 0
   ·by_cases c4 : (args.length : Int) > 0
    ·rw [zC (.inr (.inr (.inr (by omega))))]
     have := hj true
     rw [zC rfl] at this
     exact Ev.congr (fun k => by unfold mach_one.f; rw [zD c22, zD c21, zC e, zD c1, zC c2, zC c3, zF c4]) this
    ·rw [zD (fun h => by rcases h with h | h | h | h <;> first | exact c1 h | exact h c2 | exact h c3 | omega)]
     have := hj false
     rw [zD Bool.false_ne_true] at this
     exact Ev.congr (fun k => by unfold mach_one.f; rw [zD c22, zD c21, zC e, zD c1, zC c2, zC c3, zG c4]) this
   ·rw [zC (.inr (.inr (.inl c3)))]
    have := hj true
    rw [zC rfl] at this
    exact Ev.congr (fun k => by unfold mach_one.f; rw [zD c22, zD c21, zC e, zD c1, zC c2, zD c3]) this
  ·rw [zC (.inr (.inl c2))]
   have := hj true
   rw [zC rfl] at this
   exact Ev.congr (fun k => by unfold mach_one.f; rw [zD c22, zD c21, zC e, zD c1, zD c2]) this
 rw [zD e]
 by_cases c13 : op = 13
 ·rw [zC c13, zD (show ¬ op = 12 by omega), zC c13] at hl
  rw [← hl]
  exact tail_ev h0 h1 ⟨op, toB (bs.length : Int) d, a, toB (bs.length : Int) b, nm, args⟩ ha last _ (fun k => by unfold mach_one.f; rw [zD c22, zD c21, zD e, zC c13, to_eq, zJ, to_eq, zJ, zJ])
 ·rw [zD c13, zD c13] at hl
  by_cases c12 : op = 12
  ·rw [zC c12] at hl
   rw [← hl]
   exact tail_ev h0 h1 ⟨op, d, toB (bs.length : Int) a, b, nm, args⟩ ha last _ (fun k => by unfold mach_one.f; rw [zD c22, zD c21, zD e, zD c13, zC c12, to_eq, zJ, zJ])
  ·rw [zD c12] at hl
   rw [← hl]
   exact tail_ev h0 h1 ⟨op, d, a, b, nm, args⟩ ha last _ (fun k => by unfold mach_one.f; rw [zD c22, zD c21, zD e, zD c13, zD c12, zJ])
end
end Go.Proofs.YthidcafbhjahdaaDoor.PlainMachOne
namespace Go.Proofs.YthidcafbhjahdaaDoor.PlainMachCheck
open Go Go.RowKit Go.Proofs.YthidcafbhjahdaaDoorW.PrintWords Go.Proofs.YthidcafbhjahdaaDoorW.PrintMore Go.Proofs.YthidcafbhjahdaaDoor.Q Go.Proofs.YthidcafbhjahdaaDoor.Plain Go.Proofs.YthidcafbhjahdaaDoor.PlainName Go.Proofs.YthidcafbhjahdaaDoor.PlainOne Go.Proofs.YthidcafbhjahdaaDoor.PlainHeavy Go.Proofs.YthidcafbhjahdaaDoor.PlainCheck Go.Proofs.YthidcafbhjahdaaDoor.PlainMachOne
set_option linter.unusedVariables false
set_option linter.unusedSimpArgs false
def mIns (rg sl nb : Int) (x : SIns) (last : Bool) : Int := machE rg sl nb x.f0 x.f1 x.f2 x.f3 x.f4 x.f5 last
def rowM (rg sl nb : Int) : List SIns → Int
 | [] => 0
 | x :: xs => if mIns rg sl nb x xs.isEmpty = 0 then rowM rg sl nb xs else mIns rg sl nb x xs.isEmpty
def allM (rg sl nb : Int) : List (List SIns) → Int
 | [] => 0
 | b :: bs => if rowM rg sl nb b = 0 then allM rg sl nb bs else rowM rg sl nb b
def shapeM (pp rg sl : Int) (bs : List (List SIns)) : Prop := (0 ≤ pp ∧ pp < 5) ∧ 6 ≤ rg ∧ rg ≤ 16 ∧ (0 ≤ sl ∧ sl < 65) ∧ 1 ≤ bs.length ∧ bs.length ≤ 33 ∧ fits 1600 bs = true
instance (pp rg sl : Int) (bs : List (List SIns)) : Decidable (shapeM pp rg sl bs) := by unfold shapeM; infer_instance
def codeE (pn : ByteArray) (pp rg sl : Int) (bs : List (List SIns)) : Int := if nameOk pn = true then (if shapeM pp rg sl bs then allM rg sl (bs.length : Int) bs else 71) else 70
section
variable (pn : ByteArray) (pp rg sl : Int) (bs : List (List SIns)) (hF : FairB bs)
include hF

theorem ref_row (i : Nat) (hi : i < bs.length) (R : Int) (h : Ev (fun k => cubbyref13_Check.l1 k ((i + 1 : Nat) : Int) pn pp rg sl bs) R) : ∀ (d j : Nat), bs[i].length - j = d → j ≤ bs[i].length → Ev (fun k => cubbyref13_Check.l2 k (i : Int) (j : Int) pn pp rg sl bs) (if rowM rg sl (bs.length : Int) (bs[i].drop j) = 0 then R else rowM rg sl (bs.length : Int) (bs[i].drop j)) := by
 have hlen := hF.len
 have hr := hF.row _ (List.getElem_mem hi)
 have hg := rdL_get hi
 intro d
 induction d with
 | zero =>
  intro j hd hj
  rw [List.drop_eq_nil_of_le (by omega)]
  unfold rowM
  rw [zC rfl]
  exact Ev.step (fun k => by simp only [cubbyref13_Check.l2]; rw [zC (by omega), zC (by omega), hg, zD (by omega), wrap_nat (by omega)]) h
 | succ d ih =>
  intro j hd hj
  have hlt : j < bs[i].length := by omega
  have hx := hF.ins _ (List.getElem_mem hi) _ (List.getElem_mem hlt)
  rw [drop_cons hlt]
  unfold rowM
  have h1 := refmach_ev pn pp rg sl bs bs[i][j].f0 bs[i][j].f1 bs[i][j].f2 bs[i][j].f3 bs[i][j].f4 bs[i][j].f5 hx (bs[i].drop (j + 1)).isEmpty
  refine Ev.step (fun k => by simp only [cubbyref13_Check.l2]; rw [zC (by omega), zC (by omega), hg, zC (by omega), zC (by omega), rdT_get hlt, last_eq' hlt (by omega)]) (Ev.bind h1 ?_)
  show Ev (fun n => if mIns rg sl (bs.length : Int) bs[i][j] (bs[i].drop (j + 1)).isEmpty = 0 then _ else some (mIns rg sl (bs.length : Int) bs[i][j] (bs[i].drop (j + 1)).isEmpty)) _
  by_cases c : mIns rg sl (bs.length : Int) bs[i][j] (bs[i].drop (j + 1)).isEmpty = 0
  ·rw [zC c]
   exact Ev.congr (fun k => by rw [zC c, wrap_nat (by omega)]) (ih (j + 1) (by omega) (by omega))
  ·rw [zD c, zD c]
   exact Ev.congr (f := fun _ => some _) (fun k => by rw [zD c]) (Ev.now _)
theorem ref_all : ∀ (d i : Nat), bs.length - i = d → i ≤ bs.length → Ev (fun k => cubbyref13_Check.l1 k (i : Int) pn pp rg sl bs) (allM rg sl (bs.length : Int) (bs.drop i)) := by
 intro d
 induction d with
 | zero =>
  intro i hd hi
  rw [List.drop_eq_nil_of_le (by omega)]
  exact Ev.step (f := fun _ => some 0) (fun k => by simp only [cubbyref13_Check.l1]; rw [zD (by omega)]) (Ev.now _)
 | succ d ih =>
  intro i hd hi
  have hlt : i < bs.length := by omega
  rw [drop_cons hlt]
  unfold allM
  have := ref_row pn pp rg sl bs hF i hlt _ (ih (i + 1) (by omega) (by omega)) bs[i].length 0 (by omega) (by omega)
  rw [List.drop_zero] at this
  exact Ev.step (fun k => by simp only [cubbyref13_Check.l1]; rw [zC (by omega)]; rfl) this
theorem ref_fits : ∀ (d i : Nat), bs.length - i = d → i ≤ bs.length → ∀ n : Nat, n ≤ 1600 * i → Ev (fun k => cubbyref13_Check.l0 k (n : Int) (i : Int) pn pp rg sl bs) (if fits (1600 - (n : Int)) (bs.drop i) = true then allM rg sl (bs.length : Int) bs else 71) := by
 have hlen := hF.len
 intro d
 induction d with
 | zero =>
  intro i hd hi n hn
  rw [List.drop_eq_nil_of_le (by omega)]
  have hall := ref_all pn pp rg sl bs hF bs.length 0 (by omega) (by omega)
  by_cases c : (n : Int) > 1600
  ·rw [fits_neg (by omega), zD Bool.false_ne_true]
   exact Ev.step (f := fun _ => some 71) (fun k => by simp only [cubbyref13_Check.l0]; rw [zD (by omega), zC c]) (Ev.now _)
  ·rw [fits_nil (by omega), zC rfl]
   exact Ev.step (fun k => by simp only [cubbyref13_Check.l0]; rw [zD (by omega), zD c]; rfl) hall
 | succ d ih =>
  intro i hd hi n hn
  have hlt : i < bs.length := by omega
  rw [drop_cons hlt, fits_cons]
  by_cases c : ((bs[i]).length : Int) = 0
  ·rw [zG (by omega), Bool.false_and, zD Bool.false_ne_true]
   exact Ev.step (f := fun _ => some 71) (fun k => by simp only [cubbyref13_Check.l0]; rw [zC (by omega), zC (by omega), rdL_get hlt, zC c]) (Ev.now _)
  ·by_cases c1 : ((bs[i]).length : Int) > 1600
   ·rw [fits_neg (by omega), Bool.and_false, zD Bool.false_ne_true]
    exact Ev.step (f := fun _ => some 71) (fun k => by simp only [cubbyref13_Check.l0]; rw [zC (by omega), zC (by omega), rdL_get hlt, zD c, zC c1]) (Ev.now _)
   ·rw [zF (by omega), Bool.true_and]
    have := ih (i + 1) (by omega) (by omega) (n + (bs[i]).length) (by omega)
    rw [show (1600 : Int) - ((n + (bs[i]).length : Nat) : Int) = 1600 - (n : Int) - ((bs[i]).length : Int) by omega] at this
    refine Ev.step (fun k => ?_) this
    simp only [cubbyref13_Check.l0]
    rw [zC (by omega), zC (by omega), rdL_get hlt, zD c, zD c1, wrap_nat (by omega), wrap_id (by omega) (by omega)]
    rfl
theorem refcode_ev : Ev (fun k => cubbyref13_Check.f k pn pp rg sl bs) (codeE pn pp rg sl bs) := by
 unfold codeE
 refine Ev.bind (refname_ev pn) ?_
 cases nameOk pn
 ·exact Ev.congr (f := fun _ => some 70) (fun k => by rw [zD Bool.false_ne_true]) (Ev.now _)
 refine Ev.congr (fun k => by rw [zC rfl, in_eq, zJ]) ?_
 rw [zC rfl]
 have hyes : ¬ shapeM pp rg sl bs → Ev (fun k => cubbyref13_Check.j0 k true pn pp rg sl bs) (if shapeM pp rg sl bs then allM rg sl (bs.length : Int) bs else 71) := fun h => by
  rw [zD h]
  exact Ev.step (f := fun _ => some 71) (fun k => by simp only [cubbyref13_Check.j0]; rw [zC trivial]) (Ev.now _)
 by_cases c0 : 0 ≤ pp ∧ pp < 5
 ·have e0 : inB pp 5 = true := zF c0
  refine Ev.congr (fun k => by rw [e0, zC rfl]) ?_
  by_cases c1 : rg < 6
  ·exact Ev.congr (fun k => by rw [zC c1]) (hyes (fun h => by have := h.2.1; omega))
  by_cases c2 : rg > 16
  ·exact Ev.congr (fun k => by rw [zD c1, zC c2]) (hyes (fun h => by have := h.2.2.1; omega))
  refine Ev.congr (fun k => by rw [zD c1, zD c2, in_eq, zJ]) ?_
  by_cases c3 : 0 ≤ sl ∧ sl < 65
  ·have e3 : inB sl 65 = true := zF c3
   refine Ev.congr (fun k => by rw [e3, zC rfl]) ?_
   by_cases c4 : (bs.length : Int) < 1
   ·exact Ev.congr (fun k => by rw [zC c4]) (hyes (fun h => by have := h.2.2.2.2.1; omega))
   by_cases c5 : (bs.length : Int) > 33
   ·exact Ev.congr (fun k => by rw [zD c4, zF c5]) (hyes (fun h => by have := h.2.2.2.2.2.1; omega))
   refine Ev.congr (fun k => by rw [zD c4, zG c5]) ?_
   have hl := ref_fits pn pp rg sl bs hF bs.length 0 (by omega) (by omega) 0 (by omega)
   rw [List.drop_zero, show (1600 : Int) - ((0 : Nat) : Int) = 1600 by omega] at hl
   refine Ev.step (fun k => by simp only [cubbyref13_Check.j0]; rw [zD Bool.false_ne_true]) ?_
   by_cases hf : fits 1600 bs = true
   ·rw [zC hf] at hl
    rw [zC ⟨c0, by omega, by omega, c3, by omega, by omega, hf⟩]
    exact hl
   ·rw [zD hf] at hl
    rw [zD (fun h => hf h.2.2.2.2.2.2)]
    exact hl
  ·have e3 : inB sl 65 = false := zG c3
   exact Ev.congr (fun k => by rw [e3, zD Bool.false_ne_true]) (hyes (fun h => c3 h.2.2.2.1))
 ·have e0 : inB pp 5 = false := zG c0
  exact Ev.congr (fun k => by rw [e0, zD Bool.false_ne_true]) (hyes (fun h => c0 h.1))

section
variable (h0 : 0 ≤ rg) (h1 : rg ≤ 64)
include h0 h1
theorem own_row (i : Nat) (hi : i < bs.length) (R : Int) (h : Ev (fun k => mach_Check.l1 k bs (bs.length : Int) ((i + 1 : Nat) : Int) pn pp rg sl bs) R) : ∀ (d j : Nat), bs[i].length - j = d → j ≤ bs[i].length → Ev (fun k => mach_Check.l2 k bs[i] bs (bs.length : Int) (i : Int) bs[i] (bs[i].length : Int) (j : Int) pn pp rg sl bs) (if rowM rg sl (bs.length : Int) (bs[i].drop j) = 0 then R else rowM rg sl (bs.length : Int) (bs[i].drop j)) := by
 have hlen := hF.len
 have hr := hF.row _ (List.getElem_mem hi)
 intro d
 induction d with
 | zero =>
  intro j hd hj
  rw [List.drop_eq_nil_of_le (by omega)]
  unfold rowM
  rw [zC rfl]
  exact Ev.step (fun k => by simp only [mach_Check.l2]; rw [zD (by omega), wrap_nat (by omega)]) h
 | succ d ih =>
  intro j hd hj
  have hlt : j < bs[i].length := by omega
  have hx := hF.ins _ (List.getElem_mem hi) _ (List.getElem_mem hlt)
  rw [drop_cons hlt]
  unfold rowM
  have h2 := mach_ev pn pp rg sl bs bs[i][j].f0 bs[i][j].f1 bs[i][j].f2 bs[i][j].f3 bs[i][j].f4 bs[i][j].f5 h0 h1 hx (bs[i].drop (j + 1)).isEmpty
  refine Ev.step (fun k => by simp only [mach_Check.l2]; rw [zC (by omega), zC (by omega), zC (by omega), rdT_get hlt, last_eq' hlt (by omega)]) (Ev.bind h2 ?_)
  show Ev (fun n => if mIns rg sl (bs.length : Int) bs[i][j] (bs[i].drop (j + 1)).isEmpty = 0 then _ else some (mIns rg sl (bs.length : Int) bs[i][j] (bs[i].drop (j + 1)).isEmpty)) _
  by_cases c : mIns rg sl (bs.length : Int) bs[i][j] (bs[i].drop (j + 1)).isEmpty = 0
  ·rw [zC c]
   exact Ev.congr (fun k => by rw [zC c, wrap_nat (by omega)]) (ih (j + 1) (by omega) (by omega))
  ·rw [zD c, zD c]
   exact Ev.congr (f := fun _ => some _) (fun k => by rw [zD c]) (Ev.now _)
theorem own_all : ∀ (d i : Nat), bs.length - i = d → i ≤ bs.length → Ev (fun k => mach_Check.l1 k bs (bs.length : Int) (i : Int) pn pp rg sl bs) (allM rg sl (bs.length : Int) (bs.drop i)) := by
 intro d
 induction d with
 | zero =>
  intro i hd hi
  rw [List.drop_eq_nil_of_le (by omega)]
  exact Ev.step (f := fun _ => some 0) (fun k => by simp only [mach_Check.l1]; rw [zD (by omega)]) (Ev.now _)
 | succ d ih =>
  intro i hd hi
  have hlt : i < bs.length := by omega
  rw [drop_cons hlt]
  unfold allM
  refine Ev.step (fun k => by simp only [mach_Check.l1]; rw [zC (by omega), zC (by omega), zC (by omega), rdL_get hlt]) ?_
  have := own_row pn pp rg sl bs hF h0 h1 i hlt _ (ih (i + 1) (by omega) (by omega)) bs[i].length 0 (by omega) (by omega)
  rw [List.drop_zero] at this
  exact this
theorem own_fits : ∀ (d i : Nat), bs.length - i = d → i ≤ bs.length → ∀ left : Int, 0 ≤ left → left ≤ 1600 → Ev (fun k => mach_Check.l0 k left bs (bs.length : Int) (i : Int) pn pp rg sl bs) (if fits left (bs.drop i) = true then allM rg sl (bs.length : Int) bs else 71) := by
 have hlen := hF.len
 intro d
 induction d with
 | zero =>
  intro i hd hi left g0 g1
  rw [List.drop_eq_nil_of_le (by omega), fits_nil g0, zC rfl]
  have := own_all pn pp rg sl bs hF h0 h1 bs.length 0 (by omega) (by omega)
  exact Ev.step (fun k => by simp only [mach_Check.l0]; rw [zD (by omega)]; rfl) this
 | succ d ih =>
  intro i hd hi left g0 g1
  have hlt : i < bs.length := by omega
  rw [drop_cons hlt, fits_cons]
  by_cases c : ((bs[i]).length : Int) = 0
  ·rw [zG (by omega), Bool.false_and, zD Bool.false_ne_true]
   exact Ev.step (f := fun _ => some 71) (fun k => by simp only [mach_Check.l0]; rw [zC (by omega), zC (by omega), zC (by omega), rdL_get hlt, zC c]) (Ev.now _)
  ·by_cases c1 : ((bs[i]).length : Int) > left
   ·rw [fits_neg (by omega), Bool.and_false, zD Bool.false_ne_true]
    exact Ev.step (f := fun _ => some 71) (fun k => by simp only [mach_Check.l0]; rw [zC (by omega), zC (by omega), zC (by omega), rdL_get hlt, zD c, zC c1]) (Ev.now _)
   ·rw [zF (by omega), Bool.true_and]
    refine Ev.step (fun k => ?_) (ih (i + 1) (by omega) (by omega) (left - (bs[i]).length) (by omega) (by omega))
    simp only [mach_Check.l0]
    rw [zC (by omega), zC (by omega), zC (by omega), rdL_get hlt, zD c, zD c1, wrap_nat (by omega), wrap_id (by omega) (by omega)]
end
theorem code_ev : Ev (fun k => mach_Check.f k pn pp rg sl bs) (codeE pn pp rg sl bs) := by
 unfold codeE
 cases hn : nameOk pn
 ·exact Ev.congr (f := fun _ => some 70) (fun k => by unfold mach_Check.f; rw [name_eq, zJ, hn, zD Bool.false_ne_true]) (Ev.now _)
 refine Ev.congr (fun k => by unfold mach_Check.f; rw [name_eq, zJ, hn, zC rfl, below_eq, zJ]) ?_
 rw [zC rfl]
 have hyes : ¬ shapeM pp rg sl bs → Ev (fun k => mach_Check.j0 k true pn pp rg sl bs) (if shapeM pp rg sl bs then allM rg sl (bs.length : Int) bs else 71) := fun h => by
  rw [zD h]
  exact Ev.step (f := fun _ => some 71) (fun k => by simp only [mach_Check.j0]; rw [zC trivial]) (Ev.now _)
 by_cases c0 : 0 ≤ pp ∧ pp < 5
 ·have e0 : inB pp 5 = true := zF c0
  refine Ev.congr (fun k => by rw [e0, zC rfl]) ?_
  by_cases c1 : rg < 6
  ·exact Ev.congr (fun k => by rw [zC c1]) (hyes (fun h => by have := h.2.1; omega))
  by_cases c2 : rg > 16
  ·exact Ev.congr (fun k => by rw [zD c1, zC c2]) (hyes (fun h => by have := h.2.2.1; omega))
  refine Ev.congr (fun k => by rw [zD c1, zD c2, below_eq, zJ]) ?_
  by_cases c3 : 0 ≤ sl ∧ sl < 65
  ·have e3 : inB sl 65 = true := zF c3
   refine Ev.congr (fun k => by rw [e3, zC rfl]) ?_
   by_cases c4 : (bs.length : Int) < 1
   ·exact Ev.congr (fun k => by rw [zC c4]) (hyes (fun h => by have := h.2.2.2.2.1; omega))
   by_cases c5 : (bs.length : Int) > 33
   ·exact Ev.congr (fun k => by rw [zD c4, zF c5]) (hyes (fun h => by have := h.2.2.2.2.2.1; omega))
   refine Ev.congr (fun k => by rw [zD c4, zG c5]) ?_
   have hl := own_fits pn pp rg sl bs hF (by omega) (by omega) bs.length 0 (by omega) (by omega) 1600 (by omega) (by omega)
   rw [List.drop_zero] at hl
   refine Ev.step (fun k => by simp only [mach_Check.j0]; rw [zD Bool.false_ne_true]) ?_
   by_cases hf : fits 1600 bs = true
   ·rw [zC hf] at hl
    rw [zC ⟨c0, by omega, by omega, c3, by omega, by omega, hf⟩]
    exact hl
   ·rw [zD hf] at hl
    rw [zD (fun h => hf h.2.2.2.2.2.2)]
    exact hl
  ·have e3 : inB sl 65 = false := zG c3
   exact Ev.congr (fun k => by rw [e3, zD Bool.false_ne_true]) (hyes (fun h => c3 h.2.2.2.1))
 ·have e0 : inB pp 5 = false := zG c0
  exact Ev.congr (fun k => by rw [e0, zD Bool.false_ne_true]) (hyes (fun h => c0 h.1))
end
end Go.Proofs.YthidcafbhjahdaaDoor.PlainMachCheck
namespace Go.Proofs.YthidcafbhjahdaaDoor.PlainSpoilt
open Go Go.RowKit Go.Proofs.YthidcafbhjahdaaDoorW.PrintWords Go.Proofs.YthidcafbhjahdaaDoorW.PrintMore Go.Proofs.YthidcafbhjahdaaDoor.Q Go.Proofs.YthidcafbhjahdaaDoor.Plain Go.Proofs.YthidcafbhjahdaaDoor.PlainIr Go.Proofs.YthidcafbhjahdaaDoor.PlainName Go.Proofs.YthidcafbhjahdaaDoor.PlainOne Go.Proofs.YthidcafbhjahdaaDoor.PlainHeavy Go.Proofs.YthidcafbhjahdaaDoor.PlainCheck Go.Proofs.YthidcafbhjahdaaDoor.PlainMachOne Go.Proofs.YthidcafbhjahdaaDoor.PlainMachCheck
set_option linter.unusedVariables false
set_option linter.unusedSimpArgs false
theorem in_self (n : Int) : inB n n = false := by unfold inB; exact zG (by omega)
theorem ins_spoil {regs sl nb : Int} {x : SIns} {last : Bool} (h : mIns regs sl nb x last = 0) : mIns regs sl nb (spoil regs sl nb x) last = wantE x := by
 have hr : oddReg regs regs = true := (odd_iff _ _).2 (.inr (Int.le_refl _))
 have hm : oddReg regs (max regs sl) = true := (odd_iff _ _).2 (.inr (by omega))
 have hn : oddReg nb nb = true := (odd_iff _ _).2 (.inr (Int.le_refl _))
 obtain ⟨op, d, a, b, nm, args⟩ := x
 simp only [mIns, machE] at h
 unfold mIns spoil wantE
 by_cases e22 : op = 21 ∨ op = 22
 ·rw [zC e22] at h
  have h1 : ¬ (last = true ∨ b ≠ 0 ∨ nm.toList ≠ ([] : List UInt8) ∨ 0 < args.length) := fun c => by rw [zC c] at h; exact absurd h (by decide)
  rcases e22 with rfl | rfl
  ·simp only [machE, zC, zD, reduceIte, show ¬ ((21 : Int) = 12) by decide, show ¬ ((21 : Int) = 11) by decide, true_or, h1, in_self, Bool.and_false, Bool.false_eq_true]
  ·simp only [machE, zC, zD, reduceIte, show ¬ ((22 : Int) = 12) by decide, show ¬ ((22 : Int) = 11) by decide, show ¬ ((22 : Int) = 21) by decide, show ¬ ((22 : Int) = 1) by decide, or_true, h1]
   rw [show inB (max regs sl) sl = false by unfold inB; exact zG (by omega), Bool.and_false, zD Bool.false_ne_true]
 ·rw [zD e22] at h
  by_cases e11 : op = 11
  ·subst e11
   simp only [zC, reduceIte] at h
   have h1 : ¬ (last = true ∨ d ≠ 0 ∨ b ≠ 0 ∨ 0 < args.length) := fun c => by rw [zC c] at h; exact absurd h (by decide)
   rw [zD h1] at h
   have h2 : nameOk nm = true := Classical.byContradiction fun c => by rw [zD c] at h; exact absurd h (by decide)
   simp only [machE, zD e22, reduceIte, show ¬ ((11 : Int) = 12) by decide, h1, h2]
   rw [in_self, zD Bool.false_ne_true]
  ·rw [zD e11] at h
   simp only [oneE] at h
   by_cases c : (1 ≤ op ∧ op ≤ 14) ∧ lastOp op = last ∧ bareP op d a b nm args
   case neg => rw [zD c] at h; exact absurd h (by decide)
   obtain ⟨c1, c2, c3, c4, c5, c6⟩ := c
   by_cases e12 : op = 12
   ·simp only [zC e12]
    unfold machE
    rw [zD e22, zD e11]
    unfold oneE
    rw [zC ⟨c1, c2, c3, c4, fun e => absurd e (by omega), c6⟩]
    unfold e1
    rw [zD (by
     rintro (⟨hd, -⟩ | hu)
     ·unfold hasD at hd; omega
     ·unfold uses at hu
      rw [zD (by omega), zD (by omega), zD (by omega)] at hu
      simp at hu)]
    unfold e2
    rw [zD (by omega)]
    unfold e3
    rw [zC (by unfold targets7; rw [zC e12]; simp [hn])]
   ·simp only [zD e12, zD e11, zD (show ¬ op = 21 by omega)]
    by_cases e1' : op = 1 ∨ op = 22
    ·simp only [zC e1']
     unfold machE
     rw [zD e22, zD e11]
     unfold oneE
     rw [zC ⟨c1, c2, c3, fun e => absurd e (by omega), c5, c6⟩]
     unfold e1
     rw [zC (.inl ⟨by unfold hasD; omega, hm⟩)]
    ·simp only [zD e1']
     unfold machE
     rw [zD e22, zD e11]
     unfold oneE
     rw [zC ⟨c1, c2, c3, c4, fun e => absurd e (by omega), c6⟩]
     unfold e1
     rw [zC (.inr (by
      unfold uses
      by_cases u1 : op = 2 ∨ op = 8 ∨ op = 10 ∨ op = 13 ∨ op = 14
      ·rw [zC u1]; simp [hr]
      ·rw [zD u1, zC (by omega)]; simp [hr]))]
theorem want_ne (x : SIns) : wantE x ≠ 0 := by
 unfold wantE
 split <;> (try split) <;> decide
theorem row_spoil {regs sl nb : Int} {x' : SIns} {e : Int} (he : e ≠ 0) : ∀ (b : List SIns) (k : Nat) (hk : k < b.length), rowM regs sl nb b = 0 → mIns regs sl nb x' (b.drop (k + 1)).isEmpty = e → rowM regs sl nb (b.set k x') = e
 | [], k, hk, _, _ => absurd hk (by simp)
 | y :: ys, 0, _, h, hx => by
  simp only [List.set_cons_zero, rowM]
  simp only [Nat.zero_add, List.drop_succ_cons, List.drop_zero] at hx
  rw [hx, zD he]
 | y :: ys, k + 1, hk, h, hx => by
  simp only [List.set_cons_succ, rowM]
  simp only [rowM] at h
  by_cases c : mIns regs sl nb y ys.isEmpty = 0
  ·rw [zC c] at h
   have hl : (ys.set k x').isEmpty = ys.isEmpty := by cases ys with
    | nil => rfl
    | cons z zs => cases k <;> rfl
   rw [hl, zC c]
   exact row_spoil he ys k (by simpa using hk) h (by simpa using hx)
  ·rw [zD c] at h; exact absurd h c
theorem all_spoil {regs sl nb : Int} {b' : List SIns} {e : Int} (he : e ≠ 0) : ∀ (bs : List (List SIns)) (i : Nat) (hi : i < bs.length), allM regs sl nb bs = 0 → rowM regs sl nb b' = e → allM regs sl nb (bs.set i b') = e
 | [], i, hi, _, _ => absurd hi (by simp)
 | y :: ys, 0, _, h, hx => by
  simp only [List.set_cons_zero, allM]
  rw [hx, zD he]
 | y :: ys, i + 1, hi, h, hx => by
  simp only [List.set_cons_succ, allM]
  simp only [allM] at h
  by_cases c : rowM regs sl nb y = 0
  ·rw [zC c] at h
   rw [zC c]
   exact all_spoil he ys i (by simpa using hi) h hx
  ·rw [zD c] at h; exact absurd h c
theorem row_at {regs sl nb : Int} : ∀ (b : List SIns) (k : Nat) (hk : k < b.length), rowM regs sl nb b = 0 → mIns regs sl nb b[k] (b.drop (k + 1)).isEmpty = 0
 | [], k, hk, _ => absurd hk (by simp)
 | y :: ys, 0, _, h => by
  simp only [rowM] at h
  by_cases c : mIns regs sl nb y ys.isEmpty = 0
  ·simpa using c
  ·rw [zD c] at h; exact absurd h c
 | y :: ys, k + 1, hk, h => by
  simp only [rowM] at h
  by_cases c : mIns regs sl nb y ys.isEmpty = 0
  ·rw [zC c] at h
   simpa using row_at ys k (by simpa using hk) h
  ·rw [zD c] at h; exact absurd h c
theorem all_at {regs sl nb : Int} : ∀ (bs : List (List SIns)) (i : Nat) (hi : i < bs.length), allM regs sl nb bs = 0 → rowM regs sl nb bs[i] = 0
 | [], i, hi, _ => absurd hi (by simp)
 | y :: ys, 0, _, h => by
  simp only [allM] at h
  by_cases c : rowM regs sl nb y = 0
  ·simpa using c
  ·rw [zD c] at h; exact absurd h c
 | y :: ys, i + 1, hi, h => by
  simp only [allM] at h
  by_cases c : rowM regs sl nb y = 0
  ·rw [zC c] at h
   simpa using all_at ys i (by simpa using hi) h
  ·rw [zD c] at h; exact absurd h c
theorem total_set : ∀ (bs : List (List SIns)) (i : Nat) (hi : i < bs.length) (b' : List SIns), b'.length = bs[i].length → total (bs.set i b') = total bs
 | [], i, hi, _, _ => absurd hi (by simp)
 | y :: ys, 0, _, b', h => by simp only [List.set_cons_zero, total]; rw [show b'.length = y.length from by simpa using h]
 | y :: ys, i + 1, hi, b', h => by simp only [List.set_cons_succ, total]; rw [total_set ys i (by simpa using hi) b' (by simpa using h)]
theorem shape_set {params regs sl : Int} {bs : List (List SIns)} (i : Nat) (hi : i < bs.length) (b' : List SIns) (hl : b'.length = bs[i].length) (h : shapeM params regs sl bs) : shapeM params regs sl (bs.set i b') := by
 obtain ⟨h1, h2, h3, h4, h5, h6, h7⟩ := h
 refine ⟨h1, h2, h3, h4, by simpa using h5, by simpa using h6, ?_⟩
 unfold fits at h7 ⊢
 have h7 := zB h7
 refine zF ⟨fun b hb => ?_, by rw [total_set bs i hi b' hl]; exact h7.2⟩
 rcases List.mem_or_eq_of_mem_set hb with hb | rfl
 ·exact h7.1 b hb
 ·rw [hl]; exact h7.1 _ (List.getElem_mem hi)
theorem check_spoil {nm : ByteArray} {params regs sl : Int} {bs : List (List SIns)} (h : codeE nm params regs sl bs = 0) (i : Nat) (hi : i < bs.length) (k : Nat) (hk : k < bs[i].length) :
 codeE nm params regs sl (bs.set i (bs[i].set k (spoil regs sl (bs.length : Int) bs[i][k]))) = wantE bs[i][k] := by
 unfold codeE at h ⊢
 by_cases c1 : nameOk nm = true
 case neg => rw [zD c1] at h; exact absurd h (by decide)
 rw [zC c1] at h ⊢
 by_cases c2 : shapeM params regs sl bs
 case neg => rw [zD c2] at h; exact absurd h (by decide)
 rw [zC c2] at h
 rw [zC (shape_set i hi _ (by simp) c2), List.length_set]
 have hr := all_at bs i hi h
 exact all_spoil (want_ne _) bs i hi h (row_spoil (want_ne _) _ k hk hr (ins_spoil (row_at _ k hk hr)))
end Go.Proofs.YthidcafbhjahdaaDoor.PlainSpoilt
namespace Go.Proofs.YthidcafbhjahdaaDoor.PlainHeavyM
open Go Go.RowKit Go.Proofs.YthidcafbhjahdaaDoorW.PrintWords Go.Proofs.YthidcafbhjahdaaDoorW.PrintMore Go.Proofs.YthidcafbhjahdaaDoor.Q Go.Proofs.YthidcafbhjahdaaDoor.Plain Go.Proofs.YthidcafbhjahdaaDoor.PlainHeavy
set_option linter.unusedVariables false
set_option linter.unusedSimpArgs false
def badM (x : SIns) : Bool := decide (50 < x.f5.length ∨ 256 < x.f4.size)
theorem badM_iff (x : SIns) : badM x = true ↔ (50 < x.f5.length ∨ 256 < x.f4.size) := by
 unfold badM
 exact decide_eq_true_iff
def hw : Int → List (List SIns) → Bool
 | n, [] => decide (n > 2000)
 | n, b :: bs => if n ≤ 2000 then (if (b.take 2001).any badM = true then true else hw (n + mn (b.length : Int) 1048576) bs) else true
theorem mn_nat (j : Nat) : 0 ≤ mn (j : Int) 1048576 ∧ ((mn (j : Int) 1048576 = j ∧ j ≤ 1048576) ∨ (mn (j : Int) 1048576 = 1048576 ∧ 1048576 ≤ j)) := by
 unfold mn
 split <;> omega
theorem hw_le : ∀ (l : List (List SIns)) (n : Int), hw n l = false → n ≤ 2000
 | [], n, h => by
  unfold hw at h
  have := of_decide_eq_false h
  omega
 | b :: bs, n, h => by
  unfold hw at h
  split at h
  ·assumption
  ·exact absurd h (by simp)
theorem hw_fair : ∀ (l : List (List SIns)) (n : Int), 0 ≤ n → hw n l = false → ∀ b ∈ l, b.length ≤ 2000 ∧ ∀ y ∈ b, badM y = false
 | [], n, _, h => by simp
 | b :: bs, n, h0, h => by
  unfold hw at h
  split at h
  ·split at h
   ·exact absurd h (by simp)
   ·next hn hb =>
    have hm := mn_nat b.length
    have hle := hw_le bs _ h
    have hlen : b.length ≤ 2000 := by omega
    intro c hc
    rcases List.mem_cons.1 hc with rfl | hc
    ·refine ⟨hlen, fun y hy => ?_⟩
     rw [List.take_of_length_le (by omega)] at hb
     cases hy1 : badM y with
     | false => rfl
     | true => exact absurd (List.any_eq_true.2 ⟨y, hy, hy1⟩) hb
    ·exact hw_fair bs _ (by omega) h c hc
  ·exact absurd h (by simp)
section
variable (pn : ByteArray) (pp rg sl : Int)
theorem mrow (x : List (List SIns)) (n : Int) (i : Nat) (hi : i < x.length) (R : Bool) (h : (x[i].take 2001).any badM = false → Ev (fun k => cubbylaw13_heavy.l0 k n ((i + 1 : Nat) : Int) pn pp rg sl x) R) (hil : i ≤ 1000) : Ev (fun k => cubbylaw13_heavy.l1 k n (i : Int) 0 pn pp rg sl x) (if (x[i].take 2001).any badM = true then true else R) := by
 have hg := rdL_get hi
 have hout : ∀ j : Nat, (j = x[i].length ∨ 2000 < j) → (x[i].take 2001).any badM = false → Ev (fun k => cubbylaw13_heavy.l1 k n (i : Int) (j : Int) pn pp rg sl x) R := by
  intro j hj hb
  have h3 : Ev (fun k => cubbylaw13_heavy.j4 k n (i : Int) (j : Int) false pn pp rg sl x) R := Ev.step (fun k => by simp only [cubbylaw13_heavy.j4]; rw [zD Bool.false_ne_true, wrap_nat (by omega)]) (h hb)
  by_cases c : j < x[i].length
  ·refine Ev.step (fun k => by simp only [cubbylaw13_heavy.l1]; rw [zC (by omega), zC (by omega), hg, zC (by omega), zG (by omega)]) h3
  ·exact Ev.step (fun k => by simp only [cubbylaw13_heavy.l1]; rw [zC (by omega), zC (by omega), hg, zD (by omega)]) h3
 have hany : (x[i].take 2001).any badM = true ↔ ∃ j : Nat, j < min x[i].length 2001 ∧ badM (rd_TIns x[i] (j : Int)) = true := by
  rw [List.any_eq_true]
  constructor
  ·rintro ⟨y, hy, hb⟩
   obtain ⟨j, hj, rfl⟩ := List.mem_iff_getElem.1 hy
   rw [List.length_take] at hj
   refine ⟨j, by omega, ?_⟩
   rw [rdT_get (by omega)]
   rwa [List.getElem_take] at hb
  ·rintro ⟨j, hj, hb⟩
   rw [rdT_get (by omega)] at hb
   exact ⟨_, List.mem_iff_getElem.2 ⟨j, by rw [List.length_take]; omega, List.getElem_take⟩, hb⟩
 refine seek (fun k j => cubbylaw13_heavy.l1 k n (i : Int) (j : Int) pn pp rg sl x) (min x[i].length 2001) (fun j => badM (rd_TIns x[i] (j : Int)) = true) true _ ?_ ?_ ?_ ?_
 ·intro j hj hb
  rw [badM_iff] at hb
  refine Ev.step (fun k => by simp only [cubbylaw13_heavy.l1]; rw [zC (by omega), zC (by omega), hg, zC (by omega), zF (by omega)]) ?_
  refine Ev.step (f := fun _ => some true) (fun k => ?_) (Ev.now _)
  simp only [cubbylaw13_heavy.j4]
  rw [zC trivial, zC (by omega), zC (by omega), hg, zC (by omega), zC (by omega)]
  split
  ·rfl
  ·rw [zC (by omega)]
 ·intro j hj hb r' hE
  rw [badM_iff] at hb
  refine Ev.step (fun k => by simp only [cubbylaw13_heavy.l1]; rw [zC (by omega), zC (by omega), hg, zC (by omega), zF (by omega)]) ?_
  refine Ev.step (fun k => ?_) hE
  simp only [cubbylaw13_heavy.j4]
  rw [zC trivial, zC (by omega), zC (by omega), hg, zC (by omega), zC (by omega), zD (by omega), zD (by omega), wrap_nat (by omega)]
 ·intro hb
  rw [zC (hany.2 hb)]
 ·intro hb
  have hn : (x[i].take 2001).any badM = false := by
   rw [← Bool.not_eq_true, hany]
   rintro ⟨j, hj, h1⟩
   exact hb j hj h1
  rw [hn]
  exact hout _ (by omega) hn
theorem heavyM_loop (x : List (List SIns)) (hx : x.length ≤ 100) : ∀ (d i : Nat), x.length - i = d → i ≤ x.length → ∀ n : Int, 0 ≤ n → Ev (fun k => cubbylaw13_heavy.l0 k n (i : Int) pn pp rg sl x) (hw n (x.drop i)) := by
 intro d
 induction d with
 | zero =>
  intro i hd hi n hn
  rw [List.drop_eq_nil_of_le (by omega)]
  refine Ev.step (fun k => by simp only [cubbylaw13_heavy.l0]; rw [zD (by omega)]) ?_
  exact Ev.step (f := fun _ => some (decide (n > 2000))) (fun k => by simp only [cubbylaw13_heavy.j2]; rw [zD Bool.false_ne_true]) (Ev.now _)
 | succ d ih =>
  intro i hd hi n hn
  have hlt : i < x.length := by omega
  rw [drop_cons hlt]
  unfold hw
  have hm := mn_nat x[i].length
  by_cases c : n ≤ 2000
  ·rw [zC c]
   refine Ev.step (fun k => by simp only [cubbylaw13_heavy.l0]; rw [zC (by omega), zF c]) ?_
   refine Ev.step (fun k => by simp only [cubbylaw13_heavy.j2]; rw [zC trivial, zC (by omega), zC (by omega), rdL_get hlt, wrap_id (by omega) (by omega)]) ?_
   exact mrow pn pp rg sl x _ i hlt _ (fun _ => ih (i + 1) (by omega) (by omega) _ (by omega)) (by omega)
  ·rw [zD c]
   refine Ev.step (fun k => by simp only [cubbylaw13_heavy.l0]; rw [zC (by omega), zG c]) ?_
   exact Ev.step (f := fun _ => some true) (fun k => by simp only [cubbylaw13_heavy.j2]; rw [zD Bool.false_ne_true, zF (by omega)]) (Ev.now _)
theorem heavyM_ev (x : List (List SIns)) : ∃ h, Ev (fun k => cubbylaw13_heavy.f k pn pp rg sl x) h ∧ (h = false → FairB x) := by
 have hyes : Ev (fun k => cubbylaw13_heavy.j0 k true pn pp rg sl x) true := Ev.step (f := fun _ => some true) (fun k => by simp only [cubbylaw13_heavy.j0]; rw [zC trivial]) (Ev.now _)
 by_cases c : (x.length : Int) > 50
 ·exact ⟨true, Ev.congr (fun k => by unfold cubbylaw13_heavy.f; rw [zC c]) hyes, by simp⟩
 by_cases c2 : (pn.size : Int) > 256
 ·exact ⟨true, Ev.congr (fun k => by unfold cubbylaw13_heavy.f; rw [zD c, zF c2]) hyes, by simp⟩
 refine ⟨hw 0 x, Ev.congr (fun k => by unfold cubbylaw13_heavy.f; rw [zD c, zG c2]) (Ev.step (fun k => by simp only [cubbylaw13_heavy.j0]; rw [zD Bool.false_ne_true]; rfl) (heavyM_loop pn pp rg sl x (by omega) x.length 0 (by omega) (by omega) 0 (by omega))), fun h => ?_⟩
 have hf := hw_fair x 0 (by omega) h
 refine ⟨by omega, fun b hb => by have := (hf b hb).1; omega, fun b hb y hy => ?_⟩
 have := (hf b hb).2 y hy
 have h1 := badM_iff y
 rw [this] at h1
 have : ¬ (50 < y.f5.length ∨ 256 < y.f4.size) := fun h => absurd (h1.2 h) (by simp)
 omega
end
end Go.Proofs.YthidcafbhjahdaaDoor.PlainHeavyM
namespace Go.Proofs.YthidcafbhjahdaaDoor.RMachSpoilt.Pure
open Go Go.RowKit Go.Proofs.YthidcafbhjahdaaDoorW.PrintWords Go.Proofs.YthidcafbhjahdaaDoor.Q Go.Proofs.YthidcafbhjahdaaDoor.Plain Go.Proofs.YthidcafbhjahdaaDoor.PlainIr Go.Proofs.YthidcafbhjahdaaDoor.PlainOne Go.Proofs.YthidcafbhjahdaaDoor.PlainCheck Go.Proofs.YthidcafbhjahdaaDoor.PlainHeavy Go.Proofs.YthidcafbhjahdaaDoor.PlainHeavyM Go.Proofs.YthidcafbhjahdaaDoor.PlainMachCheck Go.Proofs.YthidcafbhjahdaaDoor.PlainSpoilt
theorem u8_nat {n : Int} (h : (Lit.int .u8 n).wf = true) : ∃ p : Nat, n = p ∧ p ≤ 255 := by
 have : 0 ≤ n ∧ n ≤ 255 := by
  have h2 : IntKind.u8.min ≤ n ∧ n ≤ IntKind.u8.max := by simpa [Lit.wf] using h
  exact h2
 exact ⟨n.toNat, by omega, by omega⟩
theorem tmod_nat (p q : Nat) : Int.tmod (p : Int) (q : Int) = ((p % q : Nat) : Int) := rfl
theorem le_total : ∀ {bs : List (List SIns)} {b : List SIns}, b ∈ bs → b.length ≤ total bs
 | y :: ys, b, h => by
  simp only [total]
  rcases List.mem_cons.1 h with rfl | h
  ·omega
  ·have := le_total h; omega
theorem fair_spoil {bs : List (List SIns)} (hF : FairB bs) (i : Nat) (hi : i < bs.length) (j : Nat) (hj : j < bs[i].length) (rg sl nb : Int) : FairB (bs.set i (bs[i].set j (spoil rg sl nb bs[i][j]))) := by
 refine ⟨by rw [List.length_set]; exact hF.len, fun b hb => ?_, fun b hb y hy => ?_⟩
 ·rcases List.mem_or_eq_of_mem_set hb with hb | rfl
  ·exact hF.row b hb
  ·rw [List.length_set]; exact hF.row _ (List.getElem_mem hi)
 ·rcases List.mem_or_eq_of_mem_set hb with hb | rfl
  ·exact hF.ins b hb y hy
  ·rcases List.mem_or_eq_of_mem_set hy with hy | rfl
   ·exact hF.ins _ (List.getElem_mem hi) y hy
   ·have h5 : (spoil rg sl nb bs[i][j]).f5 = bs[i][j].f5 := by unfold spoil; (repeat' split) <;> rfl
    rw [h5]
    exact hF.ins _ (List.getElem_mem hi) _ (List.getElem_mem hj)
theorem MachSpoilt : MachSpoilt.Pure := by
 intro pn pp rg sl bs a1 a2 g1 g2 g3 g4 g5 hw1 hw2
 obtain ⟨p, rfl, hp⟩ := u8_nat hw1
 obtain ⟨q, rfl, hq⟩ := u8_nat hw2
 clear g1 g2 g3 g4 g5 hw1 hw2
 refine Ev.rounds (g := fun k => cubbylaw13_MachSpoilt.f k pn pp rg sl bs p q) ?_
 obtain ⟨h, he, hF⟩ := heavyM_ev pn pp rg sl bs
 refine Ev.bind he ?_
 cases h
 ·have hF := hF rfl
  refine Ev.congr (fun k => by rw [zD Bool.false_ne_true]) ?_
  ·refine (Ev.bind (code_ev pn pp rg sl bs hF) (Ev.bind (refcode_ev pn pp rg sl bs hF) ?_))
   refine Ev.congr (fun k => by rw [zC rfl]) ?_
   by_cases c0 : codeE pn pp rg sl bs = 0
   ·have hS : shapeM pp rg sl bs := Classical.byContradiction fun hc => by
     unfold codeE at c0
     rw [zD hc] at c0
     split at c0 <;> exact absurd c0 (by decide)
    obtain ⟨-, -, -, -, hlen, hlen2, hfit⟩ := hS
    have hfit := zB hfit
    obtain ⟨i, ei⟩ : ∃ i, i = p % bs.length := ⟨_, rfl⟩
    have hi : i < bs.length := by rw [ei]; exact Nat.mod_lt _ (by omega)
    have hne := hfit.1 _ (List.getElem_mem hi)
    obtain ⟨j, ej⟩ : ∃ j, j = q % bs[i].length := ⟨_, rfl⟩
    have hj : j < bs[i].length := by rw [ej]; exact Nat.mod_lt _ (by omega)
    have e1 : Int.tmod (wrap64 (p : Int)) (bs.length : Int) = (i : Int) := by rw [wrap_id (by omega) (by omega), tmod_nat, ei]
    have s1 : spot1 bs p = (i : Int) := e1
    have s2 : spot2 bs p q = (j : Int) := by
     unfold spot2
     rw [e1, rdL_get hi, wrap_id (by omega) (by omega), tmod_nat, ej]
    have hk := check_spoil c0 i hi j hj
    have hlt := le_total (List.getElem_mem hi)
    have htot : total bs ≤ 1600 := by have := hfit.2; omega
    have hall : ∀ b ∈ bs, b.length ≤ 1000000 := fun b hb => Nat.le_trans (le_total hb) (Nat.le_trans htot (by decide))
    have hb32 : bs.length ≤ 1000000 := Nat.le_trans hlen2 (by decide)
    clear ei ej e1
    have ok : SpoilOk bs (i : Int) (j : Int) := by
     unfold SpoilOk
     rw [rdL_get hi]
     refine ⟨?_, ?_, ?_, ?_, ?_, ?_, hb32, hall⟩
     ·omega
     ·omega
     ·omega
     ·omega
     ·omega
     ·omega
    have hev := code_ev pn pp rg sl _ (fair_spoil hF i hi j hj rg sl (bs.length : Int))
    rw [hk] at hev
    refine Ev.congr (f := fun k => (mach_Check.f k pn pp rg sl (bs.set i (bs[i].set j (spoil rg sl (bs.length : Int) bs[i][j])))).bind fun t4 => some (t4 == wantE bs[i][j])) (fun k => by rw [s1, s2, zC c0, zC ok, Int.toNat_natCast, Int.toNat_natCast, rdL_get hi, rdT_get hj]) (Ev.bind hev ?_)
    exact Ev.congr (f := fun _ => some true) (fun k => by rw [beq_self_eq_true]) (Ev.now _)
   ·exact Ev.congr (f := fun _ => some true) (fun k => by rw [zD c0]) (Ev.now _)
 ·exact Ev.congr (f := fun _ => some true) (fun k => by rw [zC rfl]) (Ev.now _)
end Go.Proofs.YthidcafbhjahdaaDoor.RMachSpoilt.Pure
namespace Go.Proofs.YthidcafbhjahdaaDoor.RMachSpoilt
open Go.ChangeShapes Go.WideShapes Go.ChangeAt
open Go.ChangeMaps (open_string shut_string)
open Go Go.RowKit Go.Proofs.YthidcafbhjahdaaDoorW.PrintWords Go.Proofs.YthidcafbhjahdaaDoorW.PrintLast Go.Proofs.YthidcafbhjahdaaDoorW.PrintMore Go.Proofs.YthidcafbhjahdaaDoor.Q Go.Proofs.YthidcafbhjahdaaDoor.Open
set_option linter.unusedVariables false
theorem own : ownKnob Tryd.prog.godebug = none := by kernel_rfl
theorem laidOut : laidOutB Tryd.prog = true := by kernel_rfl
theorem opensIns : Opens Tryd.prog 31 kIns GIns :=
 (Opens.iso (fun x : SIns => (x.f0, x.f1, x.f2, x.f3, x.f4, x.f5)) (fun y => ⟨y.1, y.2.1, y.2.2.1, y.2.2.2.1, y.2.2.2.2.1, y.2.2.2.2.2⟩) (fun _ => rfl) (Opens.struct Tryd.underlying31 (by kernel_rfl) (OpensFs.cons rfl (Opens.int (Tryd.underlying3) (by kernel_rfl)) (OpensFs.cons rfl (Opens.int (Tryd.underlying3) (by kernel_rfl)) (OpensFs.cons rfl (Opens.int (Tryd.underlying3) (by kernel_rfl)) (OpensFs.cons rfl (Opens.int (Tryd.underlying3) (by kernel_rfl)) (OpensFs.cons rfl (Opens.string (Tryd.underlying9) (by kernel_rfl)) (OpensFs.one rfl (Opens.slice (B := 8) (Tryd.underlying29) (by kernel_rfl) (by kernel_rfl) (Opens.int (Tryd.underlying3) (by kernel_rfl))))))))))).imp (fun _ h => h)
set_option maxRecDepth 100000 in
theorem lifted (os : Os) (started : os.Started) (H : Type) (enc : TypeId × Value → H) :
 ReturnsInHanded {} Tryd.checked os 4 .any (fun w args => (Rows.machSpoiltSpec.pre enc Tryd.prog Tryd.f4 [] false w args ∧ laidMetH Tryd.prog Rows.machSpoiltRow.laid w) ∧ sizedMet enc Tryd.prog Tryd.f4 (OpenSpec.ofChange Rows.machSpoiltSpec) false w args) (Rows.machSpoiltSpec.post enc Tryd.prog Tryd.f4 false true false false) := by
 refine returnsInHanded_of_change_and (C := Tryd.checked) (X := fun w _ => laidMetH Tryd.prog Rows.machSpoiltRow.laid w) (fun _ _ _ hh h => h.of_heap hh) own started (by kernel_rfl) Tryd.func4
  (ChangeSpec.witness_shaped (enc := enc) (C := Tryd.checked) (os := os) (X := fun w _ => laidMetH Tryd.prog Rows.machSpoiltRow.laid w) false (World.laidAll Tryd.prog os Rows.machSpoiltRow.laid) #[.agg #[.string ByteArray.empty, .int .i64 0, .int .i64 0, .int .i64 0, .slice none 0 0], .int .u8 0, .int .u8 0] 8 (World.laidAll_os _ _ _)
    (World.shaped_of_ZipB (by kernel_rfl) (by kernel_rfl)) (by kernel_rfl) (by kernel_rfl) (by kernel_rfl)
    (by rw [MakeChecks.laidMetH_plain _ _ _ (by kernel_rfl)]; exact laidMet_laidAll _ (by kernel_rfl) (by kernel_rfl))) ?_
 intro W base args ds gs before hval0 hW hcnd hsz0 hL0 _
 rw [MakeChecks.laidMetH_plain _ _ _ (by kernel_rfl)] at hL0
 have LAIDF : LaidW W := LaidW.of_reads (show Lib.VarReads Tryd.prog W "cubby/ir.shapes" shapesD from Lib.laidMet.reads hL0 (n := "cubby/ir.shapes") (d := Rows.laid_cubby_ir_shapes) (by simp [Rows.machSpoiltRow]))
 have hsz : (DataW.weightsEach Tryd.prog (Tryd.f4.params.toList ++ Rows.machSpoiltSpec.plain.varTypes Tryd.prog) (ds ++ gs)).all (· ≤ reachBytes) = true := hsz0
 have hval : ∀ (j : Nat) t v, Tryd.f4.params[j]? = some t → args[j]? = some v → Value.okWide Tryd.prog W .any base t v := hval0
 have hW' := hW
 obtain ⟨p, q, hA0, hV, rfl, hfz, hnd⟩ := hW
 have hA : DataW.TrodAll enc Tryd.prog W 0 (fun _ => true) true Tryd.f4.params.toList args.toList ds p := hA0
 rw [Tryd.params4] at hA hval hsz
 obtain ⟨v0, vs0, d0, ds0, p0, q0, hargs, rfl, rfl, h0, r0⟩ := trodAll_cons hA
 obtain ⟨v1, vs1, d1, ds1, p1, q1, rfl, rfl, rfl, h1, r1⟩ := trodAll_cons r0
 obtain ⟨v2, vs2, d2, ds2, p2, q2, rfl, rfl, rfl, h2, r2⟩ := trodAll_cons r1
 obtain ⟨rfl, rfl, rfl⟩ := trodAll_nil r2
 obtain rfl : args = #[v0, v1, v2] := by cases args; simp_all
 obtain ⟨rfl, rfl⟩ := trodVars_none hV
 have lt0 : ∀ x ∈ p0, x.block < W.heap.size := by obtain ⟨m, hm⟩ := h0; exact DataW.trod_lt m _ _ _ hm
 obtain ⟨cs0, rfl, -⟩ := okWide_struct Tryd.underlying34 (hval 0 34 v0 rfl rfl)
 obtain ⟨⟨a0_0, a0_1, a0_2, a0_3, l0_4⟩, hk0, gg0⟩ := (Opens.struct Tryd.underlying34 (by kernel_rfl) (OpensFs.cons rfl (Opens.string (Tryd.underlying9) (by kernel_rfl)) (OpensFs.cons rfl (Opens.int (Tryd.underlying3) (by kernel_rfl)) (OpensFs.cons rfl (Opens.int (Tryd.underlying3) (by kernel_rfl)) (OpensFs.cons rfl (Opens.int (Tryd.underlying3) (by kernel_rfl)) (OpensFs.one rfl (Opens.slice (B := 24) (Tryd.underlying22) (by kernel_rfl) (by kernel_rfl) (Opens.slice (B := 72) (Tryd.underlying28) (by kernel_rfl) (by kernel_rfl) opensIns))))))) : Opens Tryd.prog 34 (Kd.pair Kd.string (Kd.pair (Kd.int .i64) (Kd.pair (Kd.int .i64) (Kd.pair (Kd.int .i64) (Kd.slice 28 (Kd.slice 31 kIns)))))) (fun y => ((y.1).size ≤ 140737488351232 ∧ ((Lit.int .i64 (y.2.1)).wf = true ∧ ((Lit.int .i64 (y.2.2.1)).wf = true ∧ ((Lit.int .i64 (y.2.2.2.1)).wf = true ∧ ((y.2.2.2.2).length * 24 ≤ 140737488351232 ∧ (y.2.2.2.2).length ≤ maxLen ∧ ∀ y1 ∈ (y.2.2.2.2), ((y1).length * 72 ≤ 140737488351232 ∧ (y1).length ≤ maxLen ∧ ∀ y2 ∈ (y1), GIns (y2))))))))).arg h0 hsz (j := 0) rfl rfl
 obtain ⟨g0_0, g0_1, g0_2, g0_3, g0_4⟩ := gg0
 obtain ⟨_, _, h0_, rfl, ⟨_, _, rfl, rfl, ⟨_, _, rfl, rfl, ⟨_, _, rfl, rfl, ⟨A0_4, c0_4, rfl, hc0_4, hr0_4⟩⟩⟩⟩⟩ := hk0
 obtain rfl : cs0 = #[.string a0_0, .int .i64 a0_1, .int .i64 a0_2, .int .i64 a0_3, .slice A0_4 l0_4.length c0_4] := by
  cases cs0
  simp [Value.cells] at h0_
  simp [h0_]
 have lt1 : ∀ x ∈ p1, x.block < W.heap.size := by obtain ⟨m, hm⟩ := h1; exact DataW.trod_lt m _ _ _ hm
 obtain ⟨a1, rfl, rfl, rfl, w1⟩ := open_int Tryd.underlying5 (hval 1 5 v1 rfl rfl) h1
 have lt2 : ∀ x ∈ p2, x.block < W.heap.size := by obtain ⟨m, hm⟩ := h2; exact DataW.trod_lt m _ _ _ hm
 obtain ⟨a2, rfl, rfl, rfl, w2⟩ := open_int Tryd.underlying5 (hval 2 5 v2 rfl rfl) h2
 clear hA0 hval0 hsz0 hsz
 obtain ⟨k, hf⟩ := Pure.MachSpoilt a0_0 a0_1 a0_2 a0_3 l0_4 a1 a2 g0_0 g0_1 g0_2 g0_3 g0_4 w1 w2
 refine (Q.cubbylaw13_MachSpoilt.calls k a0_0 a0_1 a0_2 a0_3 A0_4 c0_4 l0_4 a1 a2 true W LAIDF hr0_4 hc0_4 hf).mono ?_
 rintro e W' ⟨rfl, hd⟩
 have bel : Below W.heap.size W W' := hd
 exact ⟨_, rfl, _, _, _, [], _, [], hW', trodAll_mk1 (shut_bool Tryd.underlying4 _), (trodAll_cons_mk (Below.trod laidOut (by kernel_rfl) (zB (by kernel_rfl)) h0 bel lt0) (trodAll_cons_mk (Below.trod laidOut (by kernel_rfl) (zB (by kernel_rfl)) h1 bel lt1) (trodAll_cons_mk (Below.trod laidOut (by kernel_rfl) (zB (by kernel_rfl)) h2 bel lt2) trodAll_mk0))), rfl, bel.frame _, fun h => by cases h⟩
theorem over : Rows.machSpoiltRow.holds Tryd.pinned (OpenSpec.ofChange Rows.machSpoiltSpec) :=
 OpenClaim.holds_of_wide 4 Tryd.f4 rfl rfl rfl rfl rfl rfl rfl ⟨rfl, rfl, rfl, rfl, rfl⟩ rfl rfl rfl rfl rfl (by kernel_rfl) Tryd.func4 (by kernel_rfl)
  (zB (by kernel_rfl)) (by unfold Func.isWrapper; first | (rw [zC (by decide +kernel)]; kernel_rfl) | (rw [zD (by decide +kernel)]; exact ⟨rfl, rfl⟩))
  (fun os started H enc _ => lifted os started H enc)
end Go.Proofs.YthidcafbhjahdaaDoor.RMachSpoilt
namespace Go.Proofs.YthidcafbhjahdaaDoor
theorem machSpoilt_holds : Rows.MachSpoiltSaid := RMachSpoilt.over
theorem machSpoilt_card : Rows.MachSpoiltCardSaid :=
 Claim7.holds_tied_plain_at .later [] [.data, .data, .pinned] true (true, "560d754e30d9a737ddc439967d742667a30644c8454139c4a2c4252c2ccc7ccf") false machSpoilt_holds (fun _ h => by cases h) (by kernel_rfl) (fun _ h => by cases h) machSpoilt_row_tie rfl ⟨rfl, rfl⟩ (by kernel_rfl) rfl
  (fun f fn hf hfn => by
    obtain rfl : f = 4 := zI ((show Tryd.prog.funcNamed "cubby/cubbylaw13.MachSpoilt" = some 4 by kernel_rfl).symm.trans hf) |>.symm
    obtain rfl : fn = Tryd.f4 := (zI (Tryd.func4.symm.trans hfn)).symm
    exact ⟨by kernel_rfl, fun j t ht => by
     rw [Tryd.params4] at ht
     have hm : t ∈ [34, 5, 5] := by simpa using Array.mem_of_getElem? ht
     have hall : ([34, 5, 5].all fun u => !Tryd.prog.wantsStandIn u) = true := by kernel_rfl
     exact (show Tryd.prog.wantsStandIn t = false by simpa using List.all_eq_true.1 hall t hm)⟩)
  (by kernel_rfl)
#print axioms machSpoilt_card
end Go.Proofs.YthidcafbhjahdaaDoor
