/- For every input the law SpanSpans returns true, and its arguments read behind the call as they did: no condition. -/
import Derived.Test.YtpkimbkjjmbmcaaDoorRows
import Derived.WalkKit
import Derived.ProofKit
import Derived.OpenShut
import Derived.ShutString
import Derived.ChangeOld
import Derived.Below
import Derived.SizedLaws
import Derived.Test.YtpkimbkjjmbmcaaDoorCards
import Derived.Test.YtpkimbkjjmbmcaaDoorTie
import Derived.LaidMore
import Derived.Lay
import Derived.SevenTiedAt
import Derived.Stop.Joined
import Derived.Lib.LaidU8
import Derived.Test.YtpkimbkjjmbmcaaDoorMSpanSpans1
import Derived.Test.YtpkimbkjjmbmcaaDoorMSpanSpans2
import Derived.Test.YtpkimbkjjmbmcaaDoorMSpanSpans3
import Derived.Test.YtpkimbkjjmbmcaaDoorMSpanSpans4
import Derived.Test.YtpkimbkjjmbmcaaDoorMSpanSpans5
namespace Go.Proofs.YtpkimbkjjmbmcaaDoor.PlainOne
open Go Go.RowKit Go.Proofs.YtpkimbkjjmbmcaaDoorW.PrintWords Go.Proofs.YtpkimbkjjmbmcaaDoorW.PrintMore Go.Proofs.YtpkimbkjjmbmcaaDoor.Q Go.Proofs.YtpkimbkjjmbmcaaDoor.Plain Go.Proofs.YtpkimbkjjmbmcaaDoor.PlainIr Go.Proofs.YtpkimbkjjmbmcaaDoor.PlainName
set_option linter.unusedVariables false
set_option linter.unusedSimpArgs false
theorem lt3 {i : Nat} (h : i < 3) : i = 0 ∨ i = 1 ∨ i = 2 := by omega
section
variable (pn : ByteArray) (pp regs : Int) (bs : List (List SIns)) (op d a b : Int) (nm : ByteArray) (args : List Int)
theorem o5 (B : Bool) (hb : op = 11 ∨ (nm.toList = ([] : List UInt8) ∧ args.length = 0)) : Ev (fun k => ir_one.j5 k B op d a b nm args) (if B = true then 70 else e5 op args) := by
 refine Ev.step (f := fun _ => some _) (fun k => ?_) (Ev.now _)
 simp only [ir_one.j5]
 unfold e5
 repeat' split
 all_goals first | rfl | omega
theorem o3 (hb : op = 11 ∨ (nm.toList = ([] : List UInt8) ∧ args.length = 0)) : Ev (fun k => ir_one.l3 k (targets7 op d a b) ((targets7 op d a b).length : Int) 0 pn pp regs bs op d a b nm args) (e3 (bs.length : Int) op d a b nm args) := by
 have hl := targets_short op d a b
 unfold e3
 refine seek (fun k i => ir_one.l3 k (targets7 op d a b) ((targets7 op d a b).length : Int) (i : Int) pn pp regs bs op d a b nm args) (targets7 op d a b).length (fun i => oddReg (bs.length : Int) (rd (targets7 op d a b) (i : Int)) = true) 74 _ ?_ ?_ ?_ ?_
 ·intro i hi hx
  rw [odd_iff] at hx
  refine Ev.step (f := fun _ => some 74) (fun k => ?_) (Ev.now _)
  simp only [ir_one.l3]
  rw [zC (by omega), zC (by omega), zC (by omega)]
  split
  ·rfl
  ·rw [zC (by omega)]
 ·intro i hi hx r' hE
  rw [odd_iff] at hx
  refine Ev.step (fun k => ?_) hE
  simp only [ir_one.l3]
  rw [zC (by omega), zC (by omega), zC (by omega), zD (by omega), zD (by omega), wrap_nat (by omega)]
 ·intro h
  rw [zC (any_odd.2 h)]
 ·intro h
  rw [zD (fun x => by
   obtain ⟨i, hi, hx⟩ := any_odd.1 x
   exact h i hi hx)]
  unfold e4
  by_cases c : op = 11
  ·refine Ev.step (fun k => by simp only [ir_one.l3]; rw [zD (by omega), zC c, name_eq, zJ]) ?_
   have := o5 op d a b nm args (!nameOk nm) hb
   cases hn : nameOk nm
   ·rw [hn] at this
    rw [zC ⟨c, rfl⟩]
    exact this
   ·rw [hn] at this
    rw [zD (by simp)]
    exact this
  ·rw [zD (fun x => c x.1)]
   exact Ev.step (fun k => by simp only [ir_one.l3]; rw [zD (by omega), zD c]) (o5 op d a b nm args false hb)
theorem o2 (s : ByteArray) (S : Sh op s) (hb : op = 11 ∨ (nm.toList = ([] : List UInt8) ∧ args.length = 0)) : Ev (fun k => ir_one.l2 k s [d, a, b] (([d, a, b] : List Int).length : Int) 0 pn pp regs bs op d a b nm args) (e2 (bs.length : Int) op d a b nm args) := by
 have hs := S.size
 have hl : ([d, a, b] : List Int).length = 3 := rfl
 have h0 := S.n0
 have h1 := S.n1
 have h2 := S.n2
 unfold e2
 refine seek (fun k i => ir_one.l2 k s [d, a, b] (([d, a, b] : List Int).length : Int) (i : Int) pn pp regs bs op d a b nm args) 3 (fun i => bt s (i : Int) = 110 ∧ (rd [d, a, b] (i : Int) < 0 ∨ rd [d, a, b] (i : Int) ≥ 65536)) 81 _ ?_ ?_ ?_ ?_
 ·rintro i hi ⟨hx, hy⟩
  refine Ev.step (f := fun _ => some 81) (fun k => ?_) (Ev.now _)
  simp only [ir_one.l2]
  rw [zC (by omega), zC (by omega), zC (by omega), zC (by omega), zC hx]
  split
  ·rfl
  ·rw [zC (by omega)]
 ·intro i hi hx r' hE
  refine Ev.step (fun k => ?_) hE
  simp only [ir_one.l2]
  rw [zC (by omega), zC (by omega), zC (by omega), zC (by omega), wrap_nat (by omega)]
  repeat' split
  all_goals first
   | rfl
   | (exfalso; apply hx; constructor <;> first | assumption | omega)
 ·rintro ⟨i, hi, hx, hy⟩
  rcases lt3 hi with rfl | rfl | rfl
  ·exact absurd hx h0
  ·exact zC ⟨h1.1 hx, hy⟩
  ·exact absurd hx h2
 ·intro h
  rw [zD (fun x => h 1 (by omega) ⟨h1.2 x.1, x.2⟩)]
  refine Ev.step (fun k => by simp only [ir_one.l2]; rw [zD (by omega), targets_eq, zJ]) (o3 pn pp regs bs op d a b nm args hb)
theorem o1 (s : ByteArray) (S : Sh op s) (hop : 1 ≤ op ∧ op ≤ 14) (hb : op = 11 ∨ (nm.toList = ([] : List UInt8) ∧ args.length = 0)) : Ev (fun k => ir_one.l1 k s [d, a, b] [d, a, b] (([d, a, b] : List Int).length : Int) 0 pn pp regs bs op d a b nm args) (e1 regs (bs.length : Int) op d a b nm args) := by
 have hs := S.size
 have hl : ([d, a, b] : List Int).length = 3 := rfl
 have h0 := S.b0
 have h1 := S.b1
 have h2 := S.b2
 have hargs : ¬ op = 11 → args = [] := fun h => by
  rcases hb with hb | hb
  ·exact absurd hb h
  ·exact List.length_eq_zero_iff.1 hb.2
 unfold e1
 have hC : ((hasD op ∧ oddReg regs d = true) ∨ (uses op a b args).any (oddReg regs) = true) ↔ ((∃ i : Nat, i < 3 ∧ bt s (i : Int) = 114 ∧ oddReg regs (rd [d, a, b] (i : Int)) = true) ∨ args.any (oddReg regs) = true) := by
  constructor
  ·rintro (⟨x, y⟩ | x)
   ·exact .inl ⟨0, by omega, h0.2 x, y⟩
   ·by_cases c : op = 11
    ·right
     unfold uses at x
     rwa [zD (by omega), zD (by omega), zC c] at x
    ·left
     unfold uses at x
     split at x
     ·simp at x
      exact ⟨1, by omega, h1.2 (by omega), x⟩
     ·split at x
      ·simp at x
       rcases x with x | x
       ·exact ⟨1, by omega, h1.2 (by omega), x⟩
       ·exact ⟨2, by omega, h2.2 (by omega), x⟩
      ·exact absurd x (by simp)
  ·rintro (⟨i, hi, hx, hy⟩ | x)
   ·rcases lt3 hi with rfl | rfl | rfl
    ·exact .inl ⟨h0.1 hx, hy⟩
    ·right
     have := h1.1 hx
     have hy' : oddReg regs a = true := hy
     unfold uses
     split
     ·simp [hy']
     ·split
      ·simp [hy']
      ·omega
    ·right
     have := h2.1 hx
     have hy' : oddReg regs b = true := hy
     unfold uses
     rw [zD (by omega), zC (by omega)]
     simp [hy']
   ·by_cases c : op = 11
    ·right
     unfold uses
     rw [zD (by omega), zD (by omega), zC c]
     exact x
    ·rw [hargs c] at x
     exact absurd x (by simp)
 refine seek (fun k i => ir_one.l1 k s [d, a, b] [d, a, b] (([d, a, b] : List Int).length : Int) (i : Int) pn pp regs bs op d a b nm args) 3 (fun i => bt s (i : Int) = 114 ∧ oddReg regs (rd [d, a, b] (i : Int)) = true) 73 _ ?_ ?_ ?_ ?_
 ·rintro i hi ⟨hx, hy⟩
  refine Ev.step (f := fun _ => some 73) (fun k => ?_) (Ev.now _)
  simp only [ir_one.l1]
  rw [zC (by omega), zC (by omega), zC (by omega), zC (by omega), zC hx]
  simp only [ir_one_1.f, zJ, hy, if_true]
 ·intro i hi hx r' hE
  refine Ev.step (fun k => ?_) hE
  simp only [ir_one.l1]
  rw [zC (by omega), zC (by omega), zC (by omega), zC (by omega), wrap_nat (by omega)]
  by_cases c : bt s (i : Int) = 114
  ·rw [zC c]
   simp only [ir_one_1.f, zJ]
   rw [zD (fun y => hx ⟨c, y⟩)]
  ·rw [zD c]
 ·rintro ⟨i, hi, hx⟩
  exact zC (hC.2 (.inl ⟨i, hi, hx⟩))
 ·intro h
  by_cases c : args.any (oddReg regs) = true
  ·rw [zC (hC.2 (.inr c))]
   exact Ev.step (f := fun _ => some 73) (fun k => by simp only [ir_one.l1]; rw [zD (by omega)]; simp only [slices_ContainsFunc_int_int.f, zJ]; rw [zC c]) (Ev.now _)
  ·rw [zD (fun x => by
    rcases hC.1 x with ⟨i, hi, hy⟩ | y
    ·exact h i hi hy
    ·exact c y)]
   exact Ev.step (fun k => by simp only [ir_one.l1]; rw [zD (by omega)]; simp only [slices_ContainsFunc_int_int.f, zJ]; rw [zD c]) (o2 pn pp regs bs op d a b nm args s S hb)
theorem o0 (s : ByteArray) (S : Sh op s) (hop : 1 ≤ op ∧ op ≤ 14) (hb : op = 11 ∨ (nm.toList = ([] : List UInt8) ∧ args.length = 0)) : Ev (fun k => ir_one.l0 k s [d, a, b] [d, a, b] (([d, a, b] : List Int).length : Int) 0 pn pp regs bs op d a b nm args) (if bareP op d a b nm args then e1 regs (bs.length : Int) op d a b nm args else 72) := by
 have hs := S.size
 have hl : ([d, a, b] : List Int).length = 3 := rfl
 have h0 := S.f0
 have h1 := S.f1
 have h2 := S.f2
 refine seek (fun k i => ir_one.l0 k s [d, a, b] [d, a, b] (([d, a, b] : List Int).length : Int) (i : Int) pn pp regs bs op d a b nm args) 3 (fun i => bt s (i : Int) = 32 ∧ ¬ rd [d, a, b] (i : Int) = 0) 72 _ ?_ ?_ ?_ ?_
 ·rintro i hi ⟨hx, hy⟩
  refine Ev.step (f := fun _ => some 72) (fun k => ?_) (Ev.now _)
  simp only [ir_one.l0]
  rw [zC (by omega), zC (by omega), zC (by omega), zC (by omega), zC hx, zD hy]
 ·intro i hi hx r' hE
  refine Ev.step (fun k => ?_) hE
  simp only [ir_one.l0]
  rw [zC (by omega), zC (by omega), zC (by omega), zC (by omega), wrap_nat (by omega)]
  by_cases c : bt s (i : Int) = 32
  ·rw [zC c, zC (Decidable.byContradiction fun y => hx ⟨c, y⟩)]
  ·rw [zD c]
 ·rintro ⟨i, hi, hx, hy⟩
  refine zD (fun hB => ?_)
  obtain ⟨_, f0, f1, f2⟩ := hB
  rcases lt3 hi with rfl | rfl | rfl
  ·exact hy (f0 (h0.1 hx))
  ·exact hy (f1 (h1.1 hx))
  ·exact hy (f2 (h2.1 hx))
 ·intro h
  rw [zC ⟨hb, fun x => Decidable.byContradiction fun y => h 0 (by omega) ⟨h0.2 x, y⟩, fun x => Decidable.byContradiction fun y => h 1 (by omega) ⟨h1.2 x, y⟩, fun x => Decidable.byContradiction fun y => h 2 (by omega) ⟨h2.2 x, y⟩⟩]
  exact Ev.step (fun k => by simp only [ir_one.l0]; rw [zD (by omega)]) (o1 pn pp regs bs op d a b nm args s S hop hb)
theorem one_ev (last : Bool) : Ev (fun k => ir_one.f k pn pp regs bs op d a b nm args last) (oneE regs (bs.length : Int) op d a b nm args last) := by
 unfold oneE
 by_cases hop : 1 ≤ op ∧ op ≤ 14
 ·obtain ⟨s, hs, S⟩ := shape_some hop
  have hyes : Ev (fun k => ir_one.j0 k s true pn pp regs bs op d a b nm args) 72 := Ev.step (f := fun _ => some 72) (fun k => by simp only [ir_one.j0]; rw [zC trivial]) (Ev.now _)
  by_cases c2 : lastOp op = last
  ·have hgo : (op = 11 ∨ (nm.toList = ([] : List UInt8) ∧ args.length = 0)) → Ev (fun k => ir_one.j0 k s false pn pp regs bs op d a b nm args) (if (1 ≤ op ∧ op ≤ 14) ∧ lastOp op = last ∧ bareP op d a b nm args then e1 regs (bs.length : Int) op d a b nm args else 72) := fun hb => by
    refine Ev.step (fun k => by simp only [ir_one.j0]; rw [zD Bool.false_ne_true, zJ]) ?_
    have := o0 pn pp regs bs op d a b nm args s S hop hb
    by_cases c3 : bareP op d a b nm args
    ·rw [zC ⟨hop, c2, c3⟩]
     rw [zC c3] at this
     exact this
    ·rw [zD (fun x => c3 x.2.2)]
     rw [zD c3] at this
     exact this
   by_cases c : op = 11
   ·exact Ev.congr (fun k => by unfold ir_one.f; rw [hs, zJ, zD S.ne, last_eq, zJ, zD (by simp [c2]), zC c]) (hgo (.inl c))
   ·by_cases c1 : nm.toList = ([] : List UInt8)
    ·refine Ev.congr (fun k => by unfold ir_one.f; rw [hs, zJ, zD S.ne, last_eq, zJ, zD (by simp [c2]), zD c, zC c1]) ?_
     by_cases c4 : (args.length : Int) > 0
     ·rw [zF c4, zD (fun x => by have := x.2.2.1; omega)]
      exact hyes
     ·rw [zG c4]
      exact hgo (.inr ⟨c1, by omega⟩)
    ·rw [zD (fun x => by
      rcases x.2.2.1 with y | y
      ·exact c y
      ·exact c1 y.1)]
     exact Ev.congr (fun k => by unfold ir_one.f; rw [hs, zJ, zD S.ne, last_eq, zJ, zD (by simp [c2]), zD c, zD c1]) hyes
  ·rw [zD (fun x => c2 x.2.1)]
   exact Ev.congr (fun k => by unfold ir_one.f; rw [hs, zJ, zD S.ne, last_eq, zJ, zC (by simpa using c2)]) hyes
 ·rw [zD (fun x => hop x.1)]
  refine Ev.congr (fun k => by unfold ir_one.f; rw [shape_none hop, zJ, zC nil_toList]) ?_
  exact Ev.step (f := fun _ => some 72) (fun k => by simp only [ir_one.j0]; rw [zC trivial]) (Ev.now _)
end
end Go.Proofs.YtpkimbkjjmbmcaaDoor.PlainOne
namespace Go.Proofs.YtpkimbkjjmbmcaaDoor.PlainHeavy
open Go Go.RowKit Go.Proofs.YtpkimbkjjmbmcaaDoorW.PrintWords Go.Proofs.YtpkimbkjjmbmcaaDoorW.PrintMore Go.Proofs.YtpkimbkjjmbmcaaDoor.Q Go.Proofs.YtpkimbkjjmbmcaaDoor.Plain
set_option linter.unusedVariables false
set_option linter.unusedSimpArgs false
theorem rdL_get {l : List (List SIns)} {j : Nat} (h : j < l.length) : rd_LIns l (j : Int) = l[j] := by
 show l.getD j [] = _
 rw [List.getD_eq_getElem?_getD, List.getElem?_eq_getElem h]
 rfl
theorem rdT_get {l : List SIns} {j : Nat} (h : j < l.length) : rd_TIns l (j : Int) = l[j] := by
 show l.getD j zIns = _
 rw [List.getD_eq_getElem?_getD, List.getElem?_eq_getElem h]
 rfl
structure FairB (x : List (List SIns)) : Prop where
 len : x.length ≤ 1000000000000000
 row : ∀ b ∈ x, b.length ≤ 1000000000000000
 ins : ∀ b ∈ x, ∀ y ∈ b, y.f5.length ≤ 17592186043904
end Go.Proofs.YtpkimbkjjmbmcaaDoor.PlainHeavy
namespace Go.Proofs.YtpkimbkjjmbmcaaDoor.PlainCheck
open Go Go.RowKit Go.Proofs.YtpkimbkjjmbmcaaDoorW.PrintWords Go.Proofs.YtpkimbkjjmbmcaaDoorW.PrintMore Go.Proofs.YtpkimbkjjmbmcaaDoor.Q Go.Proofs.YtpkimbkjjmbmcaaDoor.Plain Go.Proofs.YtpkimbkjjmbmcaaDoor.PlainName Go.Proofs.YtpkimbkjjmbmcaaDoor.PlainOne Go.Proofs.YtpkimbkjjmbmcaaDoor.PlainHeavy
set_option linter.unusedVariables false
set_option linter.unusedSimpArgs false
def insE (regs nb : Int) (x : SIns) (last : Bool) : Int := oneE regs nb x.f0 x.f1 x.f2 x.f3 x.f4 x.f5 last
def rowE (regs nb : Int) : List SIns → Int
 | [] => 0
 | x :: xs => if insE regs nb x xs.isEmpty = 0 then rowE regs nb xs else insE regs nb x xs.isEmpty
def allE (regs nb : Int) : List (List SIns) → Int
 | [] => 0
 | b :: bs => if rowE regs nb b = 0 then allE regs nb bs else rowE regs nb b
def total : List (List SIns) → Nat
 | [] => 0
 | b :: bs => b.length + total bs
def fits (left : Int) (l : List (List SIns)) : Bool := decide ((∀ b ∈ l, b.length ≠ 0) ∧ (total l : Int) ≤ left)
def shapeP (params regs : Int) (bs : List (List SIns)) : Prop := 0 ≤ params ∧ params ≤ 4 ∧ params ≤ regs ∧ regs ≤ 64 ∧ 1 ≤ bs.length ∧ bs.length ≤ 32 ∧ fits 200 bs = true
instance (params regs : Int) (bs : List (List SIns)) : Decidable (shapeP params regs bs) := by unfold shapeP; infer_instance
def checkE (nm : ByteArray) (params regs : Int) (bs : List (List SIns)) : Int := if nameOk nm = true then (if shapeP params regs bs then allE regs (bs.length : Int) bs else 71) else 70
theorem fits_nil {left : Int} (h : 0 ≤ left) : fits left [] = true := by
 unfold fits
 apply zF
 exact ⟨by simp, by unfold total; omega⟩
theorem fits_cons (left : Int) (b : List SIns) (bs : List (List SIns)) : fits left (b :: bs) = (decide (b.length ≠ 0) && fits (left - b.length) bs) := by
 unfold fits
 rw [← Bool.decide_and]
 apply decide_eq_decide.2
 simp only [List.mem_cons, forall_eq_or_imp, total]
 constructor
 ·rintro ⟨⟨h1, h2⟩, h3⟩
  exact ⟨h1, h2, by omega⟩
 ·rintro ⟨h1, h2, h3⟩
  exact ⟨⟨h1, h2⟩, by omega⟩
theorem fits_neg {left : Int} {bs : List (List SIns)} (h : left < 0) : fits left bs = false := by
 unfold fits
 apply zG
 rintro ⟨_, h2⟩
 omega
theorem last_eq' {b : List SIns} {j : Nat} (hj : j < b.length) (hl : b.length ≤ 4611686018427387904) : ((j : Int) == wrap64 ((b.length : Int) - 1)) = (b.drop (j + 1)).isEmpty := by
 rw [wrap_pred (by omega) hl]
 by_cases c : j + 1 = b.length
 ·rw [List.drop_eq_nil_of_le (by omega)]
  simp
  omega
 ·have : b.drop (j + 1) ≠ [] := fun h => by
   have := congrArg List.length h
   rw [List.length_drop] at this
   simp at this
   omega
  rw [List.isEmpty_eq_false_iff.2 this]
  simp
  omega

section
variable (pn : ByteArray) (pp rg : Int) (bs : List (List SIns)) (hF : FairB bs)
include hF
theorem refshape_loop : ∀ (d i : Nat), bs.length - i = d → i ≤ bs.length → ∀ s : Int, 0 ≤ s → s ≤ 1000 * i → Ev (fun k => cubbyref07_Shape.l0 k bs s (i : Int)) (fits (200 - s) (bs.drop i)) := by
 have hlen := hF.len
 intro d
 induction d with
 | zero =>
  intro i hd hi s h0 hs
  rw [List.drop_eq_nil_of_le (by omega)]
  refine Ev.step (f := fun _ => some _) (fun k => by simp only [cubbyref07_Shape.l0]; rw [zD (by omega)]) ?_
  have : fits (200 - s) [] = decide (s ≤ 200) := by
   unfold fits total
   apply decide_eq_decide.2
   constructor
   ·rintro ⟨_, h⟩
    omega
   ·intro h
    exact ⟨by simp, by omega⟩
  rw [this]
  exact Ev.now _
 | succ d ih =>
  intro i hd hi s h0 hs
  have hlt : i < bs.length := by omega
  have hr := hF.row _ (List.getElem_mem hlt)
  rw [drop_cons hlt, fits_cons]
  by_cases c : ((bs[i]).length : Int) = 0
  ·rw [zG (by omega), Bool.false_and]
   exact Ev.step (f := fun _ => some false) (fun k => by simp only [cubbyref07_Shape.l0]; rw [zC (by omega), zC (by omega), rdL_get hlt, zC c]) (Ev.now _)
  ·by_cases c1 : ((bs[i]).length : Int) > 200
   ·rw [fits_neg (by omega), Bool.and_false]
    exact Ev.step (f := fun _ => some false) (fun k => by simp only [cubbyref07_Shape.l0]; rw [zC (by omega), zC (by omega), rdL_get hlt, zD c, zC c1]) (Ev.now _)
   ·rw [zF (by omega), Bool.true_and]
    have := ih (i + 1) (by omega) (by omega) (s + (bs[i]).length) (by omega) (by omega)
    rw [show 200 - s - ((bs[i]).length : Int) = 200 - (s + (bs[i]).length) by omega]
    refine Ev.step (fun k => ?_) this
    simp only [cubbyref07_Shape.l0]
    rw [zC (by omega), zC (by omega), rdL_get hlt, zD c, zD c1, wrap_nat (by omega), wrap_id (by omega) (by omega)]
theorem refshape_ev : Ev (fun k => cubbyref07_Shape.f k pp rg bs) (decide (shapeP pp rg bs)) := by
 have hyes : ¬ shapeP pp rg bs → Ev (fun k => cubbyref07_Shape.j0 k bs true) (decide (shapeP pp rg bs)) := fun h => by
  rw [zG h]
  exact Ev.step (f := fun _ => some false) (fun k => by simp only [cubbyref07_Shape.j0]; rw [zC trivial]) (Ev.now _)
 by_cases c0 : pp < 0
 ·exact Ev.congr (fun k => by unfold cubbyref07_Shape.f; rw [zC c0]) (hyes (fun h => by have := h.1; omega))
 by_cases c1 : pp > 4
 ·exact Ev.congr (fun k => by unfold cubbyref07_Shape.f; rw [zD c0, zC c1]) (hyes (fun h => by have := h.2.1; omega))
 by_cases c2 : rg < pp
 ·exact Ev.congr (fun k => by unfold cubbyref07_Shape.f; rw [zD c0, zD c1, zC c2]) (hyes (fun h => by have := h.2.2.1; omega))
 by_cases c3 : rg > 64
 ·exact Ev.congr (fun k => by unfold cubbyref07_Shape.f; rw [zD c0, zD c1, zD c2, zC c3]) (hyes (fun h => by have := h.2.2.2.1; omega))
 by_cases c4 : (bs.length : Int) < 1
 ·exact Ev.congr (fun k => by unfold cubbyref07_Shape.f; rw [zD c0, zD c1, zD c2, zD c3, zC c4]) (hyes (fun h => by have := h.2.2.2.2.1; omega))
 refine Ev.congr (fun k => by unfold cubbyref07_Shape.f; rw [zD c0, zD c1, zD c2, zD c3, zD c4]) ?_
 by_cases c5 : (bs.length : Int) > 32
 ·rw [zF c5]
  exact hyes (fun h => by have := h.2.2.2.2.2.1; omega)
 ·rw [zG c5]
  have := refshape_loop bs hF bs.length 0 (by omega) (by omega) 0 (by omega) (by omega)
  have e : fits (200 - 0) (bs.drop 0) = decide (shapeP pp rg bs) := by
   rw [List.drop_zero]
   unfold shapeP
   cases hf : fits (200 - 0) bs
   ·symm
    apply zG
    rintro ⟨_, _, _, _, _, _, h⟩
    rw [show (200 : Int) - 0 = 200 by omega, h] at hf
    exact absurd hf (by simp)
   ·symm
    apply zF
    exact ⟨by omega, by omega, by omega, by omega, by omega, by omega, hf⟩
  rw [← e]
  refine Ev.step (fun k => by simp only [cubbyref07_Shape.j0]; rw [zD Bool.false_ne_true]; rfl) this
theorem refcheck_row (i : Nat) (hi : i < bs.length) (R : Int) (h : Ev (fun k => cubbyref07_Check.l0 k ((i + 1 : Nat) : Int) pn pp rg bs) R) : ∀ (d j : Nat), bs[i].length - j = d → j ≤ bs[i].length → Ev (fun k => cubbyref07_Check.l1 k (i : Int) (j : Int) pn pp rg bs) (if rowE rg (bs.length : Int) (bs[i].drop j) = 0 then R else rowE rg (bs.length : Int) (bs[i].drop j)) := by
 have hlen := hF.len
 have hr := hF.row _ (List.getElem_mem hi)
 have hg := rdL_get hi
 intro d
 induction d with
 | zero =>
  intro j hd hj
  rw [List.drop_eq_nil_of_le (by omega)]
  unfold rowE
  rw [zC rfl]
  exact Ev.step (fun k => by simp only [cubbyref07_Check.l1]; rw [zC (by omega), zC (by omega), hg, zD (by omega), wrap_nat (by omega)]) h
 | succ d ih =>
  intro j hd hj
  have hlt : j < bs[i].length := by omega
  have hx := hF.ins _ (List.getElem_mem hi) _ (List.getElem_mem hlt)
  rw [drop_cons hlt]
  unfold rowE
  have h1 := refone_ev bs[i][j].f0 bs[i][j].f1 bs[i][j].f2 bs[i][j].f3 bs[i][j].f4 bs[i][j].f5 (by omega) rg (bs.length : Int) (bs[i].drop (j + 1)).isEmpty
  refine Ev.step (fun k => by simp only [cubbyref07_Check.l1]; rw [zC (by omega), zC (by omega), hg, zC (by omega), zC (by omega), rdT_get hlt, last_eq' hlt (by omega)]) (Ev.bind h1 ?_)
  show Ev (fun n => if insE rg (bs.length : Int) bs[i][j] (bs[i].drop (j + 1)).isEmpty = 0 then _ else some (insE rg (bs.length : Int) bs[i][j] (bs[i].drop (j + 1)).isEmpty)) _
  by_cases c : insE rg (bs.length : Int) bs[i][j] (bs[i].drop (j + 1)).isEmpty = 0
  ·rw [zC c]
   exact Ev.congr (fun k => by rw [zC c, wrap_nat (by omega)]) (ih (j + 1) (by omega) (by omega))
  ·rw [zD c, zD c]
   exact Ev.congr (f := fun _ => some _) (fun k => by rw [zD c]) (Ev.now _)
theorem refcheck_all : ∀ (d i : Nat), bs.length - i = d → i ≤ bs.length → Ev (fun k => cubbyref07_Check.l0 k (i : Int) pn pp rg bs) (allE rg (bs.length : Int) (bs.drop i)) := by
 intro d
 induction d with
 | zero =>
  intro i hd hi
  rw [List.drop_eq_nil_of_le (by omega)]
  exact Ev.step (f := fun _ => some 0) (fun k => by simp only [cubbyref07_Check.l0]; rw [zD (by omega)]) (Ev.now _)
 | succ d ih =>
  intro i hd hi
  have hlt : i < bs.length := by omega
  rw [drop_cons hlt]
  unfold allE
  refine Ev.step (fun k => by simp only [cubbyref07_Check.l0]; rw [zC (by omega)]) ?_
  have := refcheck_row pn pp rg bs hF i hlt _ (ih (i + 1) (by omega) (by omega)) bs[i].length 0 (by omega) (by omega)
  rw [List.drop_zero] at this
  exact this
theorem refcheck_ev : Ev (fun k => cubbyref07_Check.f k pn pp rg bs) (checkE pn pp rg bs) := by
 unfold checkE
 refine Ev.bind (refname_ev pn) ?_
 cases nameOk pn
 ·exact Ev.congr (f := fun _ => some 70) (fun k => by rw [zD Bool.false_ne_true]) (Ev.now _)
 ·refine Ev.congr (fun k => by rw [zC rfl]) (Ev.bind (refshape_ev pp rg bs hF) ?_)
  rw [zC rfl]
  by_cases c : shapeP pp rg bs
  ·rw [zC c, zF c]
   have := refcheck_all pn pp rg bs hF bs.length 0 (by omega) (by omega)
   exact Ev.congr (fun k => by rw [zC rfl]; rfl) this
  ·rw [zD c, zG c]
   exact Ev.congr (f := fun _ => some 71) (fun k => by rw [zD Bool.false_ne_true]) (Ev.now _)

theorem check_row (i : Nat) (hi : i < bs.length) (R : Int) (h : Ev (fun k => ir_Check.l1 k bs (bs.length : Int) ((i + 1 : Nat) : Int) pn pp rg bs) R) : ∀ (d j : Nat), bs[i].length - j = d → j ≤ bs[i].length → Ev (fun k => ir_Check.l2 k bs[i] bs (bs.length : Int) (i : Int) bs[i] (bs[i].length : Int) (j : Int) pn pp rg bs) (if rowE rg (bs.length : Int) (bs[i].drop j) = 0 then R else rowE rg (bs.length : Int) (bs[i].drop j)) := by
 have hlen := hF.len
 have hr := hF.row _ (List.getElem_mem hi)
 intro d
 induction d with
 | zero =>
  intro j hd hj
  rw [List.drop_eq_nil_of_le (by omega)]
  unfold rowE
  rw [zC rfl]
  exact Ev.step (fun k => by simp only [ir_Check.l2]; rw [zD (by omega), wrap_nat (by omega)]) h
 | succ d ih =>
  intro j hd hj
  have hlt : j < bs[i].length := by omega
  have hx := hF.ins _ (List.getElem_mem hi) _ (List.getElem_mem hlt)
  rw [drop_cons hlt]
  unfold rowE
  have h1 := one_ev pn pp rg bs bs[i][j].f0 bs[i][j].f1 bs[i][j].f2 bs[i][j].f3 bs[i][j].f4 bs[i][j].f5 (bs[i].drop (j + 1)).isEmpty
  refine Ev.step (fun k => by simp only [ir_Check.l2]; rw [zC (by omega), zC (by omega), zC (by omega), rdT_get hlt, last_eq' hlt (by omega)]) (Ev.bind h1 ?_)
  show Ev (fun n => if insE rg (bs.length : Int) bs[i][j] (bs[i].drop (j + 1)).isEmpty = 0 then _ else some (insE rg (bs.length : Int) bs[i][j] (bs[i].drop (j + 1)).isEmpty)) _
  by_cases c : insE rg (bs.length : Int) bs[i][j] (bs[i].drop (j + 1)).isEmpty = 0
  ·rw [zC c]
   exact Ev.congr (fun k => by rw [zC c, wrap_nat (by omega)]) (ih (j + 1) (by omega) (by omega))
  ·rw [zD c, zD c]
   exact Ev.congr (f := fun _ => some _) (fun k => by rw [zD c]) (Ev.now _)
theorem check_all : ∀ (d i : Nat), bs.length - i = d → i ≤ bs.length → Ev (fun k => ir_Check.l1 k bs (bs.length : Int) (i : Int) pn pp rg bs) (allE rg (bs.length : Int) (bs.drop i)) := by
 intro d
 induction d with
 | zero =>
  intro i hd hi
  rw [List.drop_eq_nil_of_le (by omega)]
  exact Ev.step (f := fun _ => some 0) (fun k => by simp only [ir_Check.l1]; rw [zD (by omega)]) (Ev.now _)
 | succ d ih =>
  intro i hd hi
  have hlt : i < bs.length := by omega
  rw [drop_cons hlt]
  unfold allE
  refine Ev.step (fun k => by simp only [ir_Check.l1]; rw [zC (by omega), zC (by omega), zC (by omega), rdL_get hlt]) ?_
  have := check_row pn pp rg bs hF i hlt _ (ih (i + 1) (by omega) (by omega)) bs[i].length 0 (by omega) (by omega)
  rw [List.drop_zero] at this
  exact this
theorem check_fits : ∀ (d i : Nat), bs.length - i = d → i ≤ bs.length → ∀ left : Int, 0 ≤ left → left ≤ 200 → Ev (fun k => ir_Check.l0 k left bs (bs.length : Int) (i : Int) pn pp rg bs) (if fits left (bs.drop i) = true then allE rg (bs.length : Int) bs else 71) := by
 have hlen := hF.len
 intro d
 induction d with
 | zero =>
  intro i hd hi left h0 h1
  rw [List.drop_eq_nil_of_le (by omega), fits_nil h0, zC rfl]
  have := check_all pn pp rg bs hF bs.length 0 (by omega) (by omega)
  exact Ev.step (fun k => by simp only [ir_Check.l0]; rw [zD (by omega)]; rfl) this
 | succ d ih =>
  intro i hd hi left h0 h1
  have hlt : i < bs.length := by omega
  rw [drop_cons hlt, fits_cons]
  by_cases c : ((bs[i]).length : Int) = 0
  ·rw [zG (by omega), Bool.false_and, zD Bool.false_ne_true]
   exact Ev.step (f := fun _ => some 71) (fun k => by simp only [ir_Check.l0]; rw [zC (by omega), zC (by omega), zC (by omega), rdL_get hlt, zC c]) (Ev.now _)
  ·by_cases c1 : ((bs[i]).length : Int) > left
   ·rw [fits_neg (by omega), Bool.and_false, zD Bool.false_ne_true]
    exact Ev.step (f := fun _ => some 71) (fun k => by simp only [ir_Check.l0]; rw [zC (by omega), zC (by omega), zC (by omega), rdL_get hlt, zD c, zC c1]) (Ev.now _)
   ·rw [zF (by omega), Bool.true_and]
    refine Ev.step (fun k => ?_) (ih (i + 1) (by omega) (by omega) (left - (bs[i]).length) (by omega) (by omega))
    simp only [ir_Check.l0]
    rw [zC (by omega), zC (by omega), zC (by omega), rdL_get hlt, zD c, zD c1, wrap_nat (by omega), wrap_id (by omega) (by omega)]
theorem check_ev : Ev (fun k => ir_Check.f k pn pp rg bs) (checkE pn pp rg bs) := by
 unfold checkE
 cases hn : nameOk pn
 ·exact Ev.congr (f := fun _ => some 70) (fun k => by unfold ir_Check.f; rw [name_eq, zJ, hn, zD Bool.false_ne_true]) (Ev.now _)
 ·rw [zC rfl]
  refine Ev.congr (fun k => by unfold ir_Check.f; rw [name_eq, zJ, hn, zC rfl]) ?_
  have hyes : ¬ shapeP pp rg bs → Ev (fun k => ir_Check.j0 k true pn pp rg bs) (if shapeP pp rg bs then allE rg (bs.length : Int) bs else 71) := fun h => by
   rw [zD h]
   exact Ev.step (f := fun _ => some 71) (fun k => by simp only [ir_Check.j0]; rw [zC trivial]) (Ev.now _)
  by_cases c0 : pp < 0
  ·exact Ev.congr (fun k => by rw [zC c0]) (hyes (fun h => by have := h.1; omega))
  by_cases c1 : pp > 4
  ·exact Ev.congr (fun k => by rw [zD c0, zC c1]) (hyes (fun h => by have := h.2.1; omega))
  by_cases c2 : rg < pp
  ·exact Ev.congr (fun k => by rw [zD c0, zD c1, zC c2]) (hyes (fun h => by have := h.2.2.1; omega))
  by_cases c3 : rg > 64
  ·exact Ev.congr (fun k => by rw [zD c0, zD c1, zD c2, zC c3]) (hyes (fun h => by have := h.2.2.2.1; omega))
  by_cases c4 : (bs.length : Int) < 1
  ·exact Ev.congr (fun k => by rw [zD c0, zD c1, zD c2, zD c3, zC c4]) (hyes (fun h => by have := h.2.2.2.2.1; omega))
  refine Ev.congr (fun k => by rw [zD c0, zD c1, zD c2, zD c3, zD c4]) ?_
  by_cases c5 : (bs.length : Int) > 32
  ·rw [zF c5]
   exact hyes (fun h => by have := h.2.2.2.2.2.1; omega)
  ·rw [zG c5]
   have := check_fits pn pp rg bs hF bs.length 0 (by omega) (by omega) 200 (by omega) (by omega)
   rw [List.drop_zero] at this
   refine Ev.step (f := fun k => ir_Check.l0 k 200 bs (bs.length : Int) ((0 : Nat) : Int) pn pp rg bs) (fun k => by simp only [ir_Check.j0]; rw [zD Bool.false_ne_true]; rfl) ?_
   by_cases hf : fits 200 bs = true
   ·rw [zC hf] at this
    rw [zC ⟨by omega, by omega, by omega, by omega, by omega, by omega, hf⟩]
    exact this
   ·rw [zD hf] at this
    rw [zD (fun h => hf h.2.2.2.2.2.2)]
    exact this
end
end Go.Proofs.YtpkimbkjjmbmcaaDoor.PlainCheck
namespace Go.Proofs.YtpkimbkjjmbmcaaDoor.PlainCheck
open Go Go.RowKit Go.Proofs.YtpkimbkjjmbmcaaDoorW.PrintWords Go.Proofs.YtpkimbkjjmbmcaaDoorW.PrintMore Go.Proofs.YtpkimbkjjmbmcaaDoor.Q Go.Proofs.YtpkimbkjjmbmcaaDoor.Plain Go.Proofs.YtpkimbkjjmbmcaaDoor.PlainIr Go.Proofs.YtpkimbkjjmbmcaaDoor.PlainName Go.Proofs.YtpkimbkjjmbmcaaDoor.PlainOne Go.Proofs.YtpkimbkjjmbmcaaDoor.PlainHeavy
set_option linter.unusedVariables false
theorem allE_zero {rg nb : Int} : ∀ {bs : List (List SIns)}, allE rg nb bs = 0 → ∀ b ∈ bs, rowE rg nb b = 0
 | [], _ => by simp
 | c :: bs, h => by
  unfold allE at h
  split at h
  ·next h1 =>
   intro b hb
   rcases List.mem_cons.1 hb with rfl | hb
   ·exact h1
   ·exact allE_zero h b hb
  ·next h1 => exact absurd h h1
theorem rowE_zero {rg nb : Int} : ∀ {b : List SIns}, rowE rg nb b = 0 → ∀ (j : Nat) (h : j < b.length), insE rg nb b[j] (b.drop (j + 1)).isEmpty = 0
 | [], _ => by
  intro j h
  exact absurd h (by simp)
 | x :: xs, h => by
  unfold rowE at h
  split at h
  ·next h1 =>
   intro j hj
   cases j with
   | zero => exact h1
   | succ j => exact rowE_zero h j (by simpa using hj)
  ·next h1 => exact absurd h h1
structure InsOk (rg nb : Int) (x : SIns) (last : Bool) : Prop where
 op : 1 ≤ x.f0 ∧ x.f0 ≤ 14
 last : lastOp x.f0 = last
 bare : bareP x.f0 x.f1 x.f2 x.f3 x.f4 x.f5
 def_ : hasD x.f0 → 0 ≤ x.f1 ∧ x.f1 < rg
 use : ∀ n ∈ uses x.f0 x.f2 x.f3 x.f5, 0 ≤ n ∧ n < rg
 num : x.f0 = 1 → 0 ≤ x.f2 ∧ x.f2 < 65536
 goal : ∀ n ∈ targets7 x.f0 x.f1 x.f2 x.f3, 0 ≤ n ∧ n < nb
 name : x.f0 = 11 → nameOk x.f4 = true ∧ x.f5.length ≤ 4
theorem not_any {m : Int} {l : List Int} (h : ¬ l.any (oddReg m) = true) : ∀ n ∈ l, 0 ≤ n ∧ n < m := by
 intro n hn
 have : ¬ oddReg m n = true := fun hx => h (List.any_eq_true.2 ⟨n, hn, hx⟩)
 rw [odd_iff] at this
 omega
theorem insE_zero {rg nb : Int} {x : SIns} {last : Bool} (h : insE rg nb x last = 0) : InsOk rg nb x last := by
 unfold insE oneE at h
 split at h
 ·next h0 =>
  unfold e1 at h
  split at h
  ·exact absurd h (by decide)
  ·next h1 =>
   unfold e2 at h
   split at h
   ·exact absurd h (by decide)
   ·next h2 =>
    unfold e3 at h
    split at h
    ·exact absurd h (by decide)
    ·next h3 =>
     unfold e4 at h
     split at h
     ·exact absurd h (by decide)
     ·next h4 =>
      unfold e5 at h
      split at h
      ·exact absurd h (by decide)
      ·next h5 =>
       refine ⟨h0.1, h0.2.1, h0.2.2, ?_, not_any (fun y => h1 (.inr y)), ?_, not_any h3, ?_⟩
       ·intro hd
        have : ¬ oddReg rg x.f1 = true := fun y => h1 (.inl ⟨hd, y⟩)
        rw [odd_iff] at this
        omega
       ·intro h6
        omega
       ·intro h6
        refine ⟨?_, by omega⟩
        cases hn : nameOk x.f4
        ·exact absurd ⟨h6, hn⟩ h4
        ·rfl
 ·exact absurd h (by decide)
structure FuncOk (nm : ByteArray) (params regs : Int) (bs : List (List SIns)) : Prop where
 name : nameOk nm = true
 shape : shapeP params regs bs
 row : ∀ b ∈ bs, b.length ≠ 0
 tot : total bs ≤ 200
 ins : ∀ b ∈ bs, ∀ (j : Nat) (h : j < b.length), InsOk regs (bs.length : Int) b[j] (b.drop (j + 1)).isEmpty
theorem checkE_zero {nm : ByteArray} {params regs : Int} {bs : List (List SIns)} (h : checkE nm params regs bs = 0) : FuncOk nm params regs bs := by
 unfold checkE at h
 split at h
 ·next h0 =>
  split at h
  ·next h1 =>
   have hf := zB h1.2.2.2.2.2.2
   exact ⟨h0, h1, hf.1, by have := hf.2; omega, fun b hb j hj => insE_zero (rowE_zero (allE_zero h b hb) j hj)⟩
  ·exact absurd h (by decide)
 ·exact absurd h (by decide)
end Go.Proofs.YtpkimbkjjmbmcaaDoor.PlainCheck
namespace Go.Proofs.YtpkimbkjjmbmcaaDoor.PlainLive
open Go Go.RowKit Go.Proofs.YtpkimbkjjmbmcaaDoorW.PrintWords Go.Proofs.YtpkimbkjjmbmcaaDoorW.PrintMore Go.Proofs.YtpkimbkjjmbmcaaDoor.Q Go.Proofs.YtpkimbkjjmbmcaaDoor.Plain Go.Proofs.YtpkimbkjjmbmcaaDoor.PlainIr Go.Proofs.YtpkimbkjjmbmcaaDoor.PlainBits Go.Proofs.YtpkimbkjjmbmcaaDoor.PlainFix Go.Proofs.YtpkimbkjjmbmcaaDoor.PlainSuccs Go.Proofs.YtpkimbkjjmbmcaaDoor.PlainOne Go.Proofs.YtpkimbkjjmbmcaaDoor.PlainHeavy Go.Proofs.YtpkimbkjjmbmcaaDoor.PlainCheck
set_option linter.unusedVariables false
set_option linter.unusedSimpArgs false
theorem with_eq {s : Nat} {n : Int} (h0 : 0 ≤ n) (h : n < 64) (hs : s < 2 ^ 64) : live_set_with.f (s : Int) n = some ((withB s n.toNat : Nat) : Int) := by
 unfold live_set_with.f
 rw [zC (wrap_nonneg n)]
 have := bits_with (s := s) (r := n.toNat) (by omega) hs
 rw [show ((n.toNat : Nat) : Int) = n by omega] at this
 rw [this]
theorem without_eq {s : Nat} {n : Int} (h0 : 0 ≤ n) (h : n < 64) (hs : s < 2 ^ 64) : live_set_without.f (s : Int) n = some ((withoutB s n.toNat : Nat) : Int) := by
 unfold live_set_without.f
 rw [zC (wrap_nonneg n)]
 have := bits_without (s := s) (r := n.toNat) (by omega) hs
 rw [show ((n.toNat : Nat) : Int) = n by omega] at this
 rw [this]
theorem each_ev {R : Nat} (hR : R ≤ 64) (l : List Int) (hl : l.length ≤ 4611686018427387904) (hm : ∀ n ∈ l, 0 ≤ n ∧ n < R) {s : Nat} (hs : s < 2 ^ R) (B : Bool) : Ev (fun k => live_set_each.f k (s : Int) l B) ((l.foldl (fun s n => withB s n.toNat) s : Nat) : Int) := by
 have h : ∀ (d j s : Nat), j + d = l.length → s < 2 ^ R → Ev (fun k => live_set_each.l0 k (s : Int) l (l.length : Int) (j : Int)) (((l.drop j).foldl (fun s n => withB s n.toNat) s : Nat) : Int) := by
  intro d
  induction d with
  | zero =>
   intro j s hj hs
   rw [List.drop_eq_nil_of_le (by omega)]
   exact Ev.step (f := fun _ => some (s : Int)) (fun k => by simp only [live_set_each.l0]; rw [zD (by omega)]) (Ev.now _)
  | succ d ih =>
   intro j s hj hs
   have hjl : j < l.length := by omega
   have h1 := hm _ (List.getElem_mem hjl)
   rw [drop_cons hjl, List.foldl_cons]
   refine Ev.step (fun k => ?_) (ih (j + 1) (withB s (l[j]).toNat) (by omega) (withB_lt (by omega) hs))
   simp only [live_set_each.l0]
   rw [zC (by omega), zC (by omega), zC (by omega), rd_get hjl, with_eq h1.1 (by omega) (lt64 hR hs), zJ, wrap_nat (by omega)]
 have := h l.length 0 s (by omega) hs
 rw [List.drop_zero] at this
 exact this
theorem through_ev {R : Nat} {x : SIns} (O : RegsOk R x) (hx : x.f5.length ≤ 17592186043904) {s : Nat} (hs : s < 2 ^ R) : Ev (fun k => live_through.f k x.f0 x.f1 x.f2 x.f3 x.f4 x.f5 (s : Int)) ((thrN x s : Nat) : Int) := by
 have hd := O.def_
 have hR := O.le
 unfold thrN
 by_cases c : 0 ≤ defOf x.f0 x.f1
 ·rw [zC c]
  refine Ev.congr (fun k => by unfold live_through.f; rw [def_eq, zJ, zC c, without_eq c (by omega) (lt64 hR hs), zJ]) (Ev.bind (uses_ev x.f0 x.f1 x.f2 x.f3 x.f4 x.f5 (by omega)) ?_)
  exact Ev.bind (each_ev hR _ (uses_short (by omega)) O.use (withoutB_lt hs) false) (Ev.now _)
 ·rw [zD c]
  refine Ev.congr (fun k => by unfold live_through.f; rw [def_eq, zJ, zD c]) (Ev.bind (uses_ev x.f0 x.f1 x.f2 x.f3 x.f4 x.f5 (by omega)) ?_)
  exact Ev.bind (each_ev hR _ (uses_short (by omega)) O.use hs false) (Ev.now _)
def toI (inn : List Nat) : List Int := inn.map (fun n : Nat => (n : Int))
theorem toI_len (inn : List Nat) : (toI inn).length = inn.length := by
 unfold toI
 rw [List.length_map]
theorem rd_toI {inn : List Nat} {b : Int} : rd (toI inn) b = ((at_ inn b.toNat : Nat) : Int) := by
 show (toI inn).getD b.toNat 0 = _
 unfold at_ toI
 rw [List.getD_eq_getElem?_getD, List.getD_eq_getElem?_getD, List.getElem?_map]
 cases inn[b.toNat]? <;> rfl
section
variable (pn : ByteArray) (pp : Int) {R : Nat} {bs : List (List SIns)} (O : BlocksOk R bs) {inn : List Nat} (hlen : inn.length = bs.length) (hlt : ∀ b, at_ inn b < 2 ^ R)
include O hlen hlt
theorem ahead_ev {b i : Nat} (hb : b < bs.length) (hi : i ≤ (bs.getD b []).length) : Ev (fun k => live_ahead.f k pn pp (R : Int) bs (toI inn) (b : Int) (i : Int)) ((aheadN bs inn b i : Nat) : Int) := by
 have hbl := O.len
 have hR := O.le
 have hrow := getD_get hb
 have hr := O.row _ (List.getElem_mem hb)
 have hregs := O.regs _ (List.getElem_mem hb)
 have hargs := O.args _ (List.getElem_mem hb)
 rw [← hrow] at hr hregs hargs
 have h1 : ∀ (d m s : Nat), i + d = m → m ≤ (bs.getD b []).length → s < 2 ^ R → Ev (fun k => live_ahead.l1 k (b : Int) (i : Int) (s : Int) ((m : Int) - 1) pn pp (R : Int) bs) (((((bs.getD b []).take m).drop i).foldr thrN s : Nat) : Int) := by
  generalize hg : bs.getD b [] = row at *
  intro d
  induction d with
  | zero =>
   intro m s hm hml hs
   rw [List.drop_eq_nil_of_le (by rw [List.length_take]; omega)]
   exact Ev.step (f := fun _ => some (s : Int)) (fun k => by simp only [live_ahead.l1]; rw [zD (by omega)]) (Ev.now _)
  | succ d ih =>
   intro m s hm hml hs
   obtain ⟨m', rfl⟩ : ∃ m', m = m' + 1 := ⟨m - 1, by omega⟩
   have hm' : m' < row.length := by omega
   rw [row_fold (by omega) hm']
   have hx := hregs _ (List.getElem_mem hm')
   rw [show (((m' + 1 : Nat) : Int) - 1) = (m' : Int) by omega]
   refine Ev.step (fun k => by simp only [live_ahead.l1]; rw [zC (by omega), zC (by omega), zC (by omega), zC (by omega), rd_row hb, hg, zC (by omega), rd_ins hm']) (Ev.bind (through_ev hx (hargs _ (List.getElem_mem hm')) hs) ?_)
   exact Ev.congr (fun k => by rw [wrap_id (by omega) (by omega)]) (ih m' _ (by omega) (by omega) (thrN_lt hx hs))
 have hm := succs_mem bs (b : Int)
 have hl := succs_len bs (b : Int)
 refine Ev.bind (succs_ev bs (b : Int) O.small) ?_
 unfold aheadN orN
 generalize succs bs (b : Int) = l at *
 have h : ∀ (d j s : Nat), j + d = l.length → s < 2 ^ R → Ev (fun k => live_ahead.l0 k (toI inn) (b : Int) (i : Int) (s : Int) l (l.length : Int) (j : Int) pn pp (R : Int) bs) ((((bs.getD b []).drop i).foldr thrN ((l.drop j).foldl (fun s k => s ||| at_ inn k.toNat) s) : Nat) : Int) := by
  intro d
  induction d with
  | zero =>
   intro j s hj hs
   rw [List.drop_eq_nil_of_le (by omega : l.length ≤ j)]
   have := h1 ((bs.getD b []).length - i) (bs.getD b []).length s (by omega) (Nat.le_refl _) hs
   rw [List.take_length] at this
   exact Ev.step (fun k => by simp only [live_ahead.l0]; rw [zD (by omega), zC (by omega), zC (by omega), rd_row hb, wrap_id (by omega) (by omega)]) this
  | succ d ih =>
   intro j s hj hs
   have hjl : j < l.length := by omega
   have h2 := hm _ (List.getElem_mem hjl)
   rw [drop_cons hjl, List.foldl_cons]
   have h3 := hlt (l[j]).toNat
   have h4 := lt64 hR h3
   have h5 := lt64 hR hs
   refine Ev.step (fun k => ?_) (ih (j + 1) _ (by omega) (Nat.or_lt_two_pow hs h3))
   simp only [live_ahead.l0]
   rw [zC (by omega), zC (by omega), zC (by omega), rd_get hjl, zC (by omega), zC (by rw [toI_len]; omega), rd_toI, u64_or_nat _ _ (by omega) (by omega), wrap_nat (by omega)]
 exact h l.length 0 0 (by omega) (Nat.pos_of_ne_zero (by simp))
end
theorem toI_set (y : List Nat) (b v : Nat) : (toI y).set b (v : Int) = toI (y.set b v) := by
 unfold toI
 rw [List.map_set]
theorem toI_zero (n : Nat) : List.replicate n (0 : Int) = toI (List.replicate n 0) := by
 unfold toI
 rw [List.map_replicate]
 rfl
structure Sol (R : Nat) (bs : List (List SIns)) (z : List Nat) : Prop where
 on : On bs.length R (fun x b => aheadN bs x b 0) z
 eq : ∀ b, b < bs.length → aheadN bs z b 0 = at_ z b
theorem Sol.one {R : Nat} {bs : List (List SIns)} {y z : List Nat} (hy : Sol R bs y) (hz : Sol R bs z) : y = z := on_eq hy.on hz.on hy.eq hz.eq
section
variable (pn : ByteArray) (pp : Int) {R : Nat} {bs : List (List SIns)} (O : BlocksOk R bs)
include O
theorem sets_ev : ∃ z, Sol R bs z ∧ Ev (fun k => live_sets.f k pn pp (R : Int) bs) (toI z) := by
 have hbl := O.len
 have E := aheadN_eqs bs R O.regs
 have main : ∀ (d : Nat) (y : List Nat), On bs.length R (fun x b => aheadN bs x b 0) y → bs.length * R + 1 ≤ card R y + d → ∃ z, Sol R bs z ∧ Ev (fun k => live_sets.l0 k (toI y) true pn pp (R : Int) bs) (toI z) := by
  intro d
  induction d with
  | zero =>
   intro y hy hc
   have h1 := card_le R y
   rw [hy.len] at h1
   omega
  | succ d ih =>
   intro y0 hy0 hc
   have row : ∀ (b : Nat), b ≤ bs.length → ∀ (y : List Nat) (again : Bool), On bs.length R (fun x b => aheadN bs x b 0) y → LE y0 y → (again = false → y = y0 ∧ ∀ c, b ≤ c → c < bs.length → aheadN bs y0 c 0 = at_ y0 c) → (again = true → card R y0 < card R y) → ∃ z, Sol R bs z ∧ Ev (fun k => live_sets.l1 k (toI y) again ((b : Int) - 1) pn pp (R : Int) bs) (toI z) := by
    intro b
    induction b with
    | zero =>
     intro _ y again hy hle hf ht
     cases again
     ·obtain ⟨rfl, h2⟩ := hf rfl
      refine ⟨y, ⟨hy, fun c hc => h2 c (by omega) hc⟩, ?_⟩
      refine Ev.step (fun k => by simp only [live_sets.l1]; rw [zD (by omega)]) ?_
      exact Ev.step (f := fun _ => some (toI y)) (fun k => by simp only [live_sets.l0]; rw [zD Bool.false_ne_true]) (Ev.now _)
     ·obtain ⟨z, hz, hE⟩ := ih y hy (by have := ht rfl; omega)
      exact ⟨z, hz, Ev.step (fun k => by simp only [live_sets.l1]; rw [zD (by omega)]) hE⟩
    | succ b ihb =>
     intro hb y again hy hle hf ht
     have ha : Ev (fun k => live_ahead.f k pn pp (R : Int) bs (toI y) (b : Int) 0) ((aheadN bs y b 0 : Nat) : Int) := ahead_ev pn pp O hy.len hy.lt (b := b) (i := 0) (by omega) (Nat.zero_le _)
     have hs := on_set E hy (b := b) (by omega)
     have hyl := hy.len
     have e0 : (((b + 1 : Nat) : Int) - 1) = (b : Int) := by omega
     rw [e0]
     have hcard := card_mono R (x := y) (y := y.set b (aheadN bs y b 0)) (by rw [List.length_set]) hs.2
     cases again
     ·obtain ⟨rfl, h2⟩ := hf rfl
      by_cases c : aheadN bs y b 0 = at_ y b
      ·have hset : y.set b (aheadN bs y b 0) = y := by
        refine list_ext (n := bs.length) (R := R) (by rw [List.length_set]; exact hyl) hyl fun i hi => ?_
        rw [at_set (by omega)]
        split
        ·next h => rw [h]; exact c
        ·rfl
       obtain ⟨z, hz, hE⟩ := ihb (by omega) y false hy hle (fun _ => ⟨rfl, fun i hi hi2 => by
        by_cases e : i = b
        ·subst e
         exact c
        ·exact h2 i (by omega) hi2⟩) (fun h => absurd h (by simp))
       refine ⟨z, hz, Ev.step (fun k => by simp only [live_sets.l1]; rw [zC (by omega)]) (Ev.bind ha ?_)⟩
       refine Ev.congr (fun k => ?_) hE
       rw [zD Bool.false_ne_true, zC (by omega), zC (by rw [toI_len]; omega), rd_toI, Int.toNat_natCast, toI_set, hset, c, show ((at_ y b : Int) != (at_ y b : Int)) = false by simp, wrap_id (by omega) (by omega)]
      ·have hlt : card R y < card R (y.set b (aheadN bs y b 0)) := by
        apply Nat.lt_of_le_of_ne hcard
        intro e
        have := card_eq R (x := y) (y := y.set b (aheadN bs y b 0)) (by rw [List.length_set]) hs.2 hy.lt hs.1.lt e
        have h3 : at_ y b = at_ (y.set b (aheadN bs y b 0)) b := congrArg (fun l => at_ l b) this
        rw [at_set (by omega), zC rfl] at h3
        exact c h3.symm
       obtain ⟨z, hz, hE⟩ := ihb (by omega) (y.set b (aheadN bs y b 0)) true hs.1 hs.2 (fun h => absurd h (by simp)) (fun _ => hlt)
       refine ⟨z, hz, Ev.step (fun k => by simp only [live_sets.l1]; rw [zC (by omega)]) (Ev.bind ha ?_)⟩
       refine Ev.congr (fun k => ?_) hE
       rw [zD Bool.false_ne_true, zC (by omega), zC (by rw [toI_len]; omega), rd_toI, Int.toNat_natCast, toI_set, show ((aheadN bs y b 0 : Int) != (at_ y b : Int)) = true by simp; omega, wrap_id (by omega) (by omega)]
     ·obtain ⟨z, hz, hE⟩ := ihb (by omega) (y.set b (aheadN bs y b 0)) true hs.1 (hle.trans hs.2) (fun h => absurd h (by simp)) (fun _ => Nat.lt_of_lt_of_le (ht rfl) hcard)
      refine ⟨z, hz, Ev.step (fun k => by simp only [live_sets.l1]; rw [zC (by omega)]) (Ev.bind ha ?_)⟩
      refine Ev.congr (fun k => ?_) hE
      rw [zC trivial, zC (by omega), zC (by rw [toI_len]; omega), Int.toNat_natCast, toI_set, wrap_id (by omega) (by omega)]
   obtain ⟨z, hz, hE⟩ := row bs.length (Nat.le_refl _) y0 false hy0 (LE.refl _) (fun _ => ⟨rfl, fun c h1 h2 => by omega⟩) (fun h => absurd h (by simp))
   exact ⟨z, hz, Ev.step (fun k => by simp only [live_sets.l0]; rw [zC trivial, wrap_id (by omega) (by omega)]) hE⟩
 obtain ⟨z, hz, hE⟩ := main (bs.length * R + 1) _ on_zero (by omega)
 refine ⟨z, hz, Ev.congr (fun k => ?_) hE⟩
 unfold live_sets.f
 rw [zC (by omega), zC (by omega), Int.toNat_natCast, toI_zero]
end
end Go.Proofs.YtpkimbkjjmbmcaaDoor.PlainLive
namespace Go.Proofs.YtpkimbkjjmbmcaaDoor.PlainLive
open Go Go.RowKit Go.Proofs.YtpkimbkjjmbmcaaDoorW.PrintWords Go.Proofs.YtpkimbkjjmbmcaaDoorW.PrintMore Go.Proofs.YtpkimbkjjmbmcaaDoor.Q Go.Proofs.YtpkimbkjjmbmcaaDoor.Plain Go.Proofs.YtpkimbkjjmbmcaaDoor.PlainIr Go.Proofs.YtpkimbkjjmbmcaaDoor.PlainName Go.Proofs.YtpkimbkjjmbmcaaDoor.PlainBits Go.Proofs.YtpkimbkjjmbmcaaDoor.PlainFix Go.Proofs.YtpkimbkjjmbmcaaDoor.PlainSuccs Go.Proofs.YtpkimbkjjmbmcaaDoor.PlainOne Go.Proofs.YtpkimbkjjmbmcaaDoor.PlainHeavy Go.Proofs.YtpkimbkjjmbmcaaDoor.PlainCheck
set_option linter.unusedVariables false
set_option linter.unusedSimpArgs false
theorem map_toL_zero (R n : Nat) : List.replicate n ([] : List Int) = (List.replicate n 0).map (toL R) := by
 rw [List.map_replicate, toL_zero]
section
variable (pn : ByteArray) (pp : Int) {R : Nat} {bs : List (List SIns)} (O : BlocksOk R bs)
include O
theorem refin_ev : ∃ z, Sol R bs z ∧ Ev (fun k => cubbyref11_In.l0 k (List.replicate bs.length []) 0 pn pp (R : Int) bs) (z.map (toL R)) := by
 have hbl := O.len
 have hR := O.le
 have E := aheadN_eqs bs R O.regs
 have hnR : bs.length * R ≤ 64000 := Nat.le_trans (Nat.mul_le_mul hbl hR) (by omega)
 have main : ∀ (d : Nat) (y : List Nat) (r : Nat), On bs.length R (fun x b => aheadN bs x b 0) y → r ≤ card R y → bs.length * R + 1 ≤ card R y + d → ∃ z, Sol R bs z ∧ Ev (fun k => cubbyref11_In.l0 k (y.map (toL R)) (r : Int) pn pp (R : Int) bs) (z.map (toL R)) := by
  intro d
  induction d with
  | zero =>
   intro y r hy hr hc
   have h1 := card_le R y
   rw [hy.len] at h1
   omega
  | succ d ih =>
   intro y r hy hr hc
   have hyl := hy.len
   have hcl := card_le R y
   rw [hyl] at hcl
   have hall := on_all E hy
   have hal : ((List.range bs.length).map (fun b => aheadN bs y b 0)).length = bs.length := by simp
   have row : ∀ (e b : Nat) (same : Bool), b + e = bs.length → (same = true ↔ ∀ c, c < b → (toN R (aheadN bs y c 0)).length = (toN R (at_ y c)).length) → ∃ z, Sol R bs z ∧ Ev (fun k => cubbyref11_In.l1 k (y.map (toL R)) (r : Int) (((List.range b).map (fun b => aheadN bs y b 0)).map (toL R)) same (b : Int) pn pp (R : Int) bs) (z.map (toL R)) := by
    intro e
    induction e with
    | zero =>
     intro b same hb hs
     obtain rfl : b = bs.length := by omega
     cases same
     ·have hlt : card R y < card R ((List.range bs.length).map (fun b => aheadN bs y b 0)) := by
       apply Nat.lt_of_le_of_ne (card_mono R (by rw [hal, hyl]) hall.2)
       intro e
       have := card_eq R (by rw [hal, hyl]) hall.2 hy.lt hall.1.lt e
       apply absurd (hs.2 ?_) (by simp)
       intro c hc
       have h3 : at_ y c = at_ ((List.range bs.length).map (fun b => aheadN bs y b 0)) c := congrArg (fun l => at_ l c) this
       rw [at_map, zC hc] at h3
       rw [h3]
      obtain ⟨z, hz, hE⟩ := ih _ (r + 1) hall.1 (by omega) (by omega)
      exact ⟨z, hz, Ev.step (fun k => by simp only [cubbyref11_In.l1]; rw [zD (by omega), zD Bool.false_ne_true, wrap_nat (by omega)]) hE⟩
     ·have heq := hs.1 rfl
      have hA : ∀ c, c < bs.length → aheadN bs y c 0 = at_ y c := fun c hc => (toN_eq (hy.up c hc) (hy.lt c) (E.lt y hy.lt c hc) (heq c hc).symm).symm
      have hy2 : (List.range bs.length).map (fun b => aheadN bs y b 0) = y := by
       refine list_ext (n := bs.length) (R := R) hal hyl fun c hc => ?_
       rw [at_map, zC hc, hA c hc]
      rw [hy2]
      exact ⟨y, ⟨hy, hA⟩, Ev.step (f := fun _ => some (y.map (toL R))) (fun k => by simp only [cubbyref11_In.l1]; rw [zD (by omega), zC trivial]) (Ev.now _)⟩
    | succ e ihe =>
     intro b same hb hs
     have ha : Ev (fun k => cubbyref11_ahead.f k pn pp (R : Int) bs (y.map (toL R)) (b : Int) 0) (toL R (aheadN bs y b 0)) := refahead_ev pn pp O hyl hy.lt (b := b) (i := 0) (by omega) (Nat.zero_le _)
     have hnow : (((List.range (b + 1)).map (fun b => aheadN bs y b 0)).map (toL R)) = (((List.range b).map (fun b => aheadN bs y b 0)).map (toL R)) ++ [toL R (aheadN bs y b 0)] := by
      rw [List.range_succ, List.map_append, List.map_append]
      rfl
     have hl2 : (((List.range b).map (fun b => aheadN bs y b 0)).map (toL R)).length = b := by simp
     have hlen : ∀ s, ((toL R s).length : Int) = ((toN R s).length : Int) := fun s => by
      unfold toL
      rw [List.length_map]
     cases same
     ·have hs2 : ¬ ∀ c, c < b → (toN R (aheadN bs y c 0)).length = (toN R (at_ y c)).length := fun h => absurd (hs.2 h) (by simp)
      obtain ⟨z, hz, hE⟩ := ihe (b + 1) false (by omega) ⟨fun h => absurd h (by simp), fun h => absurd (fun c hc => h c (by omega)) hs2⟩
      rw [hnow] at hE
      refine ⟨z, hz, Ev.step (fun k => by simp only [cubbyref11_In.l1]; rw [zC (by omega)]) (Ev.bind ha ?_)⟩
      exact Ev.congr (fun k => by rw [zD Bool.false_ne_true, zC (by rw [hl2]; omega), wrap_nat (by omega)]) hE
     ·have hs1 := hs.1 rfl
      obtain ⟨z, hz, hE⟩ := ihe (b + 1) (((toN R (aheadN bs y b 0)).length : Int) == ((toN R (at_ y b)).length : Int)) (by omega) (by
       rw [beq_iff_eq]
       constructor
       ·intro h c hc
        by_cases e : c = b
        ·subst e
         omega
        ·exact hs1 c (by omega)
       ·intro h
        have := h b (by omega)
        omega)
      rw [hnow] at hE
      refine ⟨z, hz, Ev.step (fun k => by simp only [cubbyref11_In.l1]; rw [zC (by omega)]) (Ev.bind ha ?_)⟩
      exact Ev.congr (fun k => by rw [zC trivial, zC (by omega), zC (by rw [List.length_map]; omega), zC (by rw [hl2]; omega), rdL_map (by omega) (by omega), hlen, hlen, Int.toNat_natCast, wrap_nat (by omega)]) hE
   obtain ⟨z, hz, hE⟩ := row bs.length 0 true (by omega) ⟨fun _ c hc => by omega, fun _ => rfl⟩
   refine ⟨z, hz, Ev.step (fun k => ?_) hE⟩
   simp only [cubbyref11_In.l0]
   have e1 : ((bs.length : Int) * (R : Int)) = ((bs.length * R : Nat) : Int) := by simp
   rw [e1, wrap_id (i := ((bs.length * R : Nat) : Int)) (by omega) (by omega), wrap_id (by omega) (by omega), zC (by omega)]
   rfl
 obtain ⟨z, hz, hE⟩ := main (bs.length * R + 1) (List.replicate bs.length 0) 0 on_zero (Nat.zero_le _) (by omega)
 rw [← map_toL_zero] at hE
 exact ⟨z, hz, hE⟩
end

theorem ok_regs {nm : ByteArray} {pp : Int} {R : Nat} {bs : List (List SIns)} (F : FuncOk nm pp (R : Int) bs) : ∀ b ∈ bs, ∀ x ∈ b, RegsOk R x := by
 intro b hb x hx
 have hR := F.shape.2.2.2.1
 obtain ⟨j, hj, rfl⟩ := List.mem_iff_getElem.1 hx
 have I := F.ins b hb j hj
 refine ⟨by omega, I.use, ?_⟩
 unfold defOf
 split
 ·next h =>
  have := I.def_ h
  omega
 ·omega
theorem regs_nat {nm : ByteArray} {pp rg : Int} {bs : List (List SIns)} (F : FuncOk nm pp rg bs) : ∃ R : Nat, rg = R := by
 have h0 := F.shape.1
 have h1 := F.shape.2.2.1
 exact ⟨rg.toNat, by omega⟩
theorem total_le {bs : List (List SIns)} : ∀ b ∈ bs, b.length ≤ total bs := by
 induction bs with
 | nil => simp
 | cons c bs ih =>
  intro b hb
  unfold total
  rcases List.mem_cons.1 hb with rfl | hb
  ·omega
  ·have := ih b hb
   omega
theorem ok_blocks {nm : ByteArray} {pp : Int} {R : Nat} {bs : List (List SIns)} (F : FuncOk nm pp (R : Int) bs) (hF : FairB bs) : BlocksOk R bs := by
 have h1 := F.shape
 exact ⟨by have := h1.2.2.2.1; omega, by have := h1.2.2.2.2.2.1; omega, fun b hb => by have := total_le b hb; have := F.tot; omega, ok_regs F, hF.ins⟩
section
variable (pn : ByteArray) (pp : Int) {R : Nat} {bs : List (List SIns)} (hF : FairB bs) (F : FuncOk pn pp (R : Int) bs) (hc : checkE pn pp (R : Int) bs = 0)
include hF F hc
theorem both : ∃ z, Sol R bs z ∧ Ev (fun k => live_sets.f k pn pp (R : Int) bs) (toI z) ∧ Ev (fun k => cubbyref11_In.f k pn pp (R : Int) bs) (z.map (toL R)) := by
 have O := ok_blocks F hF
 obtain ⟨z, hz, h1⟩ := sets_ev pn pp O
 obtain ⟨y, hy, h2⟩ := refin_ev pn pp O
 obtain rfl := hz.one hy
 refine ⟨z, hz, h1, ?_⟩
 have h3 := refcheck_ev pn pp (R : Int) bs hF
 rw [hc] at h3
 have hbl := O.len
 refine Ev.bind h3 (Ev.congr (fun k => ?_) h2)
 rw [zC rfl, zC (by omega), zC (by omega), Int.toNat_natCast]
end
theorem Sol.lt {R : Nat} {bs : List (List SIns)} {z : List Nat} (h : Sol R bs z) (b : Nat) : at_ z b < 2 ^ R := h.on.lt b
theorem Sol.len {R : Nat} {bs : List (List SIns)} {z : List Nat} (h : Sol R bs z) : z.length = bs.length := h.on.len
theorem aheadN_lt {R : Nat} {bs : List (List SIns)} (O : BlocksOk R bs) {z : List Nat} (hz : Sol R bs z) {b i : Nat} (hb : b < bs.length) : aheadN bs z b i < 2 ^ R := by
 unfold aheadN
 refine foldr_lt _ _ (fun x hx => ?_) (or_lt bs hz.lt _)
 have hx := List.mem_of_mem_drop hx
 rw [getD_get hb] at hx
 exact O.regs _ (List.getElem_mem hb) x hx
theorem toL_low_of {R s p : Nat} (hs : s < 2 ^ R) : s / 2 ^ p = 0 ↔ ∀ n ∈ toL R s, n < p := by
 rw [Nat.div_eq_zero_iff_lt (Nat.pos_of_ne_zero (by simp))]
 constructor
 ·intro h n hn
  obtain ⟨r, rfl, hr, hb⟩ := toL_nat hn
  apply Decidable.byContradiction
  intro hp
  have : s.testBit r = false := Nat.testBit_lt_two_pow (Nat.lt_of_lt_of_le h (Nat.pow_le_pow_right (by omega) (by omega)))
  rw [this] at hb
  exact absurd hb (by simp)
 ·intro h
  apply Nat.lt_pow_two_of_testBit
  intro i hi
  cases hb : s.testBit i
  ·rfl
  ·have hiR : i < R := by
    apply Decidable.byContradiction
    intro hp
    have : s.testBit i = false := Nat.testBit_lt_two_pow (Nat.lt_of_lt_of_le hs (Nat.pow_le_pow_right (by omega) (by omega)))
    rw [this] at hb
    exact absurd hb (by simp)
   have := h i (mem_toL.2 ⟨hiR, hb⟩)
   omega
theorem checks (pn : ByteArray) {pp : Int} {R : Nat} {bs : List (List SIns)} (hF : FairB bs) (F : FuncOk pn pp (R : Int) bs) (hc : checkE pn pp (R : Int) bs = 0) {z : List Nat} (hz : Sol R bs z)
 (h1 : Ev (fun k => live_sets.f k pn pp (R : Int) bs) (toI z)) (h2 : Ev (fun k => cubbyref11_In.f k pn pp (R : Int) bs) (z.map (toL R))) :
 Ev (fun k => live_Check.f k pn pp (R : Int) bs) (if at_ z 0 / 2 ^ pp.toNat = 0 then 0 else 110) ∧ Ev (fun k => cubbyref11_Check.f k pn pp (R : Int) bs) (if at_ z 0 / 2 ^ pp.toNat = 0 then 0 else 110) := by
 have O := ok_blocks F hF
 have hR := O.le
 have hS := F.shape
 have hp0 := hS.1
 have hp1 := hS.2.1
 have hb0 := hS.2.2.2.2.1
 have hzl := hz.len
 constructor
 ·have h3 := check_ev pn pp (R : Int) bs hF
  rw [hc] at h3
  refine Ev.bind h3 (Ev.congr (fun k => by rw [zC rfl]) (Ev.bind h1 ?_))
  have e1 : IntKind.u64.wrap pp = pp := by
   rw [IntKind.wrap_u64]
   omega
  have e2 : shr .u64 (rd (toI z) 0) pp = ((at_ z 0 / 2 ^ pp.toNat : Nat) : Int) := by
   unfold shr
   rw [rd_toI, show IntKind.u64.bits = 64 from rfl, Nat.min_eq_left (by omega)]
   rw [show ((2 : Int) ^ pp.toNat) = ((2 ^ pp.toNat : Nat) : Int) by simp]
   rw [Int.toNat_zero]
   exact (Int.natCast_ediv _ _).symm
  by_cases c : at_ z 0 / 2 ^ pp.toNat = 0
  ·rw [zC c]
   exact Ev.congr (f := fun _ => some 0) (fun k => by rw [zC (by rw [toI_len]; omega), e1, zC hp0, e2, zC (by omega)]) (Ev.now _)
  ·rw [zD c]
   exact Ev.congr (f := fun _ => some 110) (fun k => by rw [zC (by rw [toI_len]; omega), e1, zC hp0, e2, zD (by omega)]) (Ev.now _)
 ·have h3 := refcheck_ev pn pp (R : Int) bs hF
  rw [hc] at h3
  refine Ev.bind h3 (Ev.congr (fun k => by rw [zC rfl]) (Ev.bind h2 ?_))
  have hlen := toL_len R (at_ z 0)
  have hlow := toL_low_of (R := R) (p := pp.toNat) (hz.lt 0)
  refine Ev.congr (f := fun k => cubbyref11_Check.l0 k (toL R (at_ z 0)) ((0 : Nat) : Int) pn pp (R : Int) bs) (fun k => by rw [zC (by rw [List.length_map]; omega), rdL_map (by omega) (by omega)]; rfl) ?_
  refine seek (fun k i => cubbyref11_Check.l0 k (toL R (at_ z 0)) (i : Int) pn pp (R : Int) bs) (toL R (at_ z 0)).length (fun i => rd (toL R (at_ z 0)) (i : Int) ≥ pp) 110 _ ?_ ?_ ?_ ?_
  ·intro i hi hb
   exact Ev.step (f := fun _ => some 110) (fun k => by simp only [cubbyref11_Check.l0]; rw [zC (by omega), zC (by omega), zC hb]) (Ev.now _)
  ·intro i hi hb r' hE
   exact Ev.step (fun k => by simp only [cubbyref11_Check.l0]; rw [zC (by omega), zC (by omega), zD hb, wrap_nat (by omega)]) hE
  ·rintro ⟨i, hi, hb⟩
   rw [rd_get hi] at hb
   rw [zD]
   intro h
   have := hlow.1 h _ (List.getElem_mem hi)
   omega
  ·intro h
   rw [zC (hlow.2 fun n hn => by
    obtain ⟨i, hi, e⟩ := List.mem_iff_getElem.1 hn
    have := h i hi
    rw [rd_get hi, e] at this
    omega)]
   exact Ev.step (f := fun _ => some 0) (fun k => by simp only [cubbyref11_Check.l0]; rw [zD (by omega)]) (Ev.now _)
end Go.Proofs.YtpkimbkjjmbmcaaDoor.PlainLive
namespace Go.Proofs.YtpkimbkjjmbmcaaDoor.Dfs
open Go.Proofs.YtpkimbkjjmbmcaaDoor.Plain
set_option linter.unusedVariables false
set_option linter.unusedSimpArgs false
def dfs (g : Int → List Int) : Nat → Int → List Int × List Int → List Int × List Int
 | 0, _, s => s
 | d + 1, i, s => (((g i).foldl (fun s k => if k ∈ s.1 then s else dfs g d k s) (s.1 ++ [i], s.2)).1, i :: ((g i).foldl (fun s k => if k ∈ s.1 then s else dfs g d k s) (s.1 ++ [i], s.2)).2)
def stepS (g : Int → List Int) (d : Nat) (s : List Int × List Int) (k : Int) : List Int × List Int := if k ∈ s.1 then s else dfs g d k s
theorem dfs_succ (g : Int → List Int) (d : Nat) (i : Int) (s : List Int × List Int) : dfs g (d + 1) i s = (((g i).foldl (stepS g d) (s.1 ++ [i], s.2)).1, i :: ((g i).foldl (stepS g d) (s.1 ++ [i], s.2)).2) := rfl
def unmet (n : Nat) (met : List Int) : Nat := ((List.range n).filter (fun (v : Nat) => decide ((v : Int) ∉ met))).length
theorem filter_len_le {α : Type} (p q : α → Bool) : ∀ l : List α, (∀ x ∈ l, p x = true → q x = true) → (l.filter p).length ≤ (l.filter q).length
 | [], _ => Nat.le_refl _
 | a :: l, h => by
  have ih := filter_len_le p q l (fun x hx => h x (List.mem_cons_of_mem _ hx))
  have ha := h a List.mem_cons_self
  simp only [List.filter_cons]
  cases hp : p a <;> cases hq : q a <;> simp_all <;> omega
theorem filter_len_lt {α : Type} (p q : α → Bool) (y : α) : ∀ l : List α, (∀ x ∈ l, p x = true → q x = true) → y ∈ l → p y = false → q y = true → (l.filter p).length < (l.filter q).length
 | a :: l, h, hy, h1, h2 => by
  have hl := fun x hx => h x (List.mem_cons_of_mem a hx)
  have ih := filter_len_le p q l hl
  have ha := h a List.mem_cons_self
  simp only [List.filter_cons]
  rcases List.mem_cons.1 hy with rfl | hy
  ·simp [h1, h2]
   omega
  ·have := filter_len_lt p q y l hl hy h1 h2
   cases hp : p a <;> cases hq : q a <;> simp_all <;> omega
theorem unmet_le {n : Nat} {met met' : List Int} (h : ∀ v ∈ met, v ∈ met') : unmet n met' ≤ unmet n met := by
 refine filter_len_le _ _ _ (fun x _ hp => ?_)
 simp only [decide_eq_true_eq] at *
 exact fun hx => hp (h _ hx)
theorem unmet_lt {n : Nat} {met : List Int} {i : Int} (h0 : 0 ≤ i) (h1 : i < n) (hi : i ∉ met) : unmet n (met ++ [i]) < unmet n met := by
 refine filter_len_lt _ _ i.toNat _ (fun x _ hp => ?_) (by simp; omega) ?_ ?_
 ·simp only [decide_eq_true_eq] at *
  exact fun hx => hp (List.mem_append_left _ hx)
 ·have : ((i.toNat : Nat) : Int) = i := by omega
  simp [this]
 ·have : ((i.toNat : Nat) : Int) = i := by omega
  simp [this, hi]
theorem unmet_nil (n : Nat) : unmet n [] = n := by
 unfold unmet
 rw [List.filter_eq_self.2 (by simp)]
 simp
theorem unmet_pos {n : Nat} {met : List Int} {i : Int} (h0 : 0 ≤ i) (h1 : i < n) (hi : i ∉ met) : 0 < unmet n met := by
 have := unmet_lt h0 h1 hi
 omega
inductive From (g : Int → List Int) (i : Int) : Int → Prop
 | here : From g i i
 | there {v k : Int} : From g i v → k ∈ g v → From g i k
theorem From.trans {g : Int → List Int} {i j k : Int} (h : From g i j) (h' : From g j k) : From g i k := by
 induction h' with
 | here => exact h
 | there _ hk ih => exact .there ih hk
theorem snoc_nodup {met : List Int} {i : Int} (h : met.Nodup) (hi : i ∉ met) : (met ++ [i]).Nodup := by
 rw [List.nodup_append]
 exact ⟨h, by simp, fun a ha b hb => by rw [List.mem_singleton.1 hb]; exact fun e => hi (e ▸ ha)⟩
structure Inv (n : Nat) (met put : List Int) : Prop where
 rng : ∀ v ∈ met, 0 ≤ v ∧ v < n
 sub : ∀ v ∈ put, v ∈ met
 nod : put.Nodup
 mnod : met.Nodup
structure Good (g : Int → List Int) (n : Nat) (l met put met' put' : List Int) : Prop where
 inv : Inv n met' put'
 keep : ∀ v ∈ met, v ∈ met'
 mem : ∀ k ∈ l, k ∈ met'
 closed : ∀ v ∈ met', v ∉ met → ∀ k ∈ g v, k ∈ met'
 reach : ∀ v ∈ met', v ∉ met → ∃ k ∈ l, From g k v
 puts : ∀ v, v ∈ put' ↔ v ∈ put ∨ (v ∈ met' ∧ v ∉ met)
theorem fold_good {g : Int → List Int} {n d : Nat} (H : ∀ (i : Int) (met put : List Int), 0 ≤ i → i < n → i ∉ met → unmet n met ≤ d → Inv n met put → Good g n [i] met put (dfs g d i (met, put)).1 (dfs g d i (met, put)).2) :
 ∀ (l met put : List Int), (∀ k ∈ l, 0 ≤ k ∧ k < n) → unmet n met ≤ d → Inv n met put → Good g n l met put (l.foldl (stepS g d) (met, put)).1 (l.foldl (stepS g d) (met, put)).2
 | [], met, put, _, _, hv => ⟨hv, fun _ h => h, by simp, fun v h h' => absurd h h', fun v h h' => absurd h h', fun v => ⟨.inl, fun h => h.elim id (fun h => absurd h.1 h.2)⟩⟩
 | k :: l, met, put, hl, hu, hv => by
  have hl' := fun q hq => hl q (List.mem_cons_of_mem k hq)
  obtain ⟨k0, k1⟩ := hl k List.mem_cons_self
  simp only [List.foldl_cons]
  by_cases hk : k ∈ met
  ·have e : stepS g d (met, put) k = (met, put) := by unfold stepS; rw [zC hk]
   rw [e]
   have ih := fold_good H l met put hl' hu hv
   refine ⟨ih.inv, ih.keep, fun q hq => ?_, ih.closed, fun v h h' => ?_, ih.puts⟩
   ·rcases List.mem_cons.1 hq with rfl | hq
    ·exact ih.keep _ hk
    ·exact ih.mem q hq
   ·obtain ⟨q, hq, hf⟩ := ih.reach v h h'
    exact ⟨q, List.mem_cons_of_mem _ hq, hf⟩
  ·have e : stepS g d (met, put) k = dfs g d k (met, put) := by unfold stepS; rw [zD hk]
   rw [e]
   have h1 := H k met put k0 k1 hk hu hv
   generalize dfs g d k (met, put) = s1 at h1
   obtain ⟨m1, p1⟩ := s1
   have ih := fold_good H l m1 p1 hl' (Nat.le_trans (unmet_le h1.keep) hu) h1.inv
   generalize l.foldl (stepS g d) (m1, p1) = s2 at ih
   obtain ⟨m2, p2⟩ := s2
   simp only at h1 ih ⊢
   refine ⟨ih.inv, fun v h => ih.keep v (h1.keep v h), fun q hq => ?_, fun v h h' => ?_, fun v h h' => ?_, fun v => ?_⟩
   ·rcases List.mem_cons.1 hq with rfl | hq
    ·exact ih.keep _ (h1.mem _ List.mem_cons_self)
    ·exact ih.mem q hq
   ·by_cases hm : v ∈ m1
    ·exact fun q hq => ih.keep q (h1.closed v hm h' q hq)
    ·exact ih.closed v h hm
   ·by_cases hm : v ∈ m1
    ·obtain ⟨q, hq, hf⟩ := h1.reach v hm h'
     rw [List.mem_singleton.1 hq] at hf
     exact ⟨k, List.mem_cons_self, hf⟩
    ·obtain ⟨q, hq, hf⟩ := ih.reach v h hm
     exact ⟨q, List.mem_cons_of_mem _ hq, hf⟩
   ·rw [ih.puts v, h1.puts v]
    constructor
    ·rintro ((h | ⟨h, h'⟩) | ⟨h, h'⟩)
     ·exact .inl h
     ·exact .inr ⟨ih.keep v h, h'⟩
     ·exact .inr ⟨h, fun hm => h' (h1.keep v hm)⟩
    ·rintro (h | ⟨h, h'⟩)
     ·exact .inl (.inl h)
     ·by_cases hm : v ∈ m1
      ·exact .inl (.inr ⟨hm, h'⟩)
      ·exact .inr ⟨h, hm⟩
theorem dfs_good {g : Int → List Int} {n : Nat} (hg : ∀ i, ∀ k ∈ g i, 0 ≤ k ∧ k < n) : ∀ (d : Nat) (i : Int) (met put : List Int), 0 ≤ i → i < n → i ∉ met → unmet n met ≤ d → Inv n met put →
 Good g n [i] met put (dfs g d i (met, put)).1 (dfs g d i (met, put)).2 := by
 intro d
 induction d with
 | zero =>
  intro i met put h0 h1 hi hu _
  have := unmet_pos h0 h1 hi
  omega
 | succ d ih =>
  intro i met put h0 h1 hi hu hv
  rw [dfs_succ]
  have hu' : unmet n (met ++ [i]) ≤ d := by have := unmet_lt h0 h1 hi; omega
  have hv' : Inv n (met ++ [i]) put := ⟨fun v h => by
   rcases List.mem_append.1 h with h | h
   ·exact hv.rng v h
   ·rw [List.mem_singleton.1 h]; exact ⟨h0, h1⟩, fun v h => List.mem_append_left _ (hv.sub v h), hv.nod, snoc_nodup hv.mnod hi⟩
  have hf := fold_good ih (g i) (met ++ [i]) put (hg i) hu' hv'
  simp only
  generalize (g i).foldl (stepS g d) (met ++ [i], put) = s at hf
  obtain ⟨m, p⟩ := s
  simp only at hf ⊢
  have him : i ∈ m := hf.keep i (by simp)
  have hip : i ∉ p := by
   rw [hf.puts i]
   rintro (h | ⟨_, h⟩)
   ·exact hi (hv.sub i h)
   ·exact h (by simp)
  refine ⟨⟨hf.inv.rng, fun v h => ?_, List.nodup_cons.2 ⟨hip, hf.inv.nod⟩, hf.inv.mnod⟩, fun v h => hf.keep v (List.mem_append_left _ h), fun k hk => ?_, fun v h h' => ?_, fun v h h' => ?_, fun v => ?_⟩
  ·rcases List.mem_cons.1 h with rfl | h
   ·exact him
   ·exact hf.inv.sub v h
  ·rw [List.mem_singleton.1 hk]; exact him
  ·by_cases e : v = i
   ·subst e
    exact fun k hk => hf.mem k hk
   ·exact hf.closed v h (by simp [h', e])
  ·by_cases e : v = i
   ·subst e
    exact ⟨v, List.mem_singleton.2 rfl, .here⟩
   ·obtain ⟨k, hk, hf'⟩ := hf.reach v h (by simp [h', e])
    exact ⟨i, List.mem_singleton.2 rfl, From.trans (.there .here hk) hf'⟩
  ·rw [List.mem_cons, hf.puts v]
   constructor
   ·rintro (rfl | h | ⟨h, h'⟩)
    ·exact .inr ⟨him, hi⟩
    ·exact .inl h
    ·exact .inr ⟨h, fun hm => h' (List.mem_append_left _ hm)⟩
   ·rintro (h | ⟨h, h'⟩)
    ·exact .inr (.inl h)
    ·by_cases e : v = i
     ·exact .inl e
     ·exact .inr (.inr ⟨h, by simp [h', e]⟩)
theorem Inv.snoc {n : Nat} {met put : List Int} {i : Int} (hv : Inv n met put) (h0 : 0 ≤ i) (h1 : i < n) (hi : i ∉ met) : Inv n (met ++ [i]) put :=
 ⟨fun v h => by
  rcases List.mem_append.1 h with h | h
  ·exact hv.rng v h
  ·rw [List.mem_singleton.1 h]; exact ⟨h0, h1⟩, fun v h => List.mem_append_left _ (hv.sub v h), hv.nod, snoc_nodup hv.mnod hi⟩
def order (g : Int → List Int) (n : Nat) : List Int := if n = 0 then [] else (dfs g n 0 ([], [])).2
section
variable {g : Int → List Int} {n : Nat} (hg : ∀ i, ∀ k ∈ g i, 0 ≤ k ∧ k < n)
include hg
theorem good0 (hn : 0 < n) : Good g n [0] [] [] (dfs g n 0 ([], [])).1 (dfs g n 0 ([], [])).2 :=
 dfs_good hg n 0 [] [] (by omega) (by omega) (by simp) (by rw [unmet_nil]; exact Nat.le_refl _) ⟨by simp, by simp, List.nodup_nil, List.nodup_nil⟩
theorem order_nodup : (order g n).Nodup := by
 unfold order
 split
 ·exact List.nodup_nil
 ·exact (good0 hg (by omega)).inv.nod
theorem order_rng (v : Int) (hv : v ∈ order g n) : 0 ≤ v ∧ v < n := by
 unfold order at hv
 split at hv
 ·simp at hv
 ·have h := good0 hg (n := n) (by omega)
  exact h.inv.rng v (h.inv.sub v hv)
omit hg in
end
theorem nodup_len {n : Nat} : ∀ {l : List Int}, l.Nodup → (∀ v ∈ l, 0 ≤ v ∧ v < n) → l.length ≤ n := by
 have key : ∀ (m : Nat) (l : List Int), l.Nodup → (∀ v ∈ l, 0 ≤ v ∧ v < m) → l.length ≤ m := by
  intro m
  induction m with
  | zero =>
   intro l _ h
   cases l with
   | nil => exact Nat.le_refl _
   | cons a l => have := h a List.mem_cons_self; omega
  | succ m ih =>
   intro l hd h
   have h1 : (l.erase (m : Int)).length ≤ m := ih _ (hd.erase _) (fun v hv => by
    have hv' := (List.Nodup.mem_erase_iff hd).1 hv
    have := h v hv'.2
    have hne := hv'.1
    omega)
   have h2 : l.length ≤ (l.erase (m : Int)).length + 1 := by
    rw [List.length_erase]
    split <;> omega
   omega
 intro l hd h
 exact key n _ hd h
theorem Inv.len {n : Nat} {met put : List Int} (h : Inv n met put) : put.length ≤ n := nodup_len h.nod (fun v hv => h.rng v (h.sub v hv))
theorem Inv.mlen {n : Nat} {met put : List Int} (h : Inv n met put) : met.length ≤ n := nodup_len h.mnod h.rng
def bitsOf (n : Nat) (met : List Int) : List Bool := (List.range n).map (fun (v : Nat) => decide ((v : Int) ∈ met))
theorem bits_len (n : Nat) (met : List Int) : (bitsOf n met).length = n := by simp [bitsOf]
theorem bits_get {n : Nat} {met : List Int} {i : Nat} (h : i < n) : (bitsOf n met)[i]? = some (decide ((i : Int) ∈ met)) := by simp [bitsOf, h]
theorem bits_nil (n : Nat) : bitsOf n [] = List.replicate n false := by
 apply List.ext_getElem?
 intro i
 by_cases h : i < n
 ·rw [bits_get h, List.getElem?_replicate, zC h]
  simp
 ·rw [List.getElem?_eq_none (by simp [bitsOf]; omega), List.getElem?_eq_none (by simp; omega)]
theorem bits_set {n : Nat} {met : List Int} {i : Int} (h0 : 0 ≤ i) (h1 : i < n) : (bitsOf n met).set i.toNat true = bitsOf n (met ++ [i]) := by
 apply List.ext_getElem?
 intro j
 by_cases h : j < n
 ·rw [List.getElem?_set, bits_get h, bits_get h]
  by_cases e : i.toNat = j
  ·rw [zC e, zC (by rw [bits_len]; omega)]
   have : (j : Int) = i := by omega
   simp [this]
  ·rw [zD e]
   have : (j : Int) ≠ i := by omega
   simp [this]
 ·rw [List.getElem?_eq_none (by simp [bits_len]; omega), List.getElem?_eq_none (by simp [bits_len]; omega)]
end Go.Proofs.YtpkimbkjjmbmcaaDoor.Dfs
namespace Go.Proofs.YtpkimbkjjmbmcaaDoor.PlainOrder
open Go Go.RowKit Go.Proofs.YtpkimbkjjmbmcaaDoorW.PrintWords Go.Proofs.YtpkimbkjjmbmcaaDoorW.PrintMore Go.Proofs.YtpkimbkjjmbmcaaDoor.Q Go.Proofs.YtpkimbkjjmbmcaaDoor.Plain Go.Proofs.YtpkimbkjjmbmcaaDoor.PlainSuccs Go.Proofs.YtpkimbkjjmbmcaaDoor.Dfs
set_option linter.unusedVariables false
set_option linter.unusedSimpArgs false
theorem rng {x : List (List SIns)} : ∀ i, ∀ k ∈ succs x i, 0 ≤ k ∧ k < ((x.length : Nat) : Int) := fun i k hk => succs_mem x i k hk
section
variable {x : List (List SIns)} (hx : x.length ≤ 1000000)
include hx
theorem ref_fold {d : Nat} (H : ∀ (i : Int) (met put : List Int), 0 ≤ i → i < x.length → i ∉ met → unmet x.length met ≤ d → Inv x.length met put → Ev (fun k => cubbyref09_visit.f k x i met put) (dfs (succs x) d i (met, put))) (i : Int) (l : List Int) (hl : l.length ≤ 1000) (hlr : ∀ k ∈ l, 0 ≤ k ∧ k < x.length) :
 ∀ (q j : Nat) (met put : List Int), l.length - j = q → j ≤ l.length → unmet x.length met ≤ d → Inv x.length met put →
 Ev (fun k => cubbyref09_visit.l0 k x i met put l (j : Int)) (((l.drop j).foldl (stepS (succs x) d) (met, put)).1, i :: ((l.drop j).foldl (stepS (succs x) d) (met, put)).2) := by
 intro q
 induction q with
 | zero =>
  intro j met put hq hj hu hv
  rw [List.drop_eq_nil_of_le (by omega)]
  refine Ev.step (f := fun _ => some (met, i :: put)) (fun k => ?_) (Ev.now _)
  have := hv.len
  simp only [cubbyref09_visit.l0]
  rw [zD (by omega), zJ, zC (by simp; omega)]
  rfl
 | succ q ih =>
  intro j met put hq hj hu hv
  have hm := hv.mlen
  have hlt : j < l.length := by omega
  obtain ⟨k0, k1⟩ := hlr l[j] (List.getElem_mem hlt)
  rw [drop_cons hlt, List.foldl_cons]
  have hh := has_ev met l[j] (by omega)
  have st : ∀ k, cubbyref09_visit.l0 (k + 1) x i met put l (j : Int) = (cubbyref09_has.f k met l[j]).bind fun t => if t = true then cubbyref09_visit.l0 k x i met put l ((j + 1 : Nat) : Int) else (cubbyref09_visit.f k x l[j] met put).bind fun b => cubbyref09_visit.l0 k x i b.1 b.2 l ((j + 1 : Nat) : Int) := fun k => by
   simp only [cubbyref09_visit.l0]
   rw [zC (by omega), zC (by omega), rd_get hlt, wrap_nat (by omega)]
  by_cases hk : l[j] ∈ met
  ·have e : stepS (succs x) d (met, put) l[j] = (met, put) := by unfold stepS; rw [zC hk]
   rw [e]
   refine Ev.step st (Ev.bind hh ?_)
   simp only [hk, decide_true, if_true]
   exact ih (j + 1) met put (by omega) (by omega) hu hv
  ·have e : stepS (succs x) d (met, put) l[j] = dfs (succs x) d l[j] (met, put) := by unfold stepS; rw [zD hk]
   rw [e]
   have hg := dfs_good rng d l[j] met put k0 k1 hk hu hv
   refine Ev.step st (Ev.bind hh ?_)
   simp only [hk, decide_false, Bool.false_eq_true, if_false]
   exact Ev.bind (H l[j] met put k0 k1 hk hu hv) (ih (j + 1) (dfs (succs x) d l[j] (met, put)).1 (dfs (succs x) d l[j] (met, put)).2 (by omega) (by omega) (Nat.le_trans (unmet_le hg.keep) hu) hg.inv)
theorem ref_visit (hs : Small x) : ∀ (d : Nat) (i : Int) (met put : List Int), 0 ≤ i → i < x.length → i ∉ met → unmet x.length met ≤ d → Inv x.length met put →
 Ev (fun k => cubbyref09_visit.f k x i met put) (dfs (succs x) d i (met, put)) := by
 intro d
 induction d with
 | zero =>
  intro i met put h0 h1 hi hu _
  have := unmet_pos h0 h1 hi
  omega
 | succ d ih =>
  intro i met put h0 h1 hi hu hv
  have hu' : unmet x.length (met ++ [i]) ≤ d := by have := unmet_lt h0 h1 hi; omega
  have hv' := hv.snoc h0 h1 hi
  have hm := hv'.mlen
  have hl := succs_len x i
  have h2 := ref_fold hx ih i (succs x i) (by omega) (succs_mem x i) _ 0 (met ++ [i]) put rfl (by omega) hu' hv'
  rw [List.drop_zero] at h2
  rw [dfs_succ]
  rw [List.length_append, List.length_singleton] at hm
  refine Ev.step (f := fun k => (cubbyref09_Succs.f k x i).bind fun t => cubbyref09_visit.l0 k x i (met ++ [i]) put t 0) (fun k => ?_) (Ev.bind (refsuccs_ev x i hs) h2)
  simp only [cubbyref09_visit.f, zJ, List.nil_append]
  rw [zC (by simp; omega), zC (by omega)]
theorem reforder_ev (hs : Small x) : Ev (fun k => cubbyref09_Order.f k x) (order (succs x) x.length) := by
 by_cases h : x.length = 0
 ·refine Ev.congr (f := fun _ => some []) (fun k => by unfold cubbyref09_Order.f; rw [zC (by omega)]) ?_
  unfold order
  rw [zC h]
  exact Ev.now _
 ·refine Ev.congr (f := fun k => (cubbyref09_visit.f k x 0 [] []).bind fun b => some b.2) (fun k => by unfold cubbyref09_Order.f; rw [zD (by omega)]) ?_
  refine Ev.bind (ref_visit hx hs x.length 0 [] [] (by omega) (by omega) (by simp) (by rw [unmet_nil]; exact Nat.le_refl _) ⟨by simp, by simp, List.nodup_nil, List.nodup_nil⟩) ?_
  unfold order
  rw [zD h]
  exact Ev.now _
omit hx in
theorem rdOf_bits {n : Nat} {met : List Int} {i : Int} (h0 : 0 ≤ i) (h1 : i < n) : rdOf false (bitsOf n met) i = decide (i ∈ met) := by
 show (bitsOf n met).getD i.toNat false = _
 rw [List.getD_eq_getElem?_getD, bits_get (by omega)]
 have : ((i.toNat : Nat) : Int) = i := by omega
 simp [this]
theorem own_fold {d : Nat} (H : ∀ (i : Int) (met put : List Int), 0 ≤ i → i < x.length → i ∉ met → unmet x.length met ≤ d → Inv x.length met put → Ev (fun k => flow_Order_1.f k x i (bitsOf x.length met) put.reverse) (bitsOf x.length (dfs (succs x) d i (met, put)).1, (dfs (succs x) d i (met, put)).2.reverse)) (i : Int) (l : List Int) (hl : l.length ≤ 1000) (hlr : ∀ k ∈ l, 0 ≤ k ∧ k < x.length) :
 ∀ (q j : Nat) (met put : List Int), l.length - j = q → j ≤ l.length → unmet x.length met ≤ d → Inv x.length met put →
 Ev (fun k => flow_Order_1.l0 k x i (bitsOf x.length met) put.reverse l (j : Int)) (bitsOf x.length ((l.drop j).foldl (stepS (succs x) d) (met, put)).1, ((l.drop j).foldl (stepS (succs x) d) (met, put)).2.reverse ++ [i]) := by
 intro q
 induction q with
 | zero =>
  intro j met put hq hj hu hv
  rw [List.drop_eq_nil_of_le (by omega)]
  refine Ev.step (f := fun _ => some (bitsOf x.length met, put.reverse ++ [i])) (fun k => ?_) (Ev.now _)
  have := hv.len
  simp only [flow_Order_1.l0]
  rw [zD (by omega), zC (by simp; omega)]
 | succ q ih =>
  intro j met put hq hj hu hv
  have hm := hv.mlen
  have hlt : j < l.length := by omega
  obtain ⟨k0, k1⟩ := hlr l[j] (List.getElem_mem hlt)
  rw [drop_cons hlt, List.foldl_cons]
  have st : ∀ k, flow_Order_1.l0 (k + 1) x i (bitsOf x.length met) put.reverse l (j : Int) = if decide (l[j] ∈ met) = true then flow_Order_1.l0 k x i (bitsOf x.length met) put.reverse l ((j + 1 : Nat) : Int) else (flow_Order_1.f k x l[j] (bitsOf x.length met) put.reverse).bind fun b => flow_Order_1.l0 k x i b.1 b.2 l ((j + 1 : Nat) : Int) := fun k => by
   simp only [flow_Order_1.l0]
   rw [zC (by omega), zC (by omega), rd_get hlt, zC k0, zC (by rw [bits_len]; omega), rdOf_bits k0 (by omega), wrap_nat (by omega)]
  by_cases hk : l[j] ∈ met
  ·have e : stepS (succs x) d (met, put) l[j] = (met, put) := by unfold stepS; rw [zC hk]
   rw [e]
   refine Ev.step st ?_
   simp only [hk, decide_true, if_true]
   exact ih (j + 1) met put (by omega) (by omega) hu hv
  ·have e : stepS (succs x) d (met, put) l[j] = dfs (succs x) d l[j] (met, put) := by unfold stepS; rw [zD hk]
   rw [e]
   have hg := dfs_good rng d l[j] met put k0 k1 hk hu hv
   refine Ev.step st ?_
   simp only [hk, decide_false, Bool.false_eq_true, if_false]
   exact Ev.bind (H l[j] met put k0 k1 hk hu hv) (ih (j + 1) (dfs (succs x) d l[j] (met, put)).1 (dfs (succs x) d l[j] (met, put)).2 (by omega) (by omega) (Nat.le_trans (unmet_le hg.keep) hu) hg.inv)
theorem own_visit (hs : Small x) : ∀ (d : Nat) (i : Int) (met put : List Int), 0 ≤ i → i < x.length → i ∉ met → unmet x.length met ≤ d → Inv x.length met put →
 Ev (fun k => flow_Order_1.f k x i (bitsOf x.length met) put.reverse) (bitsOf x.length (dfs (succs x) d i (met, put)).1, (dfs (succs x) d i (met, put)).2.reverse) := by
 intro d
 induction d with
 | zero =>
  intro i met put h0 h1 hi hu _
  have := unmet_pos h0 h1 hi
  omega
 | succ d ih =>
  intro i met put h0 h1 hi hu hv
  have hu' : unmet x.length (met ++ [i]) ≤ d := by have := unmet_lt h0 h1 hi; omega
  have hv' := hv.snoc h0 h1 hi
  have hl := succs_len x i
  have h2 := own_fold hx ih i (succs x i) (by omega) (succs_mem x i) _ 0 (met ++ [i]) put rfl (by omega) hu' hv'
  rw [List.drop_zero] at h2
  rw [dfs_succ]
  simp only [List.reverse_cons]
  refine Ev.step (f := fun k => (flow_Succs.f k x i).bind fun t => flow_Order_1.l0 k x i (bitsOf x.length (met ++ [i])) put.reverse t 0) (fun k => ?_) (Ev.bind (succs_ev x i hs) h2)
  simp only [flow_Order_1.f]
  rw [zC h0, zC (by rw [bits_len]; omega), bits_set h0 h1]
end
theorem swap_get {l : List Int} {a b : Nat} (ha : a < l.length) (hb : b < l.length) (i : Nat) : ((l.set a l[b]).set b l[a])[i]? = if i = b then some l[a] else if i = a then some l[b] else l[i]? := by
 rw [List.getElem?_set]
 by_cases h1 : b = i
 ·subst h1
  simp [hb]
 ·rw [zD h1, List.getElem?_set, zD (Ne.symm h1)]
  by_cases h2 : a = i
  ·subst h2
   simp [ha]
  ·rw [zD h2, zD (Ne.symm h2)]
theorem rev_loop (n : Nat) (l0 : List Int) (hn : l0.length = n) (hb : n ≤ 1000000000) : ∀ (d a : Nat) (l : List Int), n - 2 * a = d → l.length = n → 2 * a ≤ n + 1 →
 (∀ i, l[i]? = if i < a ∨ n - a ≤ i then l0.reverse[i]? else l0[i]?) → Ev (fun k => slices_Reverse_int_int.l0 k l (a : Int) ((n : Int) - 1 - a)) l0.reverse := by
 intro d
 induction d using Nat.strongRecOn with
 | _ d ih =>
  intro a l hd hl ha he
  by_cases h : (a : Int) < (n : Int) - 1 - a
  ·have h1 : a < l.length := by omega
   have h2 : n - 1 - a < l.length := by omega
   have e2 : ((n : Int) - 1 - a) = ((n - 1 - a : Nat) : Int) := by omega
   refine Ev.step (f := fun k => slices_Reverse_int_int.l0 k ((l.set a l[n - 1 - a]).set (n - 1 - a) l[a]) ((a + 1 : Nat) : Int) ((n : Int) - 1 - ((a + 1 : Nat) : Int))) (fun k => ?_) (ih (n - 2 * (a + 1)) (by omega) (a + 1) ((l.set a l[n - 1 - a]).set (n - 1 - a) l[a]) rfl (by rw [List.length_set, List.length_set]; exact hl) (by omega) (fun i => ?_))
   ·simp only [slices_Reverse_int_int.l0]
    rw [zC h, zC (by omega), zC (by omega), zC (by omega), zC (by omega), e2, rd_get h1, rd_get h2, wrap_nat (by omega), Int.toNat_natCast, Int.toNat_natCast]
    rw [show wrap64 (((n - 1 - a : Nat) : Int) - 1) = (n : Int) - 1 - ((a + 1 : Nat) : Int) from by rw [wrap_id (by omega) (by omega)]; omega]
   ·rw [swap_get h1 h2 i]
    have ea : l[a] = l0[a] := by
     have := he a
     rw [zD (by omega), List.getElem?_eq_getElem h1, List.getElem?_eq_getElem (by omega)] at this
     exact zI this
    have eb : l[n - 1 - a] = l0[n - 1 - a] := by
     have := he (n - 1 - a)
     rw [zD (by omega), List.getElem?_eq_getElem h2, List.getElem?_eq_getElem (by omega)] at this
     exact zI this
    by_cases hi : i = n - 1 - a
    ·subst hi
     rw [zC rfl, zC (by omega), List.getElem?_reverse (by omega), ea, List.getElem?_eq_getElem (by omega)]
     congr 2
     omega
    ·rw [zD hi]
     by_cases hi2 : i = a
     ·subst hi2
      rw [zC rfl, zC (by omega), List.getElem?_reverse (by omega), eb, List.getElem?_eq_getElem (by omega)]
      congr 2
      omega
     ·rw [zD hi2, he i]
      by_cases h3 : i < a ∨ n - a ≤ i
      ·rw [zC h3, zC (by omega)]
      ·rw [zD h3, zD (by omega)]
  ·refine Ev.step (f := fun _ => some l0.reverse) (fun k => ?_) (Ev.now _)
   simp only [slices_Reverse_int_int.l0]
   rw [zD h]
   congr 1
   apply List.ext_getElem?
   intro i
   rw [he i]
   split
   ·rfl
   ·rename_i h3
    have : i = a ∧ n = 2 * a + 1 := by omega
    obtain ⟨rfl, hn2⟩ := this
    rw [List.getElem?_reverse (by omega)]
    congr 1
    omega
theorem reverse_ev (l : List Int) (hb : l.length ≤ 1000000000) : Ev (fun k => slices_Reverse_int_int.f k l) l.reverse := by
 have := rev_loop l.length l rfl hb _ 0 l rfl rfl (by omega) (fun i => by
  split
  ·rename_i h
   rw [List.getElem?_eq_none (by omega), List.getElem?_eq_none (by simp; omega)]
  ·rfl)
 refine Ev.congr (f := fun k => slices_Reverse_int_int.l0 k l ((0 : Nat) : Int) ((l.length : Int) - 1 - ((0 : Nat) : Int))) (fun k => ?_) this
 unfold slices_Reverse_int_int.f
 rw [wrap_id (by omega) (by omega)]
 simp
theorem order_len (x : List (List SIns)) : (order (succs x) x.length).length ≤ x.length := nodup_len (order_nodup rng) (order_rng rng)
theorem order_ev {x : List (List SIns)} (hx : x.length ≤ 1000000) (hs : Small x) : Ev (fun k => flow_Order.f k x) (order (succs x) x.length) := by
 by_cases h : x.length = 0
 ·refine Ev.congr (f := fun _ => some []) (fun k => by unfold flow_Order.f; rw [zC (by omega)]) ?_
  unfold order
  rw [zC h]
  exact Ev.now _
 ·refine Ev.congr (f := fun k => (flow_Order_1.f k x 0 (bitsOf x.length []) ([] : List Int).reverse).bind fun b => slices_Reverse_int_int.f k b.2) (fun k => by unfold flow_Order.f; rw [zD (by omega), zC (by omega), bits_nil]; rfl) ?_
  refine Ev.bind (own_visit hx hs x.length 0 [] [] (by omega) (by omega) (by simp) (by rw [unmet_nil]; exact Nat.le_refl _) ⟨by simp, by simp, List.nodup_nil, List.nodup_nil⟩) ?_
  have hl := order_len x
  unfold order at hl ⊢
  rw [zD h] at hl ⊢
  have := reverse_ev (dfs (succs x) x.length 0 ([], [])).2.reverse (by simp; omega)
  rwa [List.reverse_reverse] at this
end Go.Proofs.YtpkimbkjjmbmcaaDoor.PlainOrder
namespace Go.Proofs.YtpkimbkjjmbmcaaDoor.PlainSpan
open Go Go.RowKit Go.Proofs.YtpkimbkjjmbmcaaDoorW.PrintWords Go.Proofs.YtpkimbkjjmbmcaaDoorW.PrintMore Go.Proofs.YtpkimbkjjmbmcaaDoor.Q Go.Proofs.YtpkimbkjjmbmcaaDoor.Plain Go.Proofs.YtpkimbkjjmbmcaaDoor.PlainIr Go.Proofs.YtpkimbkjjmbmcaaDoor.PlainName Go.Proofs.YtpkimbkjjmbmcaaDoor.PlainBits Go.Proofs.YtpkimbkjjmbmcaaDoor.PlainFix Go.Proofs.YtpkimbkjjmbmcaaDoor.PlainSuccs Go.Proofs.YtpkimbkjjmbmcaaDoor.PlainOne Go.Proofs.YtpkimbkjjmbmcaaDoor.PlainHeavy Go.Proofs.YtpkimbkjjmbmcaaDoor.PlainCheck Go.Proofs.YtpkimbkjjmbmcaaDoor.PlainLive Go.Proofs.YtpkimbkjjmbmcaaDoor.Dfs Go.Proofs.YtpkimbkjjmbmcaaDoor.PlainOrder
set_option linter.unusedVariables false
set_option linter.unusedSimpArgs false
structure Fit (pn : ByteArray) (pp : Int) (R : Nat) (bs : List (List SIns)) (z : List Nat) : Prop where
 fair : FairB bs
 check : checkE pn pp (R : Int) bs = 0
 ok : FuncOk pn pp (R : Int) bs
 sol : Sol R bs z
 low : at_ z 0 / 2 ^ pp.toNat = 0
 sets : Ev (fun k => live_sets.f k pn pp (R : Int) bs) (toI z)
 refin : Ev (fun k => cubbyref11_In.f k pn pp (R : Int) bs) (z.map (toL R))
 len : bs.length ≤ 8
 regs : R ≤ 24
 tot : total bs ≤ 60
theorem heavy12_loop (pn : ByteArray) (pp rg : Int) (bs : List (List SIns)) (hl : bs.length ≤ 8) (hr : ∀ b ∈ bs, b.length ≤ 1000000000000000) : ∀ (d j n : Nat), j + d = bs.length → n ≤ 1000000000000000 * j →
 Ev (fun k => cubbylaw12_heavy.l0 k (n : Int) (j : Int) pn pp rg bs) (decide (60 < n + total (bs.drop j))) := by
 intro d
 induction d with
 | zero =>
  intro j n hj hn
  rw [List.drop_eq_nil_of_le (by omega)]
  refine Ev.step (f := fun _ => some (decide (60 < n + total []))) (fun k => ?_) (Ev.now _)
  simp only [cubbylaw12_heavy.l0]
  rw [zD (by omega)]
  congr 1
  apply decide_eq_decide.2
  unfold total
  omega
 | succ d ih =>
  intro j n hj hn
  have hjl : j < bs.length := by omega
  have h1 := hr _ (List.getElem_mem hjl)
  rw [drop_cons hjl]
  have := ih (j + 1) (n + bs[j].length) (by omega) (by omega)
  have e : decide (60 < n + total (bs[j] :: bs.drop (j + 1))) = decide (60 < n + bs[j].length + total (bs.drop (j + 1))) := by
   apply decide_eq_decide.2
   simp only [total]
   omega
  rw [e]
  refine Ev.step (fun k => ?_) this
  simp only [cubbylaw12_heavy.l0]
  rw [zC (by omega), zC (by omega), rdL_get hjl, wrap_nat (by omega), wrap_id (by omega) (by omega)]
  rfl
theorem heavy12_ev (pn : ByteArray) (pp rg : Int) (bs : List (List SIns)) (hF : FairB bs) : ∃ h, Ev (fun k => cubbylaw12_heavy.f k pn pp rg bs) h ∧ (h = false → ∃ (R : Nat) (z : List Nat), rg = R ∧ Fit pn pp R bs z) := by
 have hyes : Ev (fun k => cubbylaw12_heavy.j0 k true pn pp rg bs) true := Ev.step (f := fun _ => some true) (fun k => by simp only [cubbylaw12_heavy.j0]; rw [zC trivial]) (Ev.now _)
 by_cases c0 : (pn.size : Int) > 100
 ·exact ⟨true, Ev.congr (fun k => by unfold cubbylaw12_heavy.f; rw [zC c0]) hyes, by simp⟩
 by_cases c1 : (bs.length : Int) > 8
 ·exact ⟨true, Ev.congr (fun k => by unfold cubbylaw12_heavy.f; rw [zD c0, zC c1]) hyes, by simp⟩
 by_cases c2 : rg > 24
 ·exact ⟨true, Ev.congr (fun k => by unfold cubbylaw12_heavy.f; rw [zD c0, zD c1, zC c2]) hyes, by simp⟩
 have h3 := refcheck_ev pn pp rg bs hF
 by_cases c3 : checkE pn pp rg bs = 0
 ·have F := checkE_zero c3
  obtain ⟨R, rfl⟩ := regs_nat F
  obtain ⟨z, hz, e1, e2⟩ := both pn pp hF F c3
  obtain ⟨k1, k2⟩ := checks pn hF F c3 hz e1 e2
  by_cases c4 : at_ z 0 / 2 ^ pp.toNat = 0
  ·rw [zC c4] at k2
   have hL := heavy12_loop pn pp (R : Int) bs (by omega) hF.row bs.length 0 0 (by omega) (by omega)
   rw [List.drop_zero] at hL
   refine ⟨_, Ev.congr (fun k => by unfold cubbylaw12_heavy.f; rw [zD c0, zD c1, zD c2]) (Ev.bind k2 (Ev.step (fun k => by simp only [cubbylaw12_heavy.j0]; rw [zD (by simp)]; rfl) hL)), fun h => ⟨R, z, rfl, hF, c3, F, hz, c4, e1, e2, by omega, by omega, ?_⟩⟩
   have := of_decide_eq_false h
   omega
  ·rw [zD c4] at k2
   exact ⟨true, Ev.congr (fun k => by unfold cubbylaw12_heavy.f; rw [zD c0, zD c1, zD c2]) (Ev.bind k2 hyes), by simp⟩
 ·have h4 : Ev (fun k => cubbyref11_Check.f k pn pp rg bs) (checkE pn pp rg bs) := Ev.bind h3 (Ev.congr (f := fun _ => some (checkE pn pp rg bs)) (fun k => by rw [zD c3]) (Ev.now _))
  refine ⟨true, Ev.congr (fun k => by unfold cubbylaw12_heavy.f; rw [zD c0, zD c1, zD c2]) (Ev.bind h4 ?_), by simp⟩
  exact Ev.congr (fun k => by rw [show (checkE pn pp rg bs != 0) = true by simp; exact c3]) hyes

def nums (n m : Nat) : List Int := (List.range m).map (fun i : Nat => ((n + 1 + i : Nat) : Int))
theorem nums_len (n m : Nat) : (nums n m).length = m := by simp [nums]
theorem nums_succ (n m : Nat) : nums n (m + 1) = nums n m ++ [((n + m + 1 : Nat) : Int)] := by
 unfold nums
 rw [List.range_succ, List.map_append, List.map_singleton]
 congr 3
 omega
theorem nums_get {n m i : Nat} (h : i < m) : (nums n m).getD i 0 = ((n + 1 + i : Nat) : Int) := by
 unfold nums
 rw [List.getD_eq_getElem?_getD, List.getElem?_map, List.getElem?_range h]
 rfl
def lay (bs : List (List SIns)) : List Int → Nat → List (List Int) → List (List Int)
 | [], _, x => x
 | b :: l, n, x => lay bs l (n + (blockAt bs b).length) (x.set b.toNat (nums n (blockAt bs b).length))
def places (bs : List (List SIns)) : List (List Int) := lay bs (order (succs bs) bs.length) 0 (List.replicate bs.length [])
theorem lay_len (bs : List (List SIns)) : ∀ (l : List Int) (n : Nat) (x : List (List Int)), (lay bs l n x).length = x.length
 | [], _, x => rfl
 | b :: l, n, x => by
  unfold lay
  rw [lay_len bs l, List.length_set]
def sumOf (bs : List (List SIns)) : List Int → Nat
 | [] => 0
 | b :: l => (blockAt bs b).length + sumOf bs l
theorem total_get : ∀ (bs : List (List SIns)) (j : Nat), (bs.getD j []).length + total (bs.set j []) = total bs
 | [], j => by simp [total]
 | b :: bs, 0 => by simp [total]
 | b :: bs, j + 1 => by
  have := total_get bs j
  simp only [List.getD_cons_succ, List.set_cons_succ, total]
  omega
theorem sumOf_le : ∀ (l : List Int) (bs : List (List SIns)), l.Nodup → (∀ v ∈ l, 0 ≤ v) → sumOf bs l ≤ total bs
 | [], bs, _, _ => Nat.zero_le _
 | b :: l, bs, hd, hp => by
  have hd' := List.nodup_cons.1 hd
  have h1 := total_get bs b.toNat
  have h2 := sumOf_le l (bs.set b.toNat []) hd'.2 (fun v hv => hp v (List.mem_cons_of_mem _ hv))
  have h3 : sumOf (bs.set b.toNat []) l = sumOf bs l := by
   have hall : ∀ v ∈ l, blockAt (bs.set b.toNat []) v = blockAt bs v := by
    intro v hv
    have hne : b.toNat ≠ v.toNat := by
     intro e
     have h4 := hp v (List.mem_cons_of_mem _ hv)
     have h5 := hp b List.mem_cons_self
     have : b = v := by omega
     exact hd'.1 (this ▸ hv)
    unfold blockAt
    rw [List.getD_eq_getElem?_getD, List.getD_eq_getElem?_getD, List.getElem?_set_ne hne]
   clear h2 hd hp hd' h1
   induction l with
   | nil => rfl
   | cons c l ih =>
    unfold sumOf
    rw [hall c List.mem_cons_self, ih (fun v hv => hall v (List.mem_cons_of_mem _ hv))]
  unfold sumOf
  rw [h3] at h2
  have : (blockAt bs b).length = (bs.getD b.toNat []).length := rfl
  omega
section
variable (pn : ByteArray) (pp rg : Int) (bs : List (List SIns)) (hr : ∀ b ∈ bs, b.length ≤ 1000)
include hr
theorem block_le (v : Int) : (blockAt bs v).length ≤ 1000 := by
 unfold blockAt
 rw [List.getD_eq_getElem?_getD]
 by_cases h : v.toNat < bs.length
 ·rw [List.getElem?_eq_getElem h]
  exact hr _ (List.getElem_mem h)
 ·rw [List.getElem?_eq_none (by omega)]
  exact Nat.zero_le _
theorem own_row (ord : List Int) (hol : ord.length ≤ 1000) (i : Nat) (hi : i < ord.length) (b : Nat) (hb : b < bs.length) (r : List (List Int)) : ∀ (d j n : Nat) (x : List (List Int)), j + d = (bs[b]).length → n ≤ 1000000000 → x.length = bs.length → x.getD b [] = nums n j →
 Ev (fun k => span_Places.l0 k (x.set b (nums n (bs[b]).length)) ((n + (bs[b]).length : Nat) : Int) ord (ord.length : Int) ((i + 1 : Nat) : Int) pn pp rg bs) r →
 Ev (fun k => span_Places.l1 k x ((n + j : Nat) : Int) (b : Int) ord (ord.length : Int) (i : Int) ((bs[b]).length : Int) (j : Int) pn pp rg bs) r := by
 have hbl := hr _ (List.getElem_mem hb)
 intro d
 induction d with
 | zero =>
  intro j n x hj hn hx hxb hE
  obtain rfl : j = (bs[b]).length := by omega
  have : x.set b (nums n (bs[b]).length) = x := by
   rw [← hxb, List.getD_eq_getElem?_getD, List.getElem?_eq_getElem (by omega : b < x.length)]
   exact List.set_getElem_self _
  rw [this] at hE
  refine Ev.step (fun k => ?_) hE
  simp only [span_Places.l1]
  rw [zD (by omega), wrap_nat (by omega)]
 | succ d ih =>
  intro j n x hj hn hx hxb hE
  have e1 : rd_LInt x (b : Int) = nums n j := hxb
  have h2 := ih (j + 1) n (x.set b (nums n (j + 1))) (by omega) hn (by rw [List.length_set]; exact hx) (by rw [List.getD_eq_getElem?_getD, List.getElem?_set_self (by omega)]; rfl) (by rw [List.set_set]; exact hE)
  refine Ev.step (fun k => ?_) h2
  simp only [span_Places.l1]
  rw [zC (by omega), zC (by omega), zC (by omega), e1, zC (by rw [nums_len]; omega), wrap_nat (by omega), wrap_nat (by omega), Int.toNat_natCast, nums_succ]
  rfl
theorem own_all (ord : List Int) (hol : ord.length ≤ 1000) (hd : ord.Nodup) (hrg : ∀ v ∈ ord, 0 ≤ v ∧ v < bs.length) : ∀ (d i n : Nat) (x : List (List Int)), i + d = ord.length → n ≤ 1000 * i → x.length = bs.length → (∀ v ∈ ord.drop i, x.getD v.toNat [] = []) →
 Ev (fun k => span_Places.l0 k x (n : Int) ord (ord.length : Int) (i : Int) pn pp rg bs) (lay bs (ord.drop i) n x) := by
 intro d
 induction d with
 | zero =>
  intro i n x hi hn hx _
  rw [List.drop_eq_nil_of_le (by omega)]
  exact Ev.step (f := fun _ => some x) (fun k => by simp only [span_Places.l0]; rw [zD (by omega)]) (Ev.now _)
 | succ d ih =>
  intro i n x hi hn hx hz
  have hil : i < ord.length := by omega
  have hm := hrg _ (List.getElem_mem hil)
  have hdd : (ord.drop i).Nodup := hd.sublist (List.drop_sublist _ _)
  rw [drop_cons hil] at hz hdd
  have hnd := List.nodup_cons.1 hdd
  rw [drop_cons hil]
  unfold lay
  obtain ⟨b, hb⟩ : ∃ b : Nat, ord[i] = (b : Int) := ⟨(ord[i]).toNat, by omega⟩
  have hbl : b < bs.length := by omega
  have hblk : blockAt bs ord[i] = bs[b] := by
   unfold blockAt
   rw [hb, Int.toNat_natCast, List.getD_eq_getElem?_getD, List.getElem?_eq_getElem hbl]
   rfl
  have hlen := hr _ (List.getElem_mem hbl)
  have hxb := hz _ List.mem_cons_self
  rw [hb, Int.toNat_natCast] at hxb
  rw [hblk, hb, Int.toNat_natCast]
  have h1 := ih (i + 1) (n + (bs[b]).length) (x.set b (nums n (bs[b]).length)) (by omega) (by omega) (by rw [List.length_set]; exact hx) (fun v hv => by
   have hv2 := hrg v (List.mem_of_mem_drop hv)
   have hne : b ≠ v.toNat := by
    intro e
    apply hnd.1
    have : ord[i] = v := by omega
    rw [this]
    exact hv
   rw [List.getD_eq_getElem?_getD, List.getElem?_set_ne hne, ← List.getD_eq_getElem?_getD]
   exact hz v (List.mem_cons_of_mem _ hv))
  have h2 := own_row pn pp rg bs hr ord hol i hil b hbl _ (bs[b]).length 0 n x (by omega) (by omega) hx (by rw [hxb]; rfl) h1
  refine Ev.step (fun k => ?_) h2
  simp only [span_Places.l0]
  rw [zC (by omega), zC (by omega), zC (by omega), rd_get hil, hb, zC (by omega), zC (by omega), rdL_get hbl]
  rfl
end
theorem Fit.small {pn : ByteArray} {pp : Int} {R : Nat} {bs : List (List SIns)} {z : List Nat} (T : Fit pn pp R bs z) : BlocksOk R bs := ok_blocks T.ok T.fair
theorem Fit.pos {pn : ByteArray} {pp : Int} {R : Nat} {bs : List (List SIns)} {z : List Nat} (T : Fit pn pp R bs z) : 0 < bs.length := by
 have := T.ok.shape.2.2.2.2.1
 omega
theorem order_ok (bs : List (List SIns)) : (order (succs bs) bs.length).Nodup ∧ ∀ v ∈ order (succs bs) bs.length, 0 ≤ v ∧ v < bs.length := ⟨order_nodup rng, order_rng rng⟩
theorem places_ev {pn : ByteArray} {pp : Int} {R : Nat} {bs : List (List SIns)} {z : List Nat} (T : Fit pn pp R bs z) : Ev (fun k => span_Places.f k pn pp (R : Int) bs) (places bs) := by
 have O := T.small
 have hl := T.len
 obtain ⟨k1, k2⟩ := checks pn T.fair T.ok T.check T.sol T.sets T.refin
 rw [zC T.low] at k1
 obtain ⟨h1, h2⟩ := order_ok bs
 have hol := order_len bs
 have h3 := own_all pn pp (R : Int) bs O.row (order (succs bs) bs.length) (by omega) h1 h2 (order (succs bs) bs.length).length 0 0 (List.replicate bs.length []) (by omega) (by omega) (by simp) (fun v hv => by
  rw [List.getD_eq_getElem?_getD, List.getElem?_replicate]
  split <;> rfl)
 rw [List.drop_zero] at h3
 refine Ev.bind k1 (Ev.congr (fun k => by rw [zC rfl, zC (by omega), zC (by omega), Int.toNat_natCast]) (Ev.bind (order_ev (by omega) O.small) h3))
end Go.Proofs.YtpkimbkjjmbmcaaDoor.PlainSpan
namespace Go.Proofs.YtpkimbkjjmbmcaaDoor.PlainSpan
open Go Go.RowKit Go.Proofs.YtpkimbkjjmbmcaaDoorW.PrintWords Go.Proofs.YtpkimbkjjmbmcaaDoorW.PrintMore Go.Proofs.YtpkimbkjjmbmcaaDoor.Q Go.Proofs.YtpkimbkjjmbmcaaDoor.Plain Go.Proofs.YtpkimbkjjmbmcaaDoor.PlainIr Go.Proofs.YtpkimbkjjmbmcaaDoor.PlainBits Go.Proofs.YtpkimbkjjmbmcaaDoor.PlainFix Go.Proofs.YtpkimbkjjmbmcaaDoor.PlainSuccs Go.Proofs.YtpkimbkjjmbmcaaDoor.PlainHeavy Go.Proofs.YtpkimbkjjmbmcaaDoor.PlainCheck Go.Proofs.YtpkimbkjjmbmcaaDoor.PlainLive Go.Proofs.YtpkimbkjjmbmcaaDoor.Dfs Go.Proofs.YtpkimbkjjmbmcaaDoor.PlainOrder
set_option linter.unusedVariables false
set_option linter.unusedSimpArgs false
def blen (bs : List (List SIns)) (v : Int) : Nat := (blockAt bs v).length
theorem getD_set_ne {x : List (List Int)} {a b : Nat} {r : List Int} (h : a ≠ b) : (x.set a r).getD b [] = x.getD b [] := by
 rw [List.getD_eq_getElem?_getD, List.getD_eq_getElem?_getD, List.getElem?_set_ne h]
theorem getD_set_eq {x : List (List Int)} {a : Nat} {r : List Int} (h : a < x.length) : (x.set a r).getD a [] = r := by
 rw [List.getD_eq_getElem?_getD, List.getElem?_set_self h]
 rfl
theorem lay_out (bs : List (List SIns)) : ∀ (l : List Int) (n : Nat) (x : List (List Int)) (v : Int), (∀ w ∈ l, 0 ≤ w) → 0 ≤ v → v ∉ l → (lay bs l n x).getD v.toNat [] = x.getD v.toNat []
 | [], _, _, _, _, _, _ => rfl
 | b :: l, n, x, v, hp, h0, hv => by
  have hb := hp b List.mem_cons_self
  have hne : b ≠ v := fun e => hv (e ▸ List.mem_cons_self)
  unfold lay
  rw [lay_out bs l _ _ v (fun w hw => hp w (List.mem_cons_of_mem _ hw)) h0 (fun h => hv (List.mem_cons_of_mem _ h)), getD_set_ne (by omega)]
structure Starts (bs : List (List SIns)) (l : List Int) (n : Nat) (p : List (List Int)) (S : Int → Nat) : Prop where
 low : ∀ v ∈ l, n ≤ S v
 high : ∀ v ∈ l, S v + blen bs v ≤ n + sumOf bs l
 row : ∀ v ∈ l, p.getD v.toNat [] = nums (S v) (blen bs v)
 apart : ∀ v ∈ l, ∀ w ∈ l, v ≠ w → S v + blen bs v ≤ S w ∨ S w + blen bs w ≤ S v
 full : ∀ y, n < y → y ≤ n + sumOf bs l → ∃ v ∈ l, S v < y ∧ y ≤ S v + blen bs v
theorem lay_starts (bs : List (List SIns)) : ∀ (l : List Int) (n : Nat) (x : List (List Int)), l.Nodup → (∀ v ∈ l, 0 ≤ v ∧ v < x.length) → ∃ S, Starts bs l n (lay bs l n x) S
 | [], n, x, _, _ => ⟨fun _ => 0, ⟨by simp, by simp, by simp, by simp, fun y h1 h2 => by simp [sumOf] at h2; omega⟩⟩
 | b :: l, n, x, hd, hr => by
  have hd' := List.nodup_cons.1 hd
  have hb := hr b List.mem_cons_self
  obtain ⟨S, T⟩ := lay_starts bs l (n + (blockAt bs b).length) (x.set b.toNat (nums n (blockAt bs b).length)) hd'.2 (fun v hv => by rw [List.length_set]; exact hr v (List.mem_cons_of_mem _ hv))
  have hs : sumOf bs (b :: l) = blen bs b + sumOf bs l := rfl
  have hbl : blen bs b = (blockAt bs b).length := rfl
  have hnb : ∀ v ∈ l, v ≠ b := fun v hv e => hd'.1 (e ▸ hv)
  refine ⟨fun v => if v = b then n else S v, ⟨?_, ?_, ?_, ?_, ?_⟩⟩
  ·intro v hv
   show n ≤ if v = b then n else S v
   split
   ·omega
   ·next e =>
    have := T.low v ((List.mem_cons.1 hv).resolve_left e)
    omega
  ·intro v hv
   show (if v = b then n else S v) + blen bs v ≤ _
   rw [hs]
   split
   ·next e =>
    subst e
    omega
   ·next e =>
    have := T.high v ((List.mem_cons.1 hv).resolve_left e)
    omega
  ·intro v hv
   show _ = nums (if v = b then n else S v) (blen bs v)
   unfold lay
   split
   ·next e =>
    subst e
    rw [lay_out bs l _ _ v (fun w hw => (hr w (List.mem_cons_of_mem _ hw)).1) hb.1 hd'.1, getD_set_eq (by omega)]
    rfl
   ·next e => exact T.row v ((List.mem_cons.1 hv).resolve_left e)
  ·intro v hv w hw hne
   show (if v = b then n else S v) + blen bs v ≤ (if w = b then n else S w) ∨ (if w = b then n else S w) + blen bs w ≤ (if v = b then n else S v)
   by_cases e1 : v = b
   ·subst e1
    have hw' := (List.mem_cons.1 hw).resolve_left (fun e => hne e.symm)
    have := T.low w hw'
    rw [zC rfl, zD (hnb w hw')]
    left
    omega
   ·have hv' := (List.mem_cons.1 hv).resolve_left e1
    by_cases e2 : w = b
    ·subst e2
     have := T.low v hv'
     rw [zC rfl, zD e1]
     right
     omega
    ·rw [zD e1, zD e2]
     exact T.apart v hv' w ((List.mem_cons.1 hw).resolve_left e2) hne
  ·intro y h1 h2
   rw [hs] at h2
   by_cases c : y ≤ n + blen bs b
   ·refine ⟨b, List.mem_cons_self, ?_⟩
    rw [zC rfl]
    exact ⟨h1, c⟩
   ·obtain ⟨v, hv, h3⟩ := T.full y (by omega) (by omega)
    refine ⟨v, List.mem_cons_of_mem _ hv, ?_⟩
    rw [zD (hnb v hv)]
    exact h3
def tl : List (List Int) → Nat
 | [] => 0
 | r :: x => r.length + tl x
theorem nil_get (n i : Nat) : (List.replicate n ([] : List Int)).getD i [] = [] := by
 rw [List.getD_eq_getElem?_getD, List.getElem?_replicate]
 split <;> rfl
def ordOf (bs : List (List SIns)) : List Int := order (succs bs) bs.length
theorem places_starts (bs : List (List SIns)) : ∃ S, Starts bs (ordOf bs) 0 (places bs) S := by
 obtain ⟨h1, h2⟩ := order_ok bs
 exact lay_starts bs _ 0 _ h1 (fun v hv => by rw [List.length_replicate]; exact h2 v hv)
theorem places_len (bs : List (List SIns)) : (places bs).length = bs.length := by
 unfold places
 rw [lay_len, List.length_replicate]
theorem places_out {bs : List (List SIns)} {v : Int} (h0 : 0 ≤ v) (h : v ∉ ordOf bs) : (places bs).getD v.toNat [] = [] := by
 obtain ⟨h1, h2⟩ := order_ok bs
 unfold places
 rw [lay_out bs _ _ _ v (fun w hw => (h2 w hw).1) h0 h, nil_get]
theorem sum_le (bs : List (List SIns)) : sumOf bs (ordOf bs) ≤ total bs := by
 obtain ⟨h1, h2⟩ := order_ok bs
 exact sumOf_le _ bs h1 (fun v hv => (h2 v hv).1)
end Go.Proofs.YtpkimbkjjmbmcaaDoor.PlainSpan
namespace Go.Proofs.YtpkimbkjjmbmcaaDoor.PlainLive
open Go Go.RowKit Go.Proofs.YtpkimbkjjmbmcaaDoorW.PrintWords Go.Proofs.YtpkimbkjjmbmcaaDoorW.PrintMore Go.Proofs.YtpkimbkjjmbmcaaDoor.Q Go.Proofs.YtpkimbkjjmbmcaaDoor.Plain Go.Proofs.YtpkimbkjjmbmcaaDoor.PlainIr Go.Proofs.YtpkimbkjjmbmcaaDoor.PlainName Go.Proofs.YtpkimbkjjmbmcaaDoor.PlainBits Go.Proofs.YtpkimbkjjmbmcaaDoor.PlainFix Go.Proofs.YtpkimbkjjmbmcaaDoor.PlainSuccs Go.Proofs.YtpkimbkjjmbmcaaDoor.PlainOne Go.Proofs.YtpkimbkjjmbmcaaDoor.PlainHeavy Go.Proofs.YtpkimbkjjmbmcaaDoor.PlainCheck
set_option linter.unusedVariables false
set_option linter.unusedSimpArgs false
theorem toL_low {R x : Nat} (h0 : 0 < x) (h : x < 2 ^ R) (hR : R ≤ 64) : toL R x = (Lib.ctz 64 x : Int) :: toL R (x &&& (x - 1)) := by
 unfold toL
 rw [toN_low h0 h hR]
 rfl
theorem and_lt {x : Nat} (h0 : 0 < x) : x &&& (x - 1) < x := Nat.lt_of_le_of_lt Nat.and_le_right (by omega)
theorem list_ev {R : Nat} (hR : R ≤ 64) {s : Nat} (hs : s < 2 ^ R) : Ev (fun k => live_set_list.f k (s : Int)) (toL R s) := by
 have h : ∀ (d s : Nat) (out : List Int), s ≤ d → s < 2 ^ R → out.length + (toL R s).length ≤ 64 → Ev (fun k => live_set_list.l0 k (s : Int) out) (out ++ toL R s) := by
  intro d
  induction d with
  | zero =>
   intro s out hd hs ho
   obtain rfl : s = 0 := by omega
   rw [toL_zero, List.append_nil]
   exact Ev.step (f := fun _ => some out) (fun k => by simp only [live_set_list.l0]; rw [zC (by omega)]) (Ev.now _)
  | succ d ih =>
   intro s out hd hs ho
   by_cases c : s = 0
   ·subst c
    rw [toL_zero, List.append_nil]
    exact Ev.step (f := fun _ => some out) (fun k => by simp only [live_set_list.l0]; rw [zC (by omega)]) (Ev.now _)
   ·have h0 : 0 < s := by omega
    have h64 := lt64 hR hs
    have hlt := and_lt h0
    rw [toL_low h0 hs hR] at ho ⊢
    rw [List.length_cons] at ho
    have := ih (s &&& (s - 1)) (out ++ [(Lib.ctz 64 s : Int)]) (by omega) (by omega) (by rw [List.length_append, List.length_singleton]; omega)
    rw [List.append_assoc, List.singleton_append] at this
    refine Ev.step (fun k => ?_) this
    simp only [live_set_list.l0]
    have e1 : IntKind.u64.wrap ((s : Int) - 1) = ((s - 1 : Nat) : Int) := by
     rw [IntKind.wrap_u64]
     omega
    have e2 : bits_TrailingZeros64.f (s : Int) = some (Lib.ctz 64 s : Int) := by
     unfold bits_TrailingZeros64.f
     rw [zC (by omega), Int.toNat_natCast]
    rw [zD (by omega), e2, zJ, zC (by omega), e1, u64_and_nat _ _ (by omega) (by omega)]
 have h1 := toL_len R s
 exact h s s [] (Nat.le_refl _) hs (by rw [List.length_nil]; omega)
theorem ints_ev (l : List Int) (hl : l.length ≤ 4611686018427387904) : Ev (fun k => cubbyref10_Ints.f k l l) true := by
 refine Ev.congr (f := fun k => cubbyref10_Ints.l0 k l l ((0 : Nat) : Int)) (fun k => by unfold cubbyref10_Ints.f; rw [zC rfl]; rfl) ?_
 refine scan (fun k i => cubbyref10_Ints.l0 k l l (i : Int)) l.length (fun _ => true) ?_ ?_ 0 (Nat.zero_le _)
 ·exact Ev.step (f := fun _ => some true) (fun k => by simp only [cubbyref10_Ints.l0]; rw [zD (by omega)]) (Ev.now _)
 ·intro i hi hE
  exact Ev.step (fun k => by simp only [cubbyref10_Ints.l0]; rw [zC (by omega), zC (by omega), zC (by omega), zC trivial, wrap_nat (by omega)]) hE
section
variable (pn : ByteArray) (pp : Int) {R : Nat} {bs : List (List SIns)} (hF : FairB bs) (F : FuncOk pn pp (R : Int) bs) (hc : checkE pn pp (R : Int) bs = 0) {z : List Nat} (hz : Sol R bs z)
 (h1 : Ev (fun k => live_sets.f k pn pp (R : Int) bs) (toI z)) (h2 : Ev (fun k => cubbyref11_In.f k pn pp (R : Int) bs) (z.map (toL R)))
include hF F hc hz h1
theorem in_ev : Ev (fun k => live_In.f k pn pp (R : Int) bs) (z.map (toL R)) := by
 have O := ok_blocks F hF
 have hbl := O.len
 have hzl := hz.len
 have hR := O.le
 have h3 := check_ev pn pp (R : Int) bs hF
 rw [hc] at h3
 refine Ev.bind h3 (Ev.congr (fun k => by rw [zC rfl]) (Ev.bind h1 ?_))
 have h : ∀ (d j : Nat), j + d = z.length → Ev (fun k => live_In.l0 k ((z.take j).map (toL R)) (toI z) ((toI z).length : Int) (j : Int)) (z.map (toL R)) := by
  intro d
  induction d with
  | zero =>
   intro j hj
   rw [List.take_of_length_le (by omega)]
   exact Ev.step (f := fun _ => some (z.map (toL R))) (fun k => by simp only [live_In.l0]; rw [zD (by rw [toI_len]; omega)]) (Ev.now _)
  | succ d ih =>
   intro j hj
   have hjl : j < z.length := by omega
   have := ih (j + 1) (by omega)
   rw [List.take_succ_eq_append_getElem hjl, List.map_append, List.map_singleton] at this
   have e : at_ z j = z[j] := by
    unfold at_
    rw [List.getD_eq_getElem?_getD, List.getElem?_eq_getElem hjl]
    rfl
   have hl := list_ev hR (hz.lt j)
   refine Ev.step (fun k => by simp only [live_In.l0]; rw [zC (by rw [toI_len]; omega), zC (by omega), zC (by rw [toI_len]; omega), rd_toI, Int.toNat_natCast]) (Ev.bind hl ?_)
   rw [← e] at this
   exact Ev.congr (fun k => by rw [zC (by rw [List.length_map, List.length_take]; omega), wrap_nat (by omega)]) this
 have := h z.length 0 (by omega)
 rw [List.take_zero] at this
 exact this
theorem aheadL_ev {b i : Nat} (hb : b < bs.length) (hi : i ≤ (bs.getD b []).length) : Ev (fun k => live_Ahead.f k pn pp (R : Int) bs (b : Int) (i : Int)) (toL R (aheadN bs z b i)) := by
 have O := ok_blocks F hF
 have hR := O.le
 have h3 := check_ev pn pp (R : Int) bs hF
 rw [hc] at h3
 refine Ev.bind h3 (Ev.congr (fun k => by rw [zC rfl, zD (by omega), zD (by omega), zD (by omega), zC (by omega), zC (by omega), rd_row hb, zG (by omega)]) ?_)
 refine Ev.step (fun k => by simp only [live_Ahead.j0]; rw [zD Bool.false_ne_true]) (Ev.bind h1 (Ev.bind (ahead_ev pn pp O hz.len hz.lt hb hi) (Ev.bind (list_ev hR (aheadN_lt O hz hb)) (Ev.now _))))
end
section
variable (pn : ByteArray) (pp : Int) {R : Nat} {bs : List (List SIns)} (hF : FairB bs) (F : FuncOk pn pp (R : Int) bs) (hc : checkE pn pp (R : Int) bs = 0) {z : List Nat} (hz : Sol R bs z)
 (h2 : Ev (fun k => cubbyref11_In.f k pn pp (R : Int) bs) (z.map (toL R)))
include hF F hc hz h2
theorem refaheadL_ev {b i : Nat} (hb : b < bs.length) (hi : i ≤ (bs.getD b []).length) : Ev (fun k => cubbyref11_Ahead.f k pn pp (R : Int) bs (b : Int) (i : Int)) (toL R (aheadN bs z b i)) := by
 have O := ok_blocks F hF
 have hR := O.le
 have h3 := refcheck_ev pn pp (R : Int) bs hF
 rw [hc] at h3
 refine Ev.bind h3 (Ev.congr (fun k => by rw [zC rfl, zD (by omega), zD (by omega), zD (by omega), zC (by omega), zC (by omega), rd_row hb, zG (by omega)]) ?_)
 refine Ev.step (fun k => by simp only [cubbyref11_Ahead.j0]; rw [zD Bool.false_ne_true]) (Ev.bind h2 (Ev.bind (refahead_ev pn pp O hz.len hz.lt hb hi) (Ev.now _)))
end
section
variable (pn : ByteArray) (pp rg : Int) {bs : List (List SIns)} (hF : FairB bs) (hc : checkE pn pp rg bs = 0)
include hF hc
end
end Go.Proofs.YtpkimbkjjmbmcaaDoor.PlainLive
namespace Go.Proofs.YtpkimbkjjmbmcaaDoor.PlainSpan
open Go Go.RowKit Go.Proofs.YtpkimbkjjmbmcaaDoorW.PrintWords Go.Proofs.YtpkimbkjjmbmcaaDoorW.PrintMore Go.Proofs.YtpkimbkjjmbmcaaDoor.Q Go.Proofs.YtpkimbkjjmbmcaaDoor.Plain Go.Proofs.YtpkimbkjjmbmcaaDoor.PlainIr Go.Proofs.YtpkimbkjjmbmcaaDoor.PlainBits Go.Proofs.YtpkimbkjjmbmcaaDoor.PlainFix Go.Proofs.YtpkimbkjjmbmcaaDoor.PlainSuccs Go.Proofs.YtpkimbkjjmbmcaaDoor.PlainHeavy Go.Proofs.YtpkimbkjjmbmcaaDoor.PlainCheck Go.Proofs.YtpkimbkjjmbmcaaDoor.PlainLive Go.Proofs.YtpkimbkjjmbmcaaDoor.Dfs Go.Proofs.YtpkimbkjjmbmcaaDoor.PlainOrder
set_option linter.unusedVariables false
set_option linter.unusedSimpArgs false
structure IsSpan (s : SSpan) (Q : Int → Prop) : Prop where
 none : (∀ p, ¬ Q p) → s = ⟨-1, -1⟩
 some : (∃ p, Q p) → Q s.f0 ∧ Q s.f1 ∧ ∀ p, Q p → s.f0 ≤ p ∧ p ≤ s.f1
 pos : ∀ p, Q p → 0 ≤ p
theorem IsSpan.uniq {s t : SSpan} {Q Q' : Int → Prop} (hs : IsSpan s Q) (ht : IsSpan t Q') (h : ∀ p, Q p ↔ Q' p) : s = t := by
 by_cases c : ∃ p, Q p
 ·obtain ⟨s0, s1, s2⟩ := hs.some c
  obtain ⟨p, hp⟩ := c
  obtain ⟨t0, t1, t2⟩ := ht.some ⟨p, (h p).1 hp⟩
  have a1 := s2 _ ((h _).2 t0)
  have a2 := s2 _ ((h _).2 t1)
  have b1 := t2 _ ((h _).1 s0)
  have b2 := t2 _ ((h _).1 s1)
  cases s
  cases t
  simp only at a1 a2 b1 b2
  congr 1 <;> omega
 ·have c' : ∀ p, ¬ Q p := fun p hp => c ⟨p, hp⟩
  rw [hs.none c', ht.none (fun p hp => c' p ((h p).2 hp))]
theorem IsSpan.ext {s : SSpan} {Q Q' : Int → Prop} (hs : IsSpan s Q) (h : ∀ p, Q p ↔ Q' p) : IsSpan s Q' := by
 have : Q = Q' := funext fun p => propext (h p)
 exact this ▸ hs
def takeS (s : SSpan) (p : Int) : SSpan := if s.f0 < 0 then ⟨p, p⟩ else ⟨mn s.f0 p, mx s.f1 p⟩
theorem takeS_is {s : SSpan} {Q : Int → Prop} {p : Int} (hs : IsSpan s Q) (hp : 0 ≤ p) : IsSpan (takeS s p) (fun q => Q q ∨ q = p) := by
 have hpos : ∀ q, Q q ∨ q = p → 0 ≤ q := fun q hq => hq.elim (hs.pos q) (fun e => e ▸ hp)
 refine ⟨fun h => absurd (Or.inr rfl) (h p), fun _ => ?_, hpos⟩
 unfold takeS
 by_cases c : ∃ q, Q q
 ·obtain ⟨s0, s1, s2⟩ := hs.some c
  have := hs.pos _ s0
  rw [zD (by omega)]
  have h2 := s2 _ s0
  unfold mn mx
  refine ⟨?_, ?_, ?_⟩
  ·show _ ∨ _
   simp only
   split
   ·exact .inr rfl
   ·exact .inl s0
  ·show _ ∨ _
   simp only
   split
   ·exact .inr rfl
   ·exact .inl s1
  ·intro q hq
   simp only
   rcases hq with hq | rfl
   ·have := s2 q hq
    split <;> split <;> omega
   ·split <;> split <;> omega
 ·have c' : ∀ q, ¬ Q q := fun q hq => c ⟨q, hq⟩
  have e := hs.none c'
  rw [e, zC (by decide)]
  refine ⟨.inr rfl, .inr rfl, fun q hq => ?_⟩
  rcases hq with hq | rfl
  ·exact absurd hq (c' q)
  ·exact ⟨Int.le_refl _, Int.le_refl _⟩
theorem none_is : IsSpan ⟨-1, -1⟩ (fun _ => False) := ⟨fun _ => rfl, fun ⟨_, h⟩ => h.elim, fun _ h => h.elim⟩
structure SInv (R : Nat) (o : List SSpan) (Q : Int → Int → Prop) : Prop where
 len : o.length = R
 is : ∀ r : Nat, r < R → IsSpan (o.getD r zSpan) (Q r)
theorem SInv.uniq {R : Nat} {o o' : List SSpan} {Q Q' : Int → Int → Prop} (h : SInv R o Q) (h' : SInv R o' Q') (e : ∀ (r : Nat) p, r < R → (Q r p ↔ Q' r p)) : o = o' := by
 have l1 := h.len
 have l2 := h'.len
 apply List.ext_getElem (by omega)
 intro i h1 h2
 have a := h.is i (by omega)
 have b := h'.is i (by omega)
 rw [List.getD_eq_getElem?_getD, List.getElem?_eq_getElem h1] at a
 rw [List.getD_eq_getElem?_getD, List.getElem?_eq_getElem h2] at b
 exact a.uniq b (fun p => e i p (by omega))
theorem SInv.ext {R : Nat} {o : List SSpan} {Q Q' : Int → Int → Prop} (h : SInv R o Q) (e : ∀ (r : Nat) p, r < R → (Q r p ↔ Q' r p)) : SInv R o Q' := ⟨h.len, fun r hr => (h.is r hr).ext (fun p => e r p hr)⟩
def takeP (r p : Int) (o : List SSpan) : List SSpan := o.set r.toNat (takeS (rd_TSpan o r) p)
theorem take_eq {o : List SSpan} {r p : Int} (h0 : 0 ≤ r) (h1 : r < (o.length : Int)) : span_Spans_1.f r p o = some (takeP r p o) := by
 have hl : r.toNat < o.length := by omega
 have g : ∀ s : SSpan, rd_TSpan (o.set r.toNat s) r = s := by
  intro s
  unfold rd_TSpan
  rw [List.getD_eq_getElem?_getD, List.getElem?_set_self hl]
  rfl
 unfold span_Spans_1.f takeP takeS
 rw [zC h0, zC h1]
 by_cases c : (rd_TSpan o r).f0 < 0
 ·rw [zC c, zC c]
  simp only [zJ, g, List.set_set]
  unfold mn mx
  first | rfl | simp
 ·rw [zD c, zD c]
  simp only [zJ, g, List.set_set]
theorem takeP_inv {R : Nat} {o : List SSpan} {Q : Int → Int → Prop} {r p : Int} (h : SInv R o Q) (h0 : 0 ≤ r) (h1 : r < R) (hp : 0 ≤ p) : SInv R (takeP r p o) (fun r' q => Q r' q ∨ (r' = r ∧ q = p)) := by
 have hl := h.len
 refine ⟨by unfold takeP; rw [List.length_set]; exact hl, fun i hi => ?_⟩
 unfold takeP
 by_cases c : i = r.toNat
 ·have e : (i : Int) = r := by omega
  have h2 := takeS_is (h.is i hi) hp
  rw [List.getD_eq_getElem?_getD, c, List.getElem?_set_self (by omega)]
  have h3 : rd_TSpan o r = o.getD i zSpan := by unfold rd_TSpan; rw [c]
  show IsSpan (takeS (rd_TSpan o r) p) _
  rw [h3]
  refine h2.ext (fun q => ?_)
  rw [← c, e]
  simp
 ·rw [List.getD_eq_getElem?_getD, List.getElem?_set_ne (fun e => c e.symm), ← List.getD_eq_getElem?_getD]
  refine (h.is i hi).ext (fun q => ?_)
  have : ¬ ((i : Int) = r) := by omega
  simp [this]
section
variable {R : Nat}
theorem w2 {n : Nat} (hn : n ≤ 1000000) : wrap64 (2 * (n : Int)) = 2 * n ∧ wrap64 (wrap64 (2 * (n : Int)) + 1) = 2 * n + 1 := by
 have h : wrap64 (2 * (n : Int)) = 2 * n := wrap_id (by omega) (by omega)
 exact ⟨h, by rw [h]; exact wrap_id (by omega) (by omega)⟩
theorem ahead_inv {n : Nat} (hn : n ≤ 1000000) {l : List Int} (hl : l.length ≤ 4000000000000000000) (hr : ∀ r ∈ l, 0 ≤ r ∧ r < R) {o : List SSpan} {Q : Int → Int → Prop} (h : SInv R o Q) :
 ∃ o', Ev (fun k => span_Spans_2.f k (n : Int) l o) o' ∧ SInv R o' (fun r p => Q r p ∨ (r ∈ l ∧ p = 2 * n)) := by
 have key : ∀ (d j : Nat) (o : List SSpan) (Q : Int → Int → Prop), j + d = l.length → SInv R o Q → ∃ o', Ev (fun k => span_Spans_2.l0 k (n : Int) l (j : Int) o) o' ∧ SInv R o' (fun r p => Q r p ∨ (r ∈ l.drop j ∧ p = 2 * n)) := by
  intro d
  induction d with
  | zero =>
   intro j o Q hj h
   refine ⟨o, Ev.step (f := fun _ => some o) (fun k => by simp only [span_Spans_2.l0]; rw [zD (by omega)]) (Ev.now _), h.ext (fun r p hr => ?_)⟩
   rw [List.drop_eq_nil_of_le (by omega)]
   simp
  | succ d ih =>
   intro j o Q hj h
   have hjl : j < l.length := by omega
   have hm := hr _ (List.getElem_mem hjl)
   have ho := h.len
   obtain ⟨o', h1, h2⟩ := ih (j + 1) _ _ (by omega) (takeP_inv (p := 2 * n) h hm.1 hm.2 (by omega))
   refine ⟨o', Ev.step (fun k => ?_) h1, h2.ext (fun r p hr => ?_)⟩
   ·simp only [span_Spans_2.l0]
    rw [zC (by omega), zC (by omega), rd_get hjl, (w2 hn).1, take_eq hm.1 (by omega), zJ, wrap_nat (by omega)]
   ·rw [drop_cons hjl, List.mem_cons, or_and_right, or_assoc]
 obtain ⟨o', h1, h2⟩ := key l.length 0 o Q (by omega) h
 rw [List.drop_zero] at h2
 exact ⟨o', h1, h2⟩
theorem ins_inv {n : Nat} (hn : n ≤ 1000000) {x : SIns} (O : RegsOk R x) (hx : x.f5.length ≤ 17592186043904) {l : List Int} (hl : l.length ≤ 1000000) (hr : ∀ r ∈ l, 0 ≤ r ∧ r < R) {o : List SSpan} {Q : Int → Int → Prop} (h : SInv R o Q) :
 ∃ o', Ev (fun k => span_Spans.ins k (n : Int) x l o) o' ∧ SInv R o' (fun r p => Q r p ∨ ((r ∈ uses x.f0 x.f2 x.f3 x.f5 ∨ (r ∈ l ∧ r ≠ defOf x.f0 x.f1)) ∧ p = 2 * n) ∨ ((r ∈ l ∨ r = defOf x.f0 x.f1) ∧ p = 2 * n + 1)) := by
 have hul : (uses x.f0 x.f2 x.f3 x.f5).length ≤ 4000000000000000000 := by
  unfold uses
  split
  ·simp
  ·split
   ·simp
   ·split
    ·omega
    ·simp
 obtain ⟨o1, a1, a2⟩ := ahead_inv hn hul O.use h
 have key : ∀ (d j : Nat) (o : List SSpan) (Q : Int → Int → Prop), j + d = l.length → SInv R o Q → ∃ o', Ev (fun k => span_Spans_3.l0 k (n : Int) x.f0 x.f1 x.f2 x.f3 x.f4 x.f5 l (j : Int) o) o' ∧ SInv R o' (fun r p => Q r p ∨ ((r ∈ l.drop j ∧ r ≠ defOf x.f0 x.f1) ∧ p = 2 * n) ∨ ((r ∈ l.drop j ∨ r = defOf x.f0 x.f1) ∧ p = 2 * n + 1)) := by
  intro d
  induction d with
  | zero =>
   intro j o Q hj h
   have ho := h.len
   have hd := O.def_
   rw [List.drop_eq_nil_of_le (by omega)]
   by_cases c : defOf x.f0 x.f1 ≥ 0
   ·refine ⟨_, Ev.step (f := fun _ => some (takeP (defOf x.f0 x.f1) (2 * n + 1) o)) (fun k => ?_) (Ev.now _), (takeP_inv (p := 2 * n + 1) h c hd.1 (by omega)).ext (fun r p hr => by simp)⟩
    simp only [span_Spans_3.l0]
    rw [zD (by omega), def_eq, zJ, zC c, (w2 hn).2, take_eq c (by omega)]
   ·refine ⟨o, Ev.step (f := fun _ => some o) (fun k => ?_) (Ev.now _), h.ext (fun r p hr => ?_)⟩
    ·simp only [span_Spans_3.l0]
     rw [zD (by omega), def_eq, zJ, zD c]
    ·have : ¬ ((r : Int) = defOf x.f0 x.f1) := by omega
     simp [this]
  | succ d ih =>
   intro j o Q hj h
   have hjl : j < l.length := by omega
   have hm := hr _ (List.getElem_mem hjl)
   have ho := h.len
   have b1 := takeP_inv (p := 2 * n + 1) h hm.1 hm.2 (by omega)
   by_cases c : defOf x.f0 x.f1 = l[j]
   ·obtain ⟨o', h1, h2⟩ := ih (j + 1) _ _ (by omega) b1
    refine ⟨o', Ev.step (fun k => ?_) h1, h2.ext (fun r p hr => ?_)⟩
    ·simp only [span_Spans_3.l0]
     rw [zC (by omega), zC (by omega), rd_get hjl, (w2 hn).2, take_eq hm.1 (by omega), zJ, def_eq, zJ, zC c, wrap_nat (by omega)]
    ·rw [drop_cons hjl, List.mem_cons, c]
     constructor
     ·rintro ((hq | ⟨e, hq⟩) | ⟨⟨hq, hne⟩, e⟩ | ⟨hq | hq, e⟩)
      ·exact .inl hq
      ·exact .inr (.inr ⟨.inr e, hq⟩)
      ·exact .inr (.inl ⟨⟨.inr hq, hne⟩, e⟩)
      ·exact .inr (.inr ⟨.inl (.inr hq), e⟩)
      ·exact .inr (.inr ⟨.inr hq, e⟩)
     ·rintro (hq | ⟨⟨hq | hq, hne⟩, e⟩ | ⟨(hq | hq) | hq, e⟩)
      ·exact .inl (.inl hq)
      ·exact absurd hq hne
      ·exact .inr (.inl ⟨⟨hq, hne⟩, e⟩)
      ·exact .inl (.inr ⟨hq, e⟩)
      ·exact .inr (.inr ⟨.inl hq, e⟩)
      ·exact .inl (.inr ⟨hq, e⟩)
   ·have b2 := takeP_inv (p := 2 * n) b1 hm.1 hm.2 (by omega)
    have ho1 := b1.len
    obtain ⟨o', h1, h2⟩ := ih (j + 1) _ _ (by omega) b2
    refine ⟨o', Ev.step (fun k => ?_) h1, h2.ext (fun r p hr => ?_)⟩
    ·simp only [span_Spans_3.l0]
     rw [zC (by omega), zC (by omega), rd_get hjl, (w2 hn).2, (w2 hn).1, take_eq hm.1 (by omega), zJ, def_eq, zJ, zD c, take_eq hm.1 (by omega), zJ, wrap_nat (by omega)]
    ·rw [drop_cons hjl, List.mem_cons]
     constructor
     ·rintro (((hq | ⟨e, hq⟩) | ⟨e, hq⟩) | ⟨⟨hq, hne⟩, e⟩ | ⟨hq | hq, e⟩)
      ·exact .inl hq
      ·exact .inr (.inr ⟨.inl (.inl e), hq⟩)
      ·exact .inr (.inl ⟨⟨.inl e, fun e2 => c (e2.symm.trans e)⟩, hq⟩)
      ·exact .inr (.inl ⟨⟨.inr hq, hne⟩, e⟩)
      ·exact .inr (.inr ⟨.inl (.inr hq), e⟩)
      ·exact .inr (.inr ⟨.inr hq, e⟩)
     ·rintro (hq | ⟨⟨hq | hq, hne⟩, e⟩ | ⟨(hq | hq) | hq, e⟩)
      ·exact .inl (.inl (.inl hq))
      ·exact .inl (.inr ⟨hq, e⟩)
      ·exact .inr (.inl ⟨⟨hq, hne⟩, e⟩)
      ·exact .inl (.inl (.inr ⟨hq, e⟩))
      ·exact .inr (.inr ⟨.inl hq, e⟩)
      ·exact .inr (.inr ⟨.inr hq, e⟩)
 obtain ⟨o', h1, h2⟩ := key l.length 0 o1 _ (by omega) a2
 rw [List.drop_zero] at h2
 refine ⟨o', Ev.bind (uses_ev x.f0 x.f1 x.f2 x.f3 x.f4 x.f5 (by omega)) (Ev.bind a1 h1), h2.ext (fun r p hr => ?_)⟩
 constructor
 ·rintro ((hq | ⟨hq, e⟩) | ⟨hq, e⟩ | hq)
  ·exact .inl hq
  ·exact .inr (.inl ⟨.inl hq, e⟩)
  ·exact .inr (.inl ⟨.inr hq, e⟩)
  ·exact .inr (.inr hq)
 ·rintro (hq | ⟨hq | hq, e⟩ | hq)
  ·exact .inl (.inl hq)
  ·exact .inl (.inr ⟨hq, e⟩)
  ·exact .inr (.inl ⟨hq, e⟩)
  ·exact .inr (.inr hq)
end
section
variable {σ γ : Type} (bq : Nat → Nat → γ → γ) (iq : Nat → SIns → Nat → γ → γ) (bs : List (List SIns)) (z : List Nat)
def rowQ (b : Nat) : List SIns → Nat → Nat → γ → γ
 | [], _, _, q => q
 | x :: l, i, n, q => rowQ b l (i + 1) (n + 1) (iq (n + 1) x (aheadN bs z b (i + 1)) q)
def eachQ : List Int → Nat → γ → γ
 | [], _, q => q
 | b :: l, n, q => eachQ l (n + blen bs b) (rowQ iq bs z b.toNat (blockAt bs b) 0 n (bq (n + 1) (at_ z b.toNat) q))
variable {bq iq bs z} {pn : ByteArray} {pp : Int} {R : Nat} (T : Fit pn pp R bs z) (Iv : σ → γ → Prop) {fb : Nat → Int → List Int → σ → Option σ} {fi : Nat → Int → SIns → List Int → σ → Option σ}
 (hb : ∀ (n bits : Nat) s q, n ≤ 1000000 → Iv s q → ∃ s', Ev (fun k => fb k (n : Int) (toL R bits) s) s' ∧ Iv s' (bq n bits q))
 (hi : ∀ (n : Nat) x (bits : Nat) s q, n ≤ 1000000 → RegsOk R x → x.f5.length ≤ 17592186043904 → Iv s q → ∃ s', Ev (fun k => fi k (n : Int) x (toL R bits) s) s' ∧ Iv s' (iq n x bits q))
include T hi
theorem each_row {b : Nat} (hbl : b < bs.length) (j : Nat) (hj : j ≤ 100) (inn : List (List Int)) (ord : List Int) (qf : γ) : ∀ (d i n : Nat) (s : σ) (q : γ), i + d = (bs[b]).length → n ≤ 1000 * j + i → Iv s q →
 (∀ s', Iv s' (rowQ iq bs z b ((bs[b]).drop i) i n q) → ∃ s'', Ev (fun k => span_each.l0 fb fi k pn pp (R : Int) bs inn ord ((n + d : Nat) : Int) ((j + 1 : Nat) : Int) s') s'' ∧ Iv s'' qf) →
 ∃ s'', Ev (fun k => span_each.l1 fb fi k pn pp (R : Int) bs inn ord (n : Int) (b : Int) (j : Int) (i : Int) s) s'' ∧ Iv s'' qf := by
 have O := T.small
 have hr := O.row _ (List.getElem_mem hbl)
 have hgd : bs.getD b [] = bs[b] := getD_get hbl
 have hrow : rd_LIns bs (b : Int) = bs[b] := hgd
 intro d
 induction d with
 | zero =>
  intro i n s q hij hn h H
  rw [List.drop_eq_nil_of_le (by omega)] at H
  obtain ⟨s'', h1, h2⟩ := H s h
  refine ⟨s'', Ev.step (fun k => ?_) h1, h2⟩
  simp only [span_each.l1]
  rw [hrow, zD (by omega), wrap_nat (by omega)]
  rfl
 | succ d ih =>
  intro i n s q hij hn h H
  have hil : i < (bs[b]).length := by omega
  obtain ⟨s1, h1, h2⟩ := hi (n + 1) (bs[b])[i] (aheadN bs z b (i + 1)) s q (by omega) (O.regs _ (List.getElem_mem hbl) _ (List.getElem_mem hil)) (O.args _ (List.getElem_mem hbl) _ (List.getElem_mem hil)) h
  obtain ⟨s'', h3, h4⟩ := ih (i + 1) (n + 1) s1 _ (by omega) (by omega) h2 (fun s' hs' => by
   have := H s' (by rw [drop_cons hil]; exact hs')
   rw [show n + (d + 1) = n + 1 + d by omega] at this
   exact this)
  refine ⟨s'', Ev.step (fun k => ?_) (Ev.bind (f := fun k bh => (fi k ((n + 1 : Nat) : Int) (bs[b])[i] bh s).bind fun s1 => span_each.l1 fb fi k pn pp (R : Int) bs inn ord ((n + 1 : Nat) : Int) (b : Int) (j : Int) ((i + 1 : Nat) : Int) s1) (aheadL_ev pn pp T.fair T.ok T.check T.sol T.sets (b := b) (i := i + 1) hbl (by rw [hgd]; omega)) (Ev.bind h1 h3)), h4⟩
  simp only [span_each.l1]
  rw [hrow, zC (by omega), zC (by omega), wrap_nat (by omega), wrap_nat (by omega), rd_ins hil]
include hb
theorem each_inv {s : σ} {q : γ} (h : Iv s q) : ∃ s', Ev (fun k => span_each.f fb fi k pn pp (R : Int) bs s) s' ∧ Iv s' (eachQ bq iq bs z (ordOf bs) 0 q) := by
 have O := T.small
 have hl := T.len
 have hzl := T.sol.len
 obtain ⟨ho1, ho2⟩ := order_ok bs
 have hol := order_len bs
 have key : ∀ (d j n : Nat) (s : σ) (q : γ), j + d = (ordOf bs).length → n ≤ 1000 * j → Iv s q → ∃ s', Ev (fun k => span_each.l0 fb fi k pn pp (R : Int) bs (z.map (toL R)) (ordOf bs) (n : Int) (j : Int) s) s' ∧ Iv s' (eachQ bq iq bs z ((ordOf bs).drop j) n q) := by
  intro d
  induction d with
  | zero =>
   intro j n s q hj hn h
   rw [List.drop_eq_nil_of_le (by omega)]
   exact ⟨s, Ev.step (f := fun _ => some s) (fun k => by simp only [span_each.l0]; rw [zD (by omega)]) (Ev.now _), h⟩
  | succ d ih =>
   intro j n s q hj hn h
   have hjl : j < (ordOf bs).length := by omega
   have hol' : (ordOf bs).length ≤ bs.length := hol
   have hm := ho2 _ (List.getElem_mem hjl)
   have hm' : 0 ≤ (ordOf bs)[j] ∧ (ordOf bs)[j] < bs.length := hm
   rw [drop_cons hjl]
   unfold eachQ
   obtain ⟨b, hbb⟩ : ∃ b : Nat, (ordOf bs)[j] = (b : Int) := ⟨((ordOf bs)[j]).toNat, by omega⟩
   have hbl : b < bs.length := by omega
   have hr := O.row _ (List.getElem_mem hbl)
   have hblk : blockAt bs (ordOf bs)[j] = bs[b] := by
    unfold blockAt
    rw [hbb, Int.toNat_natCast, List.getD_eq_getElem?_getD, List.getElem?_eq_getElem hbl]
    rfl
   have hbn : blen bs (ordOf bs)[j] = (bs[b]).length := by
    unfold blen
    rw [hblk]
   rw [hblk, hbn, hbb, Int.toNat_natCast]
   obtain ⟨s1, h1, h2⟩ := hb (n + 1) (at_ z b) s q (by omega) h
   obtain ⟨s', h3, h4⟩ := each_row T Iv hi hbl j (by omega) (z.map (toL R)) (ordOf bs) (eachQ bq iq bs z ((ordOf bs).drop (j + 1)) (n + (bs[b]).length) (rowQ iq bs z b (bs[b]) 0 n (bq (n + 1) (at_ z b) q))) (bs[b]).length 0 n s1 _ (by omega) (by omega) h2 (fun s' hs' => by
    rw [List.drop_zero] at hs'
    exact ih (j + 1) (n + (bs[b]).length) s' _ (by omega) (by omega) hs')
   refine ⟨s', Ev.step (fun k => ?_) (Ev.bind h1 h3), h4⟩
   simp only [span_each.l0]
   rw [zC (by omega), zC (by omega), rd_get hjl, hbb, zC (by omega), zC (by rw [List.length_map]; omega), zC (by omega), wrap_nat (by omega), rdL_map (by omega) (by omega), Int.toNat_natCast]
   rfl
 obtain ⟨s', h1, h2⟩ := key (ordOf bs).length 0 0 s q (by omega) (by omega) h
 rw [List.drop_zero] at h2
 exact ⟨s', Ev.bind (in_ev pn pp T.fair T.ok T.check T.sol T.sets) (Ev.bind (order_ev (by omega) O.small) h1), h2⟩
end

def eB (R : Nat) (n bits : Nat) (a : Int × Int) : Prop := a.1 ∈ toL R bits ∧ a.2 = 2 * n
def eI (R : Nat) (n : Nat) (x : SIns) (bits : Nat) (a : Int × Int) : Prop := ((a.1 ∈ uses x.f0 x.f2 x.f3 x.f5 ∨ (a.1 ∈ toL R bits ∧ a.1 ≠ defOf x.f0 x.f1)) ∧ a.2 = 2 * n) ∨ ((a.1 ∈ toL R bits ∨ a.1 = defOf x.f0 x.f1) ∧ a.2 = 2 * n + 1)
def orB {α : Type} (e : Nat → Nat → α → Prop) (n bits : Nat) (q : α → Prop) : α → Prop := fun a => q a ∨ e n bits a
def orI {α : Type} (e : Nat → SIns → Nat → α → Prop) (n : Nat) (x : SIns) (bits : Nat) (q : α → Prop) : α → Prop := fun a => q a ∨ e n x bits a
theorem toL_rng {R s : Nat} : ∀ r ∈ toL R s, 0 ≤ r ∧ r < R := fun r hr => by
 obtain ⟨n, rfl, h, _⟩ := toL_nat hr
 omega
theorem init_inv {R : Nat} (hR : R ≤ 1000) : ∃ o, Ev (fun k => span_Spans.l0 k (List.replicate R zSpan) (R : Int) 0) o ∧ SInv R o (fun _ _ => False) := by
 have key : ∀ (d j : Nat) (o : List SSpan), j + d = R → o.length = R → (∀ i, i < j → o.getD i zSpan = ⟨-1, -1⟩) → ∃ o', Ev (fun k => span_Spans.l0 k o (R : Int) (j : Int)) o' ∧ SInv R o' (fun _ _ => False) := by
  intro d
  induction d with
  | zero =>
   intro j o hj hl h
   refine ⟨o, Ev.step (f := fun _ => some o) (fun k => by simp only [span_Spans.l0]; rw [zD (by omega)]) (Ev.now _), hl, fun r hr => ?_⟩
   rw [h r (by omega)]
   exact none_is
  | succ d ih =>
   intro j o hj hl h
   obtain ⟨o', h1, h2⟩ := ih (j + 1) (o.set j ⟨-1, -1⟩) (by omega) (by rw [List.length_set]; exact hl) (fun i hi => by
    by_cases c : j = i
    ·subst c
     rw [List.getD_eq_getElem?_getD, List.getElem?_set_self (by omega)]
     rfl
    ·rw [List.getD_eq_getElem?_getD, List.getElem?_set_ne c, ← List.getD_eq_getElem?_getD]
     exact h i (by omega))
   refine ⟨o', Ev.step (fun k => ?_) h1, h2⟩
   simp only [span_Spans.l0]
   rw [zC (by omega), zC (by omega), zC (by omega), Int.toNat_natCast, wrap_nat (by omega)]
 exact key R 0 _ (by omega) List.length_replicate (fun i hi => by omega)
theorem params_inv {R P : Nat} (hP : P ≤ R) (hR : R ≤ 1000) {o : List SSpan} (h : SInv R o (fun _ _ => False)) : ∃ o', Ev (fun k => span_Spans.l2 k (P : Int) 0 o) o' ∧ SInv R o' (fun r p => (0 ≤ r ∧ r < P) ∧ p = 1) := by
 have key : ∀ (d j : Nat) (o : List SSpan), j + d = P → SInv R o (fun r p => (0 ≤ r ∧ r < j) ∧ p = 1) → ∃ o', Ev (fun k => span_Spans.l2 k (P : Int) (j : Int) o) o' ∧ SInv R o' (fun r p => (0 ≤ r ∧ r < P) ∧ p = 1) := by
  intro d
  induction d with
  | zero =>
   intro j o hj h
   obtain rfl : j = P := by omega
   exact ⟨o, Ev.step (f := fun _ => some o) (fun k => by simp only [span_Spans.l2]; rw [zD (by omega)]) (Ev.now _), h⟩
  | succ d ih =>
   intro j o hj h
   have hl := h.len
   have h2 := takeP_inv (r := (j : Int)) (p := 1) h (by omega) (by omega) (by omega)
   obtain ⟨o', h3, h4⟩ := ih (j + 1) _ (by omega) (h2.ext (fun r p hr => by
    constructor
    ·rintro (⟨a, b⟩ | ⟨a, b⟩)
     ·exact ⟨by omega, b⟩
     ·exact ⟨by omega, b⟩
    ·rintro ⟨a, b⟩
     by_cases c : (r : Int) = j
     ·exact .inr ⟨c, b⟩
     ·exact .inl ⟨by omega, b⟩))
   refine ⟨o', Ev.step (fun k => ?_) h3, h4⟩
   simp only [span_Spans.l2]
   rw [zC (by omega), take_eq (by omega) (by omega), zJ, wrap_nat (by omega)]
 exact key P 0 o (by omega) (h.ext (fun r p hr => by constructor; (intro h; exact h.elim); (rintro ⟨a, _⟩; omega)))
theorem spans_ev {pn : ByteArray} {pp : Int} {R : Nat} {bs : List (List SIns)} {z : List Nat} (T : Fit pn pp R bs z) : ∃ o, Ev (fun k => span_Spans.f k pn pp (R : Int) bs) o ∧ SInv R o (fun r p => eachQ (orB (eB R)) (orI (eI R)) bs z (ordOf bs) 0 (fun a => (0 ≤ a.1 ∧ a.1 < pp) ∧ a.2 = 1) (r, p)) := by
 have hS := T.ok.shape
 have hR := T.regs
 have h0 := hS.1
 have h1 := hS.2.2.1
 obtain ⟨k1, k2⟩ := checks pn T.fair T.ok T.check T.sol T.sets T.refin
 rw [zC T.low] at k1
 obtain ⟨o1, a1, a2⟩ := init_inv (R := R) (by omega)
 obtain ⟨P, rfl⟩ : ∃ P : Nat, pp = P := ⟨pp.toNat, by omega⟩
 obtain ⟨o2, b1, b2⟩ := params_inv (P := P) (by omega) (by omega) a2
 obtain ⟨o3, c1, c2⟩ := each_inv (bq := orB (eB R)) (iq := orI (eI R)) T (fun o (q : Int × Int → Prop) => SInv R o (fun r p => q (r, p))) (fb := span_Spans_2.f) (fi := span_Spans.ins)
  (fun n bits s q hn h => ahead_inv hn (by have := toL_len R bits; omega) toL_rng h)
  (fun n x bits s q hn O hx h => ins_inv hn O hx (by have := toL_len R bits; omega) toL_rng h) (q := fun a => (0 ≤ a.1 ∧ a.1 < (P : Int)) ∧ a.2 = 1) b2
 refine ⟨o3, Ev.bind k1 (Ev.congr (fun k => by rw [zC rfl, zC (by omega), zC (by omega), Int.toNat_natCast, List.length_replicate]) (Ev.bind a1 (Ev.bind b1 c1))), c2⟩

structure CInv (R : Nat) (o : List Bool) (Q : Int → Prop) : Prop where
 len : o.length = R
 is : ∀ r : Nat, r < R → (o.getD r false = true ↔ Q r)
theorem CInv.ext {R : Nat} {o : List Bool} {Q Q' : Int → Prop} (h : CInv R o Q) (e : ∀ (r : Nat), r < R → (Q r ↔ Q' r)) : CInv R o Q' := ⟨h.len, fun r hr => (h.is r hr).trans (e r hr)⟩
theorem CInv.uniq {R : Nat} {o o' : List Bool} {Q Q' : Int → Prop} (h : CInv R o Q) (h' : CInv R o' Q') (e : ∀ (r : Nat), r < R → (Q r ↔ Q' r)) : o = o' := by
 have l1 := h.len
 have l2 := h'.len
 apply List.ext_getElem (by omega)
 intro i h1 h2
 have a := h.is i (by omega)
 have b := h'.is i (by omega)
 rw [List.getD_eq_getElem?_getD, List.getElem?_eq_getElem h1] at a
 rw [List.getD_eq_getElem?_getD, List.getElem?_eq_getElem h2] at b
 rw [Bool.eq_iff_iff]
 exact a.trans ((e i (by omega)).trans b.symm)
theorem CInv.put {R : Nat} {o : List Bool} {Q : Int → Prop} (h : CInv R o Q) {r : Int} (h0 : 0 ≤ r) (h1 : r < R) : CInv R (o.set r.toNat true) (fun a => Q a ∨ a = r) := by
 have hl := h.len
 refine ⟨by rw [List.length_set]; exact hl, fun i hi => ?_⟩
 by_cases c : r.toNat = i
 ·subst c
  rw [List.getD_eq_getElem?_getD, List.getElem?_set_self (by omega)]
  simp
  right
  omega
 ·rw [List.getD_eq_getElem?_getD, List.getElem?_set_ne c, ← List.getD_eq_getElem?_getD, h.is i hi]
  have : ¬ ((i : Int) = r) := by omega
  simp [this]
theorem CInv.zero (R : Nat) : CInv R (List.replicate R false) (fun _ => False) := ⟨List.length_replicate, fun r hr => by
 rw [List.getD_eq_getElem?_getD, List.getElem?_replicate]
 split <;> simp⟩
def cI (R : Nat) (n : Nat) (x : SIns) (bits : Nat) (r : Int) : Prop := x.f0 = 11 ∧ r ∈ toL R bits ∧ r ≠ x.f1
def cB (n bits : Nat) (r : Int) : Prop := False
theorem cins_inv {R : Nat} {n : Nat} {x : SIns} {l : List Int} (hl : l.length ≤ 1000000) (hr : ∀ r ∈ l, 0 ≤ r ∧ r < R) {o : List Bool} {Q : Int → Prop} (h : CInv R o Q) :
 ∃ o', Ev (fun k => span_Crosses_2.f k (n : Int) x l o) o' ∧ CInv R o' (fun r => Q r ∨ (x.f0 = 11 ∧ r ∈ l ∧ r ≠ x.f1)) := by
 have key : ∀ (d j : Nat) (o : List Bool) (Q : Int → Prop), j + d = l.length → CInv R o Q → ∃ o', Ev (fun k => span_Crosses_2.l0 k x.f0 x.f1 l (j : Int) o) o' ∧ CInv R o' (fun r => Q r ∨ (x.f0 = 11 ∧ r ∈ l.drop j ∧ r ≠ x.f1)) := by
  intro d
  induction d with
  | zero =>
   intro j o Q hj h
   refine ⟨o, Ev.step (f := fun _ => some o) (fun k => by simp only [span_Crosses_2.l0]; rw [zD (by omega)]) (Ev.now _), h.ext (fun r hr => ?_)⟩
   rw [List.drop_eq_nil_of_le (by omega)]
   simp
  | succ d ih =>
   intro j o Q hj h
   have hjl : j < l.length := by omega
   have hm := hr _ (List.getElem_mem hjl)
   have ho := h.len
   by_cases c1 : x.f0 = 11
   ·by_cases c2 : l[j] = x.f1
    ·obtain ⟨o', h1, h2⟩ := ih (j + 1) o Q (by omega) h
     refine ⟨o', Ev.step (fun k => ?_) h1, h2.ext (fun r hr => ?_)⟩
     ·simp only [span_Crosses_2.l0]
      rw [zC (by omega), zC (by omega), rd_get hjl, zC c1, zC c2, wrap_nat (by omega)]
     ·rw [drop_cons hjl, List.mem_cons]
      constructor
      ·rintro (hq | ⟨e1, e2, e3⟩)
       ·exact .inl hq
       ·exact .inr ⟨e1, .inr e2, e3⟩
      ·rintro (hq | ⟨e1, e2 | e2, e3⟩)
       ·exact .inl hq
       ·exact absurd (e2.trans c2) e3
       ·exact .inr ⟨e1, e2, e3⟩
    ·obtain ⟨o', h1, h2⟩ := ih (j + 1) _ _ (by omega) (h.put hm.1 hm.2)
     refine ⟨o', Ev.step (fun k => ?_) h1, h2.ext (fun r hr => ?_)⟩
     ·simp only [span_Crosses_2.l0]
      rw [zC (by omega), zC (by omega), rd_get hjl, zC c1, zD c2, zC hm.1, zC (by omega), wrap_nat (by omega)]
     ·rw [drop_cons hjl, List.mem_cons]
      constructor
      ·rintro ((hq | hq) | ⟨e1, e2, e3⟩)
       ·exact .inl hq
       ·exact .inr ⟨c1, .inl hq, fun e => c2 (hq.symm.trans e)⟩
       ·exact .inr ⟨e1, .inr e2, e3⟩
      ·rintro (hq | ⟨e1, e2 | e2, e3⟩)
       ·exact .inl (.inl hq)
       ·exact .inl (.inr e2)
       ·exact .inr ⟨e1, e2, e3⟩
   ·obtain ⟨o', h1, h2⟩ := ih (j + 1) o Q (by omega) h
    refine ⟨o', Ev.step (fun k => ?_) h1, h2.ext (fun r hr => ?_)⟩
    ·simp only [span_Crosses_2.l0]
     rw [zC (by omega), zC (by omega), zD c1, wrap_nat (by omega)]
    ·simp [c1]
 obtain ⟨o', h1, h2⟩ := key l.length 0 o Q (by omega) h
 rw [List.drop_zero] at h2
 exact ⟨o', h1, h2⟩
theorem crosses_ev {pn : ByteArray} {pp : Int} {R : Nat} {bs : List (List SIns)} {z : List Nat} (T : Fit pn pp R bs z) : ∃ o, Ev (fun k => span_Crosses.f k pn pp (R : Int) bs) o ∧ CInv R o (eachQ (orB cB) (orI (cI R)) bs z (ordOf bs) 0 (fun _ => False)) := by
 have hS := T.ok.shape
 have hR := T.regs
 obtain ⟨k1, k2⟩ := checks pn T.fair T.ok T.check T.sol T.sets T.refin
 rw [zC T.low] at k1
 obtain ⟨o3, c1, c2⟩ := each_inv (bq := orB cB) (iq := orI (cI R)) T (CInv R) (fb := span_Crosses.blk) (fi := span_Crosses_2.f)
  (fun n bits s q hn h => ⟨s, Ev.now _, h.ext (fun r hr => by unfold orB cB; simp)⟩)
  (fun n x bits s q hn O hx h => cins_inv (by have := toL_len R bits; omega) toL_rng h) (CInv.zero R)
 refine ⟨o3, Ev.bind k1 (Ev.congr (fun k => by rw [zC rfl, zC (by omega), zC (by omega), Int.toNat_natCast]) c1), c2⟩

def startOf (bs : List (List SIns)) : List Int → Nat → Int → Nat
 | [], _, _ => 0
 | b :: l, n, v => if v = b then n else startOf bs l (n + blen bs b) v
theorem lay_row (bs : List (List SIns)) : ∀ (l : List Int) (n : Nat) (x : List (List Int)), l.Nodup → (∀ v ∈ l, 0 ≤ v ∧ v < x.length) → ∀ v ∈ l, (lay bs l n x).getD v.toNat [] = nums (startOf bs l n v) (blen bs v)
 | [], _, _, _, _, v, hv => by simp at hv
 | b :: l, n, x, hd, hr, v, hv => by
  have hd' := List.nodup_cons.1 hd
  have hb := hr b List.mem_cons_self
  unfold lay startOf
  by_cases c : v = b
  ·subst c
   rw [zC rfl, lay_out bs l _ _ v (fun w hw => (hr w (List.mem_cons_of_mem _ hw)).1) hb.1 hd'.1, getD_set_eq (by omega)]
   rfl
  ·rw [zD c]
   exact lay_row bs l (n + blen bs b) _ hd'.2 (fun w hw => by rw [List.length_set]; exact hr w (List.mem_cons_of_mem _ hw)) v ((List.mem_cons.1 hv).resolve_left c)
def begin_ (bs : List (List SIns)) (v : Int) : Nat := startOf bs (ordOf bs) 0 v
theorem places_row (bs : List (List SIns)) : ∀ v ∈ ordOf bs, (places bs).getD v.toNat [] = nums (begin_ bs v) (blen bs v) := by
 obtain ⟨h1, h2⟩ := order_ok bs
 exact lay_row bs _ 0 _ h1 (fun v hv => by rw [List.length_replicate]; exact h2 v hv)
section
variable {α : Type} (fB : Nat → Nat → α → Prop) (fI : Nat → SIns → Nat → α → Prop) (bs : List (List SIns)) (z : List Nat)
theorem rowQ_mem (b : Nat) (a : α) : ∀ (l : List SIns) (i n : Nat) (q : α → Prop), rowQ (orI fI) bs z b l i n q a ↔ q a ∨ ∃ k, ∃ h : k < l.length, fI (n + k + 1) l[k] (aheadN bs z b (i + k + 1)) a
 | [], i, n, q => by simp [rowQ]
 | x :: l, i, n, q => by
  unfold rowQ
  rw [rowQ_mem b a l (i + 1) (n + 1)]
  unfold orI
  constructor
  ·rintro ((h | h) | ⟨k, hk, h⟩)
   ·exact .inl h
   ·exact .inr ⟨0, by simp, h⟩
   ·refine .inr ⟨k + 1, by simpa using hk, ?_⟩
    rw [show n + (k + 1) + 1 = n + 1 + k + 1 by omega, show i + (k + 1) + 1 = i + 1 + k + 1 by omega]
    exact h
  ·rintro (h | ⟨k, hk, h⟩)
   ·exact .inl (.inl h)
   ·cases k with
    | zero => exact .inl (.inr h)
    | succ k =>
     refine .inr ⟨k, by simpa using hk, ?_⟩
     rw [show n + 1 + k + 1 = n + (k + 1) + 1 by omega, show i + 1 + k + 1 = i + (k + 1) + 1 by omega]
     exact h
theorem eachQ_mem (a : α) : ∀ (l : List Int) (n : Nat) (q : α → Prop), l.Nodup → (eachQ (orB fB) (orI fI) bs z l n q a ↔ q a ∨ ∃ b ∈ l, fB (startOf bs l n b + 1) (at_ z b.toNat) a ∨ ∃ k, ∃ h : k < (blockAt bs b).length, fI (startOf bs l n b + k + 1) (blockAt bs b)[k] (aheadN bs z b.toNat (k + 1)) a)
 | [], n, q, _ => by simp [eachQ]
 | b :: l, n, q, hd => by
  have hd' := List.nodup_cons.1 hd
  have hn : ∀ v ∈ l, startOf bs (b :: l) n v = startOf bs l (n + blen bs b) v := by
   intro v hv
   show (if v = b then n else startOf bs l (n + blen bs b) v) = _
   rw [zD (fun (e : v = b) => hd'.1 (e ▸ hv))]
  have hb : startOf bs (b :: l) n b = n := by
   show (if b = b then n else startOf bs l (n + blen bs b) b) = _
   rw [zC rfl]
  unfold eachQ
  rw [eachQ_mem a l _ _ hd'.2, rowQ_mem]
  simp only [Nat.zero_add]
  constructor
  ·rintro (((h | h) | h) | ⟨v, hv, h⟩)
   ·exact .inl h
   ·exact .inr ⟨b, List.mem_cons_self, by rw [hb]; exact .inl h⟩
   ·exact .inr ⟨b, List.mem_cons_self, by rw [hb]; exact .inr h⟩
   ·exact .inr ⟨v, List.mem_cons_of_mem _ hv, by rw [hn v hv]; exact h⟩
  ·rintro (h | ⟨v, hv, h⟩)
   ·exact .inl (.inl (.inl h))
   ·rcases List.mem_cons.1 hv with rfl | hv
    ·rw [hb] at h
     rcases h with h | h
     ·exact .inl (.inl (.inr h))
     ·exact .inl (.inr h)
    ·rw [hn v hv] at h
     exact .inr ⟨v, hv, h⟩
end
def insAt (bs : List (List SIns)) (b k : Nat) : SIns := (bs.getD b []).getD k zIns
def pt (R : Nat) (bs : List (List SIns)) (z : List Nat) (b k n : Nat) (r p : Int) : Prop :=
 (r ∈ toL R (aheadN bs z b k) ∧ p = 2 * n) ∨ ((r ∈ toL R (aheadN bs z b (k + 1)) ∨ r = defOf (insAt bs b k).f0 (insAt bs b k).f1) ∧ p = 2 * n + 1)
def allPts (pp : Int) (R : Nat) (bs : List (List SIns)) (z : List Nat) (r p : Int) : Prop :=
 ((0 ≤ r ∧ r < pp) ∧ p = 1) ∨ ∃ b k : Nat, (b : Int) ∈ ordOf bs ∧ k < blen bs b ∧ pt R bs z b k (begin_ bs b + k + 1) r p
def allCr (R : Nat) (bs : List (List SIns)) (z : List Nat) (r : Int) : Prop :=
 ∃ b k : Nat, (b : Int) ∈ ordOf bs ∧ k < blen bs b ∧ (insAt bs b k).f0 = 11 ∧ r ∈ toL R (aheadN bs z b (k + 1)) ∧ r ≠ (insAt bs b k).f1
theorem blen_nat {bs : List (List SIns)} {b : Nat} (hb : b < bs.length) : blockAt bs (b : Int) = bs[b] ∧ blen bs (b : Int) = (bs[b]).length := by
 have h : blockAt bs (b : Int) = bs[b] := getD_get hb
 exact ⟨h, by unfold blen; rw [h]⟩
theorem insAt_get {bs : List (List SIns)} {b k : Nat} (hb : b < bs.length) (hk : k < (bs[b]).length) : insAt bs b k = (bs[b])[k] := by
 unfold insAt
 rw [getD_get hb, List.getD_eq_getElem?_getD, List.getElem?_eq_getElem hk]
 rfl
theorem mem_ord {bs : List (List SIns)} {v : Int} (h : v ∈ ordOf bs) : ∃ b : Nat, v = b ∧ b < bs.length := by
 have := (order_ok bs).2 v h
 exact ⟨v.toNat, by omega, by omega⟩
section
variable {pn : ByteArray} {pp : Int} {R : Nat} {bs : List (List SIns)} {z : List Nat} (T : Fit pn pp R bs z)
include T
theorem step_mem {b k : Nat} (hb : b < bs.length) (hk : k < (bs[b]).length) {r : Nat} (hr : r < R) :
 (r : Int) ∈ toL R (aheadN bs z b k) ↔ (r : Int) ∈ uses (bs[b])[k].f0 (bs[b])[k].f2 (bs[b])[k].f3 (bs[b])[k].f5 ∨ ((r : Int) ∈ toL R (aheadN bs z b (k + 1)) ∧ (r : Int) ≠ defOf (bs[b])[k].f0 (bs[b])[k].f1) := by
 have O := T.small
 have hgd : bs.getD b [] = bs[b] := getD_get hb
 have hA : aheadN bs z b k = thrN (bs[b])[k] (aheadN bs z b (k + 1)) := by
  unfold aheadN
  rw [hgd, drop_cons hk]
  rfl
 have hlt := aheadN_lt O T.sol (b := b) (i := k + 1) hb
 have hbit := thrN_bit (O.regs _ (List.getElem_mem hb) _ (List.getElem_mem hk)) hlt r
 rw [mem_toL, mem_toL, hA, hbit]
 simp only [Bool.or_eq_true, Bool.and_eq_true, decide_eq_true_eq, hr, true_and]
 constructor
 ·rintro (h | h)
  ·exact .inr h
  ·exact .inl h
 ·rintro (h | h)
  ·exact .inr h
  ·exact .inl h
theorem spans_all : ∃ o, Ev (fun k => span_Spans.f k pn pp (R : Int) bs) o ∧ SInv R o (allPts pp R bs z) := by
 obtain ⟨o, h1, h2⟩ := spans_ev T
 refine ⟨o, h1, h2.ext (fun r p hr => ?_)⟩
 rw [eachQ_mem (eB R) (eI R) bs z (((r : Nat) : Int), p) (ordOf bs) 0 _ (order_ok bs).1]
 constructor
 ·rintro (h | ⟨v, hv, h⟩)
  ·exact .inl h
  ·obtain ⟨b, rfl, hb⟩ := mem_ord hv
   obtain ⟨e1, e2⟩ := blen_nat hb
   have hne := T.ok.row _ (List.getElem_mem hb)
   rcases h with ⟨h, hp⟩ | ⟨k, hk, h⟩
   ·refine .inr ⟨b, 0, hv, by omega, .inl ⟨?_, hp⟩⟩
    rw [T.sol.eq b hb]
    exact h
   ·refine .inr ⟨b, k, hv, hk, ?_⟩
    have hk' : k < (bs[b]).length := by rw [e1] at hk; exact hk
    have hx : (blockAt bs (b : Int))[k] = (bs[b])[k] := by simp only [e1]
    rw [hx] at h
    unfold pt
    rw [insAt_get hb hk', step_mem T hb hk' hr]
    exact h
 ·rintro (h | ⟨b, k, hv, hk, h⟩)
  ·exact .inl h
  ·have hb : b < bs.length := by
    obtain ⟨b', e, hb'⟩ := mem_ord hv
    omega
   obtain ⟨e1, e2⟩ := blen_nat hb
   have hk' : k < (bs[b]).length := by rw [e2] at hk; exact hk
   refine .inr ⟨b, hv, .inr ⟨k, by rw [e1]; exact hk', ?_⟩⟩
   have hx : (blockAt bs (b : Int))[k]'(by rw [e1]; exact hk') = (bs[b])[k] := by simp only [e1]
   rw [hx]
   unfold pt at h
   rw [insAt_get hb hk', step_mem T hb hk' hr] at h
   exact h
theorem crosses_all : ∃ o, Ev (fun k => span_Crosses.f k pn pp (R : Int) bs) o ∧ CInv R o (allCr R bs z) := by
 obtain ⟨o, h1, h2⟩ := crosses_ev T
 refine ⟨o, h1, h2.ext (fun r hr => ?_)⟩
 rw [eachQ_mem cB (cI R) bs z (r : Int) (ordOf bs) 0 _ (order_ok bs).1]
 constructor
 ·rintro (h | ⟨v, hv, h⟩)
  ·exact h.elim
  ·obtain ⟨b, rfl, hb⟩ := mem_ord hv
   obtain ⟨e1, e2⟩ := blen_nat hb
   rcases h with h | ⟨k, hk, h⟩
   ·exact h.elim
   ·have hk' : k < (bs[b]).length := by rw [e1] at hk; exact hk
    have hx : (blockAt bs (b : Int))[k] = (bs[b])[k] := by simp only [e1]
    rw [hx] at h
    refine ⟨b, k, hv, hk, ?_⟩
    rw [insAt_get hb hk']
    exact h
 ·rintro ⟨b, k, hv, hk, h⟩
  have hb : b < bs.length := by
   obtain ⟨b', e, hb'⟩ := mem_ord hv
   omega
  obtain ⟨e1, e2⟩ := blen_nat hb
  have hk' : k < (bs[b]).length := by rw [e2] at hk; exact hk
  refine .inr ⟨b, hv, .inr ⟨k, by rw [e1]; exact hk', ?_⟩⟩
  have hx : (blockAt bs (b : Int))[k]'(by rw [e1]; exact hk') = (bs[b])[k] := by simp only [e1]
  rw [hx]
  rw [insAt_get hb hk'] at h
  exact h
end

section
variable (pn : ByteArray) (pp rg : Int) (bs : List (List SIns)) (hr : ∀ b ∈ bs, b.length ≤ 1000)
include hr
theorem ref_row (ord : List Int) (hol : ord.length ≤ 1000) (i : Nat) (hi : i < ord.length) (b : Nat) (hb : b < bs.length) (hbo : ord[i] = (b : Int)) (r : List (List Int)) (x : List (List Int)) (hx : x.length = bs.length) : ∀ (d j n : Nat), j + d = (bs[b]).length → n ≤ 1000000000 →
 Ev (fun k => cubbyref12_Places.l0 k (x.set b (nums n (bs[b]).length)) ord ((n + (bs[b]).length : Nat) : Int) ((i + 1 : Nat) : Int) pn pp rg bs) r →
 Ev (fun k => cubbyref12_Places.l1 k x ord ((n + j : Nat) : Int) (i : Int) (nums n j) (j : Int) pn pp rg bs) r := by
 have hbl := hr _ (List.getElem_mem hb)
 intro d
 induction d with
 | zero =>
  intro j n hj hn hE
  obtain rfl : j = (bs[b]).length := by omega
  refine Ev.step (fun k => ?_) hE
  simp only [cubbyref12_Places.l1]
  rw [zC (by omega), zC (by omega), rd_get hi, hbo, zC (by omega), zC (by omega), rdL_get hb, zD (by omega), zC (by omega), wrap_nat (by omega), Int.toNat_natCast]
 | succ d ih =>
  intro j n hj hn hE
  have h2 := ih (j + 1) n (by omega) hn hE
  refine Ev.step (fun k => ?_) h2
  simp only [cubbyref12_Places.l1]
  rw [zC (by omega), zC (by omega), rd_get hi, hbo, zC (by omega), zC (by omega), rdL_get hb, zC (by omega), zC (by rw [nums_len]; omega), wrap_nat (by omega), wrap_nat (by omega), nums_succ]
  rfl
theorem ref_all (ord : List Int) (hol : ord.length ≤ 1000) (hrg : ∀ v ∈ ord, 0 ≤ v ∧ v < bs.length) : ∀ (d i n : Nat) (x : List (List Int)), i + d = ord.length → n ≤ 1000 * i → x.length = bs.length →
 Ev (fun k => cubbyref12_Places.l0 k x ord (n : Int) (i : Int) pn pp rg bs) (lay bs (ord.drop i) n x) := by
 intro d
 induction d with
 | zero =>
  intro i n x hi hn hx
  rw [List.drop_eq_nil_of_le (by omega)]
  exact Ev.step (f := fun _ => some x) (fun k => by simp only [cubbyref12_Places.l0]; rw [zD (by omega)]) (Ev.now _)
 | succ d ih =>
  intro i n x hi hn hx
  have hil : i < ord.length := by omega
  have hm := hrg _ (List.getElem_mem hil)
  rw [drop_cons hil]
  unfold lay
  obtain ⟨b, hb⟩ : ∃ b : Nat, ord[i] = (b : Int) := ⟨(ord[i]).toNat, by omega⟩
  have hbl : b < bs.length := by omega
  have hblk : blockAt bs ord[i] = bs[b] := by rw [hb]; exact (blen_nat hbl).1
  have hlen := hr _ (List.getElem_mem hbl)
  rw [hblk, hb, Int.toNat_natCast]
  have h1 := ih (i + 1) (n + (bs[b]).length) (x.set b (nums n (bs[b]).length)) (by omega) (by omega) (by rw [List.length_set]; exact hx)
  have h2 := ref_row pn pp rg bs hr ord hol i hil b hbl hb _ x hx (bs[b]).length 0 n (by omega) (by omega) h1
  refine Ev.step (fun k => ?_) h2
  simp only [cubbyref12_Places.l0]
  rw [zC (by omega)]
  rfl
end
theorem refplaces_ev {pn : ByteArray} {pp : Int} {R : Nat} {bs : List (List SIns)} {z : List Nat} (T : Fit pn pp R bs z) : Ev (fun k => cubbyref12_Places.f k pn pp (R : Int) bs) (places bs) := by
 have O := T.small
 have hl := T.len
 obtain ⟨k1, k2⟩ := checks pn T.fair T.ok T.check T.sol T.sets T.refin
 rw [zC T.low] at k2
 obtain ⟨h1, h2⟩ := order_ok bs
 have hol := order_len bs
 have h3 := ref_all pn pp (R : Int) bs O.row (order (succs bs) bs.length) (by omega) h2 (order (succs bs) bs.length).length 0 0 (List.replicate bs.length []) (by omega) (by omega) (by simp)
 rw [List.drop_zero] at h3
 refine Ev.bind k2 (Ev.congr (fun k => by rw [zC rfl, zC (by omega), zC (by omega), Int.toNat_natCast]) (Ev.bind (reforder_ev (by omega) O.small) h3))
theorem refhas12_ev (l : List Int) (x : Int) (hl : l.length ≤ 4611686018427387904) : Ev (fun k => cubbyref12_has.f k l x) (decide (x ∈ l)) := by
 refine scan (fun k j => cubbyref12_has.l0 k l x (j : Int)) l.length (fun j => decide (x ∈ l.drop j)) ?_ ?_ 0 (Nat.zero_le _)
 ·refine Ev.step (f := fun _ => some false) (fun k => by simp only [cubbyref12_has.l0]; rw [zD (by omega)]) ?_
  rw [List.drop_eq_nil_of_le (Nat.le_refl _)]
  exact Ev.now _
 ·intro j hj hE
  rw [drop_cons hj]
  by_cases c : l[j] = x
  ·refine Ev.step (f := fun _ => some true) (fun k => by simp only [cubbyref12_has.l0]; rw [zC (by omega), zC (by omega), rd_get hj, zC c]) ?_
   rw [zF (by rw [List.mem_cons]; exact .inl c.symm)]
   exact Ev.now _
  ·have e : decide (x ∈ l[j] :: l.drop (j + 1)) = decide (x ∈ l.drop (j + 1)) := by
    apply decide_eq_decide.2
    rw [List.mem_cons]
    exact ⟨fun h => h.resolve_left (fun e => c e.symm), .inr⟩
   rw [e]
   exact Ev.step (fun k => by simp only [cubbyref12_has.l0]; rw [zC (by omega), zC (by omega), rd_get hj, zD c, wrap_nat (by omega)]) hE
theorem cond_take {R : Nat} {o : List SSpan} {Q : Int → Int → Prop} {r p : Int} (c : Prop) [Decidable c] (h : SInv R o Q) (h0 : 0 ≤ r) (h1 : r < R) (hp : 0 ≤ p) : SInv R (if c then takeP r p o else o) (fun r' q => Q r' q ∨ (c ∧ r' = r ∧ q = p)) := by
 split
 ·next hc => exact (takeP_inv h h0 h1 hp).ext (fun r' q hr => by simp [hc])
 ·next hc => exact h.ext (fun r' q hr => by simp [hc])
theorem reftake (s : SSpan) (p : Int) : cubbyref12_take.f s.f0 s.f1 p = some ((takeS s p).f0, (takeS s p).f1) := by
 unfold cubbyref12_take.f takeS
 split <;> rfl
section
variable {R : Nat} (hR : R ≤ 1000) (pn : ByteArray) (pp : Int) (bs : List (List SIns)) (p : List (List Int))
include hR
theorem ref_regs {b k n : Nat} (hb : b < bs.length) (hk : k < (bs[b]).length) (hk1 : (bs[b]).length ≤ 1000) (hn : n ≤ 1000000) (a bh : List Int) (ha : a.length ≤ 1000) (hbh : bh.length ≤ 1000) (Qf : Int → Int → Prop) : ∀ (d r : Nat) (o : List SSpan) (Q : Int → Int → Prop), r + d = R → SInv R o Q →
 (∀ o', SInv R o' (fun r' q => Q r' q ∨ ((r : Int) ≤ r' ∧ ((r' ∈ a ∧ q = 2 * n) ∨ ((r' ∈ bh ∨ r' = defOf (bs[b])[k].f0 (bs[b])[k].f1) ∧ q = 2 * n + 1)))) → ∃ o'', Ev (fun m => cubbyref12_Spans.l2 m o' p (b : Int) ((k + 1 : Nat) : Int) pn pp (R : Int) bs) o'' ∧ SInv R o'' Qf) →
 ∃ o'', Ev (fun m => cubbyref12_Spans.l3 m o p (b : Int) (k : Int) (n : Int) a bh (r : Int) pn pp (R : Int) bs) o'' ∧ SInv R o'' Qf := by
 have hrow : rd_LIns bs (b : Int) = bs[b] := getD_get hb
 intro d
 induction d with
 | zero =>
  intro r o Q hr h H
  obtain ⟨o'', h1, h2⟩ := H o (h.ext (fun r' q hr' => by
   have : ¬ ((r : Int) ≤ r') := by omega
   simp [this]))
  refine ⟨o'', Ev.step (fun m => ?_) h1, h2⟩
  simp only [cubbyref12_Spans.l3]
  rw [zD (by omega)]
  rw [wrap_nat (by omega)]
 | succ d ih =>
  intro r o Q hr h H
  have hm : (bs[b])[k] = rd_TIns (bs[b]) (k : Int) := (rd_ins hk).symm
  have hro : (r : Int) < R := by omega
  obtain ⟨dx, hdx⟩ : ∃ dx, dx = defOf (bs[b])[k].f0 (bs[b])[k].f1 := ⟨_, rfl⟩
  rw [← hdx] at H ih
  have hw1 : wrap64 (2 * (n : Int)) = 2 * n := (w2 hn).1
  have hw2 : wrap64 (wrap64 (2 * (n : Int)) + 1) = 2 * n + 1 := (w2 hn).2
  have J4 : ∀ o1, SInv R o1 (fun r' q => Q r' q ∨ (((r : Int) ∈ a) ∧ r' = r ∧ q = 2 * n)) → ∃ o'', Ev (fun m => cubbyref12_Spans.j4 m o1 p (b : Int) (k : Int) (n : Int) a bh (r : Int) pn pp (R : Int) bs) o'' ∧ SInv R o'' Qf := by
   intro o1 h1
   have hl1 := h1.len
   have h2 := cond_take ((r : Int) ∈ bh ∨ dx = (r : Int)) h1 (r := (r : Int)) (p := 2 * n + 1) (by omega) hro (by omega)
   obtain ⟨o'', e1, e2⟩ := ih (r + 1) _ _ (by omega) h2 (fun o' ho' => H o' (ho'.ext (fun r' q hr' => by
    constructor
    ·rintro (((hq | ⟨h3, h4, h5⟩) | ⟨h3, h4, h5⟩) | ⟨h3, h4⟩)
     ·exact .inl hq
     ·exact .inr ⟨by omega, .inl ⟨by rw [h4]; exact h3, h5⟩⟩
     ·exact .inr ⟨by omega, .inr ⟨by rw [h4]; exact h3.imp id (fun e => e.symm), h5⟩⟩
     ·exact .inr ⟨by omega, h4⟩
    ·rintro (hq | ⟨h3, h4⟩)
     ·exact .inl (.inl (.inl hq))
     ·by_cases c : (r' : Int) = r
      ·rcases h4 with ⟨h5, h6⟩ | ⟨h5, h6⟩
       ·exact .inl (.inl (.inr ⟨by rw [← c]; exact h5, c, h6⟩))
       ·exact .inl (.inr ⟨by rw [← c]; exact h5.imp id (fun e => e.symm), c, h6⟩)
      ·exact .inr ⟨by omega, h4⟩)))
   refine ⟨o'', ?_, e2⟩
   by_cases c1 : (r : Int) ∈ bh
   ·rw [zC (.inl c1)] at e1
    have k1 := refhas12_ev bh (r : Int) (by omega)
    rw [zF c1] at k1
    refine Ev.step (fun m => by simp only [cubbyref12_Spans.j4]; rfl) (Ev.bind k1 (Ev.congr (fun m => ?_) e1))
    rw [zC rfl, zC (by omega), zC (by omega), hw2, reftake, zJ, wrap_nat (by omega)]
    rfl
   ·have k1 := refhas12_ev bh (r : Int) (by omega)
    rw [zG c1] at k1
    refine Ev.step (fun m => by simp only [cubbyref12_Spans.j4]; rfl) (Ev.bind k1 (Ev.congr (fun m => ?_) e1))
    rw [zD Bool.false_ne_true, zC (by omega), zC (by omega), zC (by omega), hrow, zC (by omega), ← hm, refdef_eq, zJ, ← hdx]
    by_cases c2 : dx = (r : Int)
    ·rw [zC c2, zC (by omega), zC (by omega), hw2, reftake, zJ, wrap_nat (by omega), zC (.inr c2)]
     rfl
    ·rw [zD c2, wrap_nat (by omega), zD (fun h => h.elim c1 c2)]
  have hl := h.len
  have h1 := cond_take ((r : Int) ∈ a) h (r := (r : Int)) (p := 2 * n) (by omega) hro (by omega)
  obtain ⟨o'', e1, e2⟩ := J4 _ h1
  refine ⟨o'', ?_, e2⟩
  have k1 := refhas12_ev a (r : Int) (by omega)
  by_cases c1 : (r : Int) ∈ a
  ·rw [zC c1] at e1
   rw [zF c1] at k1
   refine Ev.step (fun m => by simp only [cubbyref12_Spans.l3]; rw [zC hro]) (Ev.bind k1 (Ev.congr (fun m => ?_) e1))
   rw [zC rfl, zC (by omega), zC (by omega), hw1, reftake, zJ]
   rfl
  ·rw [zD c1] at e1
   rw [zG c1] at k1
   refine Ev.step (fun m => by simp only [cubbyref12_Spans.l3]; rw [zC hro]) (Ev.bind k1 (Ev.congr (fun m => ?_) e1))
   rw [zD Bool.false_ne_true]
end
theorem refinit {pn : ByteArray} {R : Nat} {bs : List (List SIns)} {P : Nat} (hP : P ≤ R) (hR : R ≤ 1000) (p : List (List Int)) (pp' : Int) (hpp : pp' = P) : ∃ o, SInv R o (fun r q => (0 ≤ r ∧ r < pp') ∧ q = 1) ∧ ∀ r, Ev (fun k => cubbyref12_Spans.l1 k o p 0 pn pp' (R : Int) bs) r → Ev (fun k => cubbyref12_Spans.l0 k [] p 0 pn pp' (R : Int) bs) r := by
 have key : ∀ (d j : Nat) (o : List SSpan), j + d = R → o.length = j → (∀ i : Nat, i < j → IsSpan (o.getD i zSpan) (fun q => (0 ≤ (i : Int) ∧ (i : Int) < pp') ∧ q = 1)) → ∃ o', SInv R o' (fun r q => (0 ≤ r ∧ r < pp') ∧ q = 1) ∧ ∀ r, Ev (fun k => cubbyref12_Spans.l1 k o' p 0 pn pp' (R : Int) bs) r → Ev (fun k => cubbyref12_Spans.l0 k o p (j : Int) pn pp' (R : Int) bs) r := by
  intro d
  induction d with
  | zero =>
   intro j o hj hl h
   refine ⟨o, ⟨by omega, fun r hr => h r (by omega)⟩, fun r hE => Ev.step (fun k => ?_) hE⟩
   simp only [cubbyref12_Spans.l0]
   rw [zD (by omega)]
  | succ d ih =>
   intro j o hj hl h
   have hget : ∀ s : SSpan, IsSpan s (fun q => (0 ≤ (j : Int) ∧ (j : Int) < pp') ∧ q = 1) → ∀ i : Nat, i < j + 1 → IsSpan ((o ++ [s]).getD i zSpan) (fun q => (0 ≤ (i : Int) ∧ (i : Int) < pp') ∧ q = 1) := by
    intro s hs i hi
    by_cases c : i < j
    ·rw [List.getD_eq_getElem?_getD, List.getElem?_append_left (by omega), ← List.getD_eq_getElem?_getD]
     exact h i c
    ·obtain rfl : i = j := by omega
     rw [List.getD_eq_getElem?_getD, List.getElem?_append_right (by omega), hl, Nat.sub_self]
     exact hs
   by_cases c : (j : Int) < pp'
   ·have hs : IsSpan ⟨1, 1⟩ (fun q => (0 ≤ (j : Int) ∧ (j : Int) < pp') ∧ q = 1) := ⟨fun h => absurd ⟨⟨by omega, c⟩, rfl⟩ (h 1), fun _ => ⟨⟨⟨by omega, c⟩, rfl⟩, ⟨⟨by omega, c⟩, rfl⟩, fun q hq => by obtain ⟨_, rfl⟩ := hq; exact ⟨Int.le_refl _, Int.le_refl _⟩⟩, fun q hq => by obtain ⟨_, rfl⟩ := hq; decide⟩
    obtain ⟨o', h1, h2⟩ := ih (j + 1) (o ++ [⟨1, 1⟩]) (by omega) (by rw [List.length_append, hl]; rfl) (hget _ hs)
    refine ⟨o', h1, fun r hE => Ev.step (fun k => ?_) (h2 r hE)⟩
    simp only [cubbyref12_Spans.l0]
    rw [zC (by omega), zC c, show cubbyref12_take.f (-1) (-1) 1 = some (1, 1) from rfl, zJ, zC (by omega), wrap_nat (by omega)]
   ·have hs : IsSpan ⟨-1, -1⟩ (fun q => (0 ≤ (j : Int) ∧ (j : Int) < pp') ∧ q = 1) := ⟨fun _ => rfl, fun ⟨q, h⟩ => absurd h.1.2 c, fun q h => absurd h.1.2 c⟩
    obtain ⟨o', h1, h2⟩ := ih (j + 1) (o ++ [⟨-1, -1⟩]) (by omega) (by rw [List.length_append, hl]; rfl) (hget _ hs)
    refine ⟨o', h1, fun r hE => Ev.step (fun k => ?_) (h2 r hE)⟩
    simp only [cubbyref12_Spans.l0]
    rw [zC (by omega), zD c, zC (by omega), wrap_nat (by omega)]
 exact key R 0 [] (by omega) rfl (fun i hi => by omega)
section
variable {pn : ByteArray} {pp : Int} {R : Nat} {bs : List (List SIns)} {z : List Nat} (T : Fit pn pp R bs z)
include T
def ptsTo (pp : Int) (R : Nat) (bs : List (List SIns)) (z : List Nat) (b k : Nat) (r p : Int) : Prop :=
 ((0 ≤ r ∧ r < pp) ∧ p = 1) ∨ ∃ v i : Nat, (v : Int) ∈ ordOf bs ∧ i < blen bs v ∧ (v < b ∨ v = b ∧ i < k) ∧ pt R bs z v i (begin_ bs v + i + 1) r p
theorem refspans_all : ∃ o, Ev (fun k => cubbyref12_Spans.f k pn pp (R : Int) bs) o ∧ SInv R o (allPts pp R bs z) := by
 have O := T.small
 have hl := T.len
 have hR := T.regs
 have hS := T.ok.shape
 have h0 := hS.1
 have h1 := hS.2.2.1
 have hpl := places_len bs
 obtain ⟨k1, k2⟩ := checks pn T.fair T.ok T.check T.sol T.sets T.refin
 rw [zC T.low] at k2
 obtain ⟨S0, T0⟩ := places_starts bs
 have hsum := sum_le bs
 have htot := T.tot
 have rows : ∀ (d b : Nat) (o : List SSpan), b + d = bs.length → SInv R o (ptsTo pp R bs z b 0) → ∃ o', Ev (fun k => cubbyref12_Spans.l1 k o (places bs) (b : Int) pn pp (R : Int) bs) o' ∧ SInv R o' (allPts pp R bs z) := by
  intro d
  induction d with
  | zero =>
   intro b o hb h
   refine ⟨o, Ev.step (f := fun _ => some o) (fun k => by simp only [cubbyref12_Spans.l1]; rw [zD (by omega)]) (Ev.now _), h.ext (fun r p hr => ?_)⟩
   constructor
   ·rintro (h | ⟨v, i, h1, h2, -, h3⟩)
    ·exact .inl h
    ·exact .inr ⟨v, i, h1, h2, h3⟩
   ·rintro (h | ⟨v, i, h1, h2, h3⟩)
    ·exact .inl h
    ·obtain ⟨v', e, hv'⟩ := mem_ord h1
     exact .inr ⟨v, i, h1, h2, .inl (by omega), h3⟩
  | succ d ih =>
   intro b o hbd h
   have hb : b < bs.length := by omega
   have hgd : bs.getD b [] = bs[b] := getD_get hb
   have hrl := O.row _ (List.getElem_mem hb)
   obtain ⟨e1, e2⟩ := blen_nat hb
   by_cases cin : (b : Int) ∈ ordOf bs
   ·have hrow : rd_LInt (places bs) (b : Int) = nums (begin_ bs b) (blen bs b) := places_row bs _ cin
    have hS0 : begin_ bs b ≤ 1000 := by
     have h2 := T0.row b cin
     have h3 := T0.high b cin
     have h4 := places_row bs _ cin
     rw [h2] at h4
     have hne := T.ok.row _ (List.getElem_mem hb)
     have h5 := congrArg (fun l : List Int => l.getD 0 0) h4
     rw [nums_get (by omega), nums_get (by omega)] at h5
     omega
    have ins : ∀ (d k : Nat) (o : List SSpan), k + d = (bs[b]).length → SInv R o (ptsTo pp R bs z b k) → ∃ o', Ev (fun m => cubbyref12_Spans.l2 m o (places bs) (b : Int) (k : Int) pn pp (R : Int) bs) o' ∧ SInv R o' (allPts pp R bs z) := by
     intro d
     induction d with
     | zero =>
      intro k o hk h
      obtain ⟨o', h2, h3⟩ := ih (b + 1) o (by omega) (h.ext (fun r p hr => by
       constructor
       ·rintro (h | ⟨v, i, a1, a2, a3, a4⟩)
        ·exact .inl h
        ·exact .inr ⟨v, i, a1, a2, .inl (by omega), a4⟩
       ·rintro (h | ⟨v, i, a1, a2, a3, a4⟩)
        ·exact .inl h
        ·refine .inr ⟨v, i, a1, a2, ?_, a4⟩
         rcases a3 with a3 | ⟨a3, a5⟩
         ·by_cases c : v = b
          ·subst c
           exact .inr ⟨rfl, by omega⟩
          ·exact .inl (by omega)
         ·omega))
      refine ⟨o', Ev.step (fun m => ?_) h2, h3⟩
      simp only [cubbyref12_Spans.l2]
      rw [zC (by omega), zC (by omega), hrow, nums_len, zD (by omega), wrap_nat (by omega)]
     | succ d ih2 =>
      intro k o hk h
      have hkl : k < (bs[b]).length := by omega
      have l1 := refaheadL_ev pn pp T.fair T.ok T.check T.sol T.refin (b := b) (i := k) hb (by rw [hgd]; omega)
      have l2 := refaheadL_ev pn pp T.fair T.ok T.check T.sol T.refin (b := b) (i := k + 1) hb (by rw [hgd]; omega)
      have hx : rd (nums (begin_ bs b) (blen bs b)) (k : Int) = ((begin_ bs b + 1 + k : Nat) : Int) := nums_get (by omega)
      obtain ⟨o', h2, h3⟩ := ref_regs (R := R) (by omega) pn pp bs (places bs) (b := b) (k := k) (n := begin_ bs b + 1 + k) hb hkl hrl (by omega) (toL R (aheadN bs z b k)) (toL R (aheadN bs z b (k + 1))) (by have := toL_len R (aheadN bs z b k); omega) (by have := toL_len R (aheadN bs z b (k + 1)); omega) (allPts pp R bs z) R 0 o _ (by omega) h (fun o' ho' => ih2 (k + 1) o' (by omega) (ho'.ext (fun r p hr => by
       have hpt : pt R bs z b k (begin_ bs b + k + 1) (r : Int) p ↔ (((r : Int) ∈ toL R (aheadN bs z b k) ∧ p = 2 * ((begin_ bs b + 1 + k : Nat) : Int)) ∨ (((r : Int) ∈ toL R (aheadN bs z b (k + 1)) ∨ (r : Int) = defOf (bs[b])[k].f0 (bs[b])[k].f1) ∧ p = 2 * ((begin_ bs b + 1 + k : Nat) : Int) + 1)) := by
        unfold pt
        rw [insAt_get hb hkl, show begin_ bs b + k + 1 = begin_ bs b + 1 + k by omega]
       constructor
       ·rintro ((h | ⟨v, i, a1, a2, a3, a4⟩) | ⟨_, h⟩)
        ·exact .inl h
        ·exact .inr ⟨v, i, a1, a2, by omega, a4⟩
        ·exact .inr ⟨b, k, cin, by omega, .inr ⟨rfl, by omega⟩, hpt.2 h⟩
       ·rintro (h | ⟨v, i, a1, a2, a3, a4⟩)
        ·exact .inl (.inl h)
        ·by_cases c : v = b ∧ i = k
         ·obtain ⟨rfl, rfl⟩ := c
          exact .inr ⟨by omega, hpt.1 a4⟩
         ·exact .inl (.inr ⟨v, i, a1, a2, by omega, a4⟩))))
      refine ⟨o', Ev.step (fun m => ?_) (Ev.bind (f := fun m t => (cubbyref11_Ahead.f m pn pp (R : Int) bs (b : Int) ((k + 1 : Nat) : Int)).bind fun t2 => cubbyref12_Spans.l3 m o (places bs) (b : Int) (k : Int) ((begin_ bs b + 1 + k : Nat) : Int) t t2 ((0 : Nat) : Int) pn pp (R : Int) bs) l1 (Ev.bind l2 h2)), h3⟩
      simp only [cubbyref12_Spans.l2]
      rw [zC (by omega), zC (by omega), hrow, nums_len, zC (by omega), zC (by omega), wrap_nat (by omega), hx]
      rfl
    obtain ⟨o', h2, h3⟩ := ins (bs[b]).length 0 o (by omega) h
    refine ⟨o', Ev.step (fun m => ?_) h2, h3⟩
    simp only [cubbyref12_Spans.l1]
    rw [zC (by omega)]
    rfl
   ·have hrow : rd_LInt (places bs) (b : Int) = [] := places_out (by omega) cin
    obtain ⟨o', h2, h3⟩ := ih (b + 1) o (by omega) (h.ext (fun r p hr => by
     constructor
     ·rintro (h | ⟨v, i, a1, a2, a3, a4⟩)
      ·exact .inl h
      ·exact .inr ⟨v, i, a1, a2, .inl (by omega), a4⟩
     ·rintro (h | ⟨v, i, a1, a2, a3, a4⟩)
      ·exact .inl h
      ·refine .inr ⟨v, i, a1, a2, ?_, a4⟩
       by_cases c : v = b
       ·subst c
        exact absurd a1 cin
       ·exact .inl (by omega)))
    refine ⟨o', Ev.step (f := fun m => cubbyref12_Spans.l2 m o (places bs) (b : Int) 0 pn pp (R : Int) bs) (fun m => by simp only [cubbyref12_Spans.l1]; rw [zC (by omega)]) (Ev.step (fun m => ?_) h2), h3⟩
    simp only [cubbyref12_Spans.l2]
    rw [zC (by omega), zC (by omega), hrow, zD (by simp), wrap_nat (by omega)]
 obtain ⟨P, hP⟩ : ∃ P : Nat, pp = P := ⟨pp.toNat, by omega⟩
 obtain ⟨o1, a1, a2⟩ := refinit (pn := pn) (R := R) (bs := bs) (P := P) (by omega) (by omega) (places bs) pp hP
 obtain ⟨o', h2, h3⟩ := rows bs.length 0 o1 (by omega) (a1.ext (fun r p hr => by
  constructor
  ·exact .inl
  ·rintro (h | ⟨v, i, b1, b2, b3, b4⟩)
   ·exact h
   ·omega))
 exact ⟨o', Ev.bind k2 (Ev.congr (fun k => by rw [zC rfl]) (Ev.bind (refplaces_ev T) (a2 _ h2))), h3⟩
end
theorem ref_cross {R : Nat} (pn : ByteArray) (pp : Int) (bs : List (List SIns)) (p : List (List Int)) {b k : Nat} (hk : k ≤ 1000) (x : SIns) (l : List Int) (hl : l.length ≤ 1000) (hr : ∀ r ∈ l, 0 ≤ r ∧ r < R) (Qf : Int → Prop) : ∀ (d j : Nat) (o : List Bool) (Q : Int → Prop), j + d = l.length → CInv R o Q →
 (∀ o', CInv R o' (fun r => Q r ∨ (x.f0 = 11 ∧ r ∈ l.drop j ∧ r ≠ x.f1)) → ∃ o'', Ev (fun m => cubbyref12_Crosses.l1 m o' p (b : Int) ((k + 1 : Nat) : Int) pn pp (R : Int) bs) o'' ∧ CInv R o'' Qf) →
 ∃ o'', Ev (fun m => cubbyref12_Crosses.l2 m o p (b : Int) (k : Int) l (j : Int) pn pp (R : Int) bs x.f0 x.f1 x.f2 x.f3 x.f4 x.f5) o'' ∧ CInv R o'' Qf := by
 intro d
 induction d with
 | zero =>
  intro j o Q hj h H
  obtain ⟨o'', h1, h2⟩ := H o (h.ext (fun r hr' => by rw [List.drop_eq_nil_of_le (by omega)]; simp))
  refine ⟨o'', Ev.step (f := fun m => cubbyref12_Crosses.j3 m o p (b : Int) (k : Int) l (j : Int) false pn pp (R : Int) bs x.f0 x.f1 x.f2 x.f3 x.f4 x.f5) (fun m => by simp only [cubbyref12_Crosses.l2]; rw [zD (by omega)]) (Ev.step (fun m => ?_) h1), h2⟩
  simp only [cubbyref12_Crosses.j3]
  rw [zD Bool.false_ne_true, wrap_nat (by omega)]
 | succ d ih =>
  intro j o Q hj h H
  have hjl : j < l.length := by omega
  have hm := hr _ (List.getElem_mem hjl)
  have ho := h.len
  by_cases c1 : x.f0 = 11
  ·have e1 : (x.f0 == 11) = true := by rw [c1]; rfl
   by_cases c2 : l[j] = x.f1
   ·obtain ⟨o'', h1, h2⟩ := ih (j + 1) o Q (by omega) h (fun o' ho' => H o' (ho'.ext (fun r hr' => by
     rw [drop_cons hjl, List.mem_cons]
     constructor
     ·rintro (hq | ⟨a1, a2, a3⟩)
      ·exact .inl hq
      ·exact .inr ⟨a1, .inr a2, a3⟩
     ·rintro (hq | ⟨a1, a2 | a2, a3⟩)
      ·exact .inl hq
      ·exact absurd (a2.trans c2) a3
      ·exact .inr ⟨a1, a2, a3⟩)))
    refine ⟨o'', Ev.step (f := fun m => cubbyref12_Crosses.j3 m o p (b : Int) (k : Int) l (j : Int) true pn pp (R : Int) bs x.f0 x.f1 x.f2 x.f3 x.f4 x.f5) (fun m => by simp only [cubbyref12_Crosses.l2]; rw [zC (by omega), e1]) (Ev.step (fun m => ?_) h1), h2⟩
    simp only [cubbyref12_Crosses.j3]
    rw [zC trivial, zC (by omega), zC (by omega), rd_get hjl, zC c2, wrap_nat (by omega)]
   ·obtain ⟨o'', h1, h2⟩ := ih (j + 1) _ _ (by omega) (h.put hm.1 hm.2) (fun o' ho' => H o' (ho'.ext (fun r hr' => by
     rw [drop_cons hjl, List.mem_cons]
     constructor
     ·rintro ((hq | hq) | ⟨a1, a2, a3⟩)
      ·exact .inl hq
      ·exact .inr ⟨c1, .inl hq, fun e => c2 (hq.symm.trans e)⟩
      ·exact .inr ⟨a1, .inr a2, a3⟩
     ·rintro (hq | ⟨a1, a2 | a2, a3⟩)
      ·exact .inl (.inl hq)
      ·exact .inl (.inr a2)
      ·exact .inr ⟨a1, a2, a3⟩)))
    refine ⟨o'', Ev.step (f := fun m => cubbyref12_Crosses.j3 m o p (b : Int) (k : Int) l (j : Int) true pn pp (R : Int) bs x.f0 x.f1 x.f2 x.f3 x.f4 x.f5) (fun m => by simp only [cubbyref12_Crosses.l2]; rw [zC (by omega), e1]) (Ev.step (fun m => ?_) h1), h2⟩
    simp only [cubbyref12_Crosses.j3]
    rw [zC trivial, zC (by omega), zC (by omega), rd_get hjl, zD c2, zC hm.1, zC (by omega), wrap_nat (by omega)]
  ·have e1 : (x.f0 == 11) = false := beq_eq_false_iff_ne.mpr c1
   obtain ⟨o'', h1, h2⟩ := H o (h.ext (fun r hr' => by simp [c1]))
   refine ⟨o'', Ev.step (f := fun m => cubbyref12_Crosses.j3 m o p (b : Int) (k : Int) l (j : Int) false pn pp (R : Int) bs x.f0 x.f1 x.f2 x.f3 x.f4 x.f5) (fun m => by simp only [cubbyref12_Crosses.l2]; rw [zC (by omega), e1]) (Ev.step (fun m => ?_) h1), h2⟩
   simp only [cubbyref12_Crosses.j3]
   rw [zD Bool.false_ne_true, wrap_nat (by omega)]
section
variable {pn : ByteArray} {pp : Int} {R : Nat} {bs : List (List SIns)} {z : List Nat} (T : Fit pn pp R bs z)
include T
def crTo (R : Nat) (bs : List (List SIns)) (z : List Nat) (b k : Nat) (r : Int) : Prop :=
 ∃ v i : Nat, (v : Int) ∈ ordOf bs ∧ i < blen bs v ∧ (v < b ∨ v = b ∧ i < k) ∧ (insAt bs v i).f0 = 11 ∧ r ∈ toL R (aheadN bs z v (i + 1)) ∧ r ≠ (insAt bs v i).f1
theorem refcrosses_all : ∃ o, Ev (fun k => cubbyref12_Crosses.f k pn pp (R : Int) bs) o ∧ CInv R o (allCr R bs z) := by
 have O := T.small
 have hl := T.len
 have hR := T.regs
 have hpl := places_len bs
 obtain ⟨k1, k2⟩ := checks pn T.fair T.ok T.check T.sol T.sets T.refin
 rw [zC T.low] at k2
 have rows : ∀ (d b : Nat) (o : List Bool), b + d = bs.length → CInv R o (crTo R bs z b 0) → ∃ o', Ev (fun k => cubbyref12_Crosses.l0 k o (places bs) (b : Int) pn pp (R : Int) bs) o' ∧ CInv R o' (allCr R bs z) := by
  intro d
  induction d with
  | zero =>
   intro b o hb h
   refine ⟨o, Ev.step (f := fun _ => some o) (fun k => by simp only [cubbyref12_Crosses.l0]; rw [zD (by omega)]) (Ev.now _), h.ext (fun r hr => ?_)⟩
   constructor
   ·rintro ⟨v, i, h1, h2, -, h3⟩
    exact ⟨v, i, h1, h2, h3⟩
   ·rintro ⟨v, i, h1, h2, h3⟩
    obtain ⟨v', e, hv'⟩ := mem_ord h1
    exact ⟨v, i, h1, h2, .inl (by omega), h3⟩
  | succ d ih =>
   intro b o hbd h
   have hb : b < bs.length := by omega
   have hgd : bs.getD b [] = bs[b] := getD_get hb
   have hrow0 : rd_LIns bs (b : Int) = bs[b] := hgd
   have hrl := O.row _ (List.getElem_mem hb)
   obtain ⟨e1, e2⟩ := blen_nat hb
   by_cases cin : (b : Int) ∈ ordOf bs
   ·have hrow : rd_LInt (places bs) (b : Int) = nums (begin_ bs b) (blen bs b) := places_row bs _ cin
    have ins : ∀ (d k : Nat) (o : List Bool), k + d = (bs[b]).length → CInv R o (crTo R bs z b k) → ∃ o', Ev (fun m => cubbyref12_Crosses.l1 m o (places bs) (b : Int) (k : Int) pn pp (R : Int) bs) o' ∧ CInv R o' (allCr R bs z) := by
     intro d
     induction d with
     | zero =>
      intro k o hk h
      obtain ⟨o', h2, h3⟩ := ih (b + 1) o (by omega) (h.ext (fun r hr => by
       constructor
       ·rintro ⟨v, i, a1, a2, a3, a4⟩
        exact ⟨v, i, a1, a2, .inl (by omega), a4⟩
       ·rintro ⟨v, i, a1, a2, a3, a4⟩
        refine ⟨v, i, a1, a2, ?_, a4⟩
        rcases a3 with a3 | ⟨a3, a5⟩
        ·by_cases c : v = b
         ·subst c
          exact .inr ⟨rfl, by omega⟩
         ·exact .inl (by omega)
        ·omega))
      refine ⟨o', Ev.step (fun m => ?_) h2, h3⟩
      simp only [cubbyref12_Crosses.l1]
      rw [zC (by omega), zC (by omega), hrow, nums_len, zD (by omega), wrap_nat (by omega)]
     | succ d ih2 =>
      intro k o hk h
      have hkl : k < (bs[b]).length := by omega
      have l2 := refaheadL_ev pn pp T.fair T.ok T.check T.sol T.refin (b := b) (i := k + 1) hb (by rw [hgd]; omega)
      obtain ⟨o', h2, h3⟩ := ref_cross (R := R) pn pp bs (places bs) (b := b) (k := k) (by omega) (bs[b])[k] (toL R (aheadN bs z b (k + 1))) (by have := toL_len R (aheadN bs z b (k + 1)); omega) toL_rng (allCr R bs z) (toL R (aheadN bs z b (k + 1))).length 0 o _ (by omega) h (fun o' ho' => ih2 (k + 1) o' (by omega) (ho'.ext (fun r hr => by
       rw [List.drop_zero]
       constructor
       ·rintro (⟨v, i, a1, a2, a3, a4⟩ | h)
        ·exact ⟨v, i, a1, a2, by omega, a4⟩
        ·refine ⟨b, k, cin, by omega, .inr ⟨rfl, by omega⟩, ?_⟩
         rw [insAt_get hb hkl]
         exact h
       ·rintro ⟨v, i, a1, a2, a3, a4⟩
        by_cases c : v = b ∧ i = k
        ·obtain ⟨rfl, rfl⟩ := c
         rw [insAt_get hb hkl] at a4
         exact .inr a4
        ·exact .inl ⟨v, i, a1, a2, by omega, a4⟩)))
      refine ⟨o', Ev.step (fun m => ?_) (Ev.bind (f := fun m t => cubbyref12_Crosses.l2 m o (places bs) (b : Int) (k : Int) t ((0 : Nat) : Int) pn pp (R : Int) bs (bs[b])[k].f0 (bs[b])[k].f1 (bs[b])[k].f2 (bs[b])[k].f3 (bs[b])[k].f4 (bs[b])[k].f5) l2 h2), h3⟩
      simp only [cubbyref12_Crosses.l1]
      rw [zC (by omega), zC (by omega), hrow, nums_len, zC (by omega), zC (by omega), zC (by omega), hrow0, zC (by omega), wrap_nat (by omega), rd_ins hkl]
      rfl
    obtain ⟨o', h2, h3⟩ := ins (bs[b]).length 0 o (by omega) h
    refine ⟨o', Ev.step (fun m => ?_) h2, h3⟩
    simp only [cubbyref12_Crosses.l0]
    rw [zC (by omega)]
    rfl
   ·have hrow : rd_LInt (places bs) (b : Int) = [] := places_out (by omega) cin
    obtain ⟨o', h2, h3⟩ := ih (b + 1) o (by omega) (h.ext (fun r hr => by
     constructor
     ·rintro ⟨v, i, a1, a2, a3, a4⟩
      exact ⟨v, i, a1, a2, .inl (by omega), a4⟩
     ·rintro ⟨v, i, a1, a2, a3, a4⟩
      refine ⟨v, i, a1, a2, ?_, a4⟩
      by_cases c : v = b
      ·subst c
       exact absurd a1 cin
      ·exact .inl (by omega)))
    refine ⟨o', Ev.step (f := fun m => cubbyref12_Crosses.l1 m o (places bs) (b : Int) 0 pn pp (R : Int) bs) (fun m => by simp only [cubbyref12_Crosses.l0]; rw [zC (by omega)]) (Ev.step (fun m => ?_) h2), h3⟩
    simp only [cubbyref12_Crosses.l1]
    rw [zC (by omega), zC (by omega), hrow, zD (by simp), wrap_nat (by omega)]
 obtain ⟨o', h2, h3⟩ := rows bs.length 0 (List.replicate R false) (by omega) ((CInv.zero R).ext (fun r hr => by
  constructor
  ·exact fun h => h.elim
  ·rintro ⟨v, i, b1, b2, b3, b4⟩
   omega))
 exact ⟨o', Ev.bind k2 (Ev.congr (fun k => by rw [zC rfl, zC (by omega), zC (by omega), Int.toNat_natCast]) (Ev.bind (refplaces_ev T) h2)), h3⟩
theorem spans_same : ∃ o, Ev (fun k => span_Spans.f k pn pp (R : Int) bs) o ∧ Ev (fun k => cubbyref12_Spans.f k pn pp (R : Int) bs) o ∧ SInv R o (allPts pp R bs z) := by
 obtain ⟨o, h1, h2⟩ := spans_all T
 obtain ⟨o', h3, h4⟩ := refspans_all T
 obtain rfl := h2.uniq h4 (fun _ _ _ => Iff.rfl)
 exact ⟨o, h1, h3, h2⟩
theorem crosses_same : ∃ o, Ev (fun k => span_Crosses.f k pn pp (R : Int) bs) o ∧ Ev (fun k => cubbyref12_Crosses.f k pn pp (R : Int) bs) o ∧ CInv R o (allCr R bs z) := by
 obtain ⟨o, h1, h2⟩ := crosses_all T
 obtain ⟨o', h3, h4⟩ := refcrosses_all T
 obtain rfl := h2.uniq h4 (fun _ _ => Iff.rfl)
 exact ⟨o, h1, h3, h2⟩
end
end Go.Proofs.YtpkimbkjjmbmcaaDoor.PlainSpan
namespace Go.Proofs.YtpkimbkjjmbmcaaDoor.RSpanSpans.Pure
open Go Go.RowKit Go.Proofs.YtpkimbkjjmbmcaaDoorW.PrintWords Go.Proofs.YtpkimbkjjmbmcaaDoorW.PrintMore Go.Proofs.YtpkimbkjjmbmcaaDoor.Q Go.Proofs.YtpkimbkjjmbmcaaDoor.Plain Go.Proofs.YtpkimbkjjmbmcaaDoor.PlainHeavy Go.Proofs.YtpkimbkjjmbmcaaDoor.PlainCheck Go.Proofs.YtpkimbkjjmbmcaaDoor.PlainSuccs Go.Proofs.YtpkimbkjjmbmcaaDoor.PlainLive Go.Proofs.YtpkimbkjjmbmcaaDoor.Dfs Go.Proofs.YtpkimbkjjmbmcaaDoor.PlainOrder Go.Proofs.YtpkimbkjjmbmcaaDoor.PlainSpan
set_option linter.unusedVariables false
theorem loop1 (s : List SSpan) (c : List Bool) (hs : s.length ≤ 1000) (hc : s.length = c.length) : Ev (fun k => cubbylaw12_SpanSpans.l1 k s s c c 0) true := by
 refine scan (fun k i => cubbylaw12_SpanSpans.l1 k s s c c (i : Int)) s.length (fun _ => true) ?_ ?_ 0 (Nat.zero_le _)
 ·exact Ev.step (f := fun _ => some true) (fun k => by simp only [cubbylaw12_SpanSpans.l1]; rw [zD (by omega)]) (Ev.now _)
 ·intro i hi hE
  refine Ev.step (fun k => ?_) hE
  simp only [cubbylaw12_SpanSpans.l1]
  rw [zC (by omega), zC (by omega), zC (by omega), zD (by simp), zC (by omega), zC (by omega), zD (by simp), wrap_nat (by omega)]
theorem loop0 (p : List (List Int)) (s : List SSpan) (c : List Bool) (hp : p.length ≤ 1000) (hr : ∀ l ∈ p, l.length ≤ 4611686018427387904) (hs : s.length ≤ 1000) (hc : s.length = c.length) : Ev (fun k => cubbylaw12_SpanSpans.l0 k p p s s c c 0) true := by
 refine scan (fun k i => cubbylaw12_SpanSpans.l0 k p p s s c c (i : Int)) p.length (fun _ => true) ?_ ?_ 0 (Nat.zero_le _)
 ·exact Ev.step (fun k => by simp only [cubbylaw12_SpanSpans.l0]; rw [zD (by omega)]) (loop1 s c hs hc)
 ·intro i hi hE
  have e : rd_LInt p (i : Int) = p[i] := by
   unfold rd_LInt
   rw [Int.toNat_natCast, List.getD_eq_getElem?_getD, List.getElem?_eq_getElem hi]
   rfl
  refine Ev.step (fun k => by simp only [cubbylaw12_SpanSpans.l0]; rw [zC (by omega), zC (by omega), zC (by omega), e]) (Ev.bind (ints_ev _ (hr _ (List.getElem_mem hi))) (Ev.congr (fun k => ?_) hE))
  rw [zC rfl, wrap_nat (by omega)]
theorem SpanSpans : SpanSpans.Pure := by
 intro pn pp rg bs hn h1 h2 hbs
 refine Ev.rounds ?_
 have hF : FairB bs := ⟨by omega, fun b hb => by have := (hbs.2.2 b hb).1; omega, fun b hb y hy => by have := ((hbs.2.2 b hb).2.2 y hy).2.2.2.2.2.1; omega⟩
 obtain ⟨hv, hE, hfalse⟩ := heavy12_ev pn pp rg bs hF
 refine Ev.bind hE ?_
 cases hv
 ·obtain ⟨R, z, rfl, T⟩ := hfalse rfl
  have hl := T.len
  have hR := T.regs
  have hpl := places_len bs
  obtain ⟨s, s1, s2, s3⟩ := spans_same T
  obtain ⟨c, c1, c2, c3⟩ := crosses_same T
  have l1 := s3.len
  have l2 := c3.len
  have hrow : ∀ l ∈ places bs, l.length ≤ 4611686018427387904 := by
   intro l hl'
   obtain ⟨i, hi, rfl⟩ := List.getElem_of_mem hl'
   have e : (places bs)[i] = (places bs).getD (i : Int).toNat [] := by
    rw [Int.toNat_natCast, List.getD_eq_getElem?_getD, List.getElem?_eq_getElem hi]
    rfl
   rw [e]
   by_cases cin : (i : Int) ∈ ordOf bs
   ·rw [places_row bs _ cin, nums_len]
    have := block_le bs T.small.row (i : Int)
    unfold blen
    omega
   ·rw [places_out (by omega) cin]
    simp
  refine Ev.congr (fun k => by rw [zD Bool.false_ne_true]) (Ev.bind (places_ev T) (Ev.bind (refplaces_ev T) (Ev.bind s1 (Ev.bind s2 (Ev.bind c1 (Ev.bind c2 ?_))))))
  refine Ev.congr (f := fun k => cubbylaw12_SpanSpans.j0 k (places bs) (places bs) s s c c false) (fun k => by rw [zC rfl, zC rfl]; simp) ?_
  refine Ev.step (fun k => by simp only [cubbylaw12_SpanSpans.j0]; rw [zD Bool.false_ne_true]) (loop0 (places bs) s c (by omega) hrow (by omega) (by omega))
 ·exact Ev.congr (f := fun _ => some true) (fun k => by rw [zC rfl]; rfl) (Ev.now _)
end Go.Proofs.YtpkimbkjjmbmcaaDoor.RSpanSpans.Pure
namespace Go.Proofs.YtpkimbkjjmbmcaaDoor.RSpanSpans
open Go.ChangeShapes Go.WideShapes Go.ChangeAt
open Go.ChangeMaps (open_string shut_string)
open Go Go.RowKit Go.Proofs.YtpkimbkjjmbmcaaDoorW.PrintWords Go.Proofs.YtpkimbkjjmbmcaaDoorW.PrintLast Go.Proofs.YtpkimbkjjmbmcaaDoorW.PrintMore Go.Proofs.YtpkimbkjjmbmcaaDoor.Q Go.Proofs.YtpkimbkjjmbmcaaDoor.Open
set_option linter.unusedVariables false
theorem own : ownKnob Tryd.prog.godebug = none := by kernel_rfl
theorem laidOut : laidOutB Tryd.prog = true := by kernel_rfl
theorem opensIns : Opens Tryd.prog 38 kIns GIns :=
 (Opens.iso (fun x : SIns => (x.f0, x.f1, x.f2, x.f3, x.f4, x.f5)) (fun y => ⟨y.1, y.2.1, y.2.2.1, y.2.2.2.1, y.2.2.2.2.1, y.2.2.2.2.2⟩) (fun _ => rfl) (Opens.struct Tryd.underlying38 (by kernel_rfl) (OpensFs.cons rfl (Opens.int (Tryd.underlying3) (by kernel_rfl)) (OpensFs.cons rfl (Opens.int (Tryd.underlying3) (by kernel_rfl)) (OpensFs.cons rfl (Opens.int (Tryd.underlying3) (by kernel_rfl)) (OpensFs.cons rfl (Opens.int (Tryd.underlying3) (by kernel_rfl)) (OpensFs.cons rfl (Opens.string (Tryd.underlying9) (by kernel_rfl)) (OpensFs.one rfl (Opens.slice (B := 8) (Tryd.underlying35) (by kernel_rfl) (by kernel_rfl) (Opens.int (Tryd.underlying3) (by kernel_rfl))))))))))).imp (fun _ h => h)
set_option maxRecDepth 100000 in
theorem lifted (os : Os) (started : os.Started) (H : Type) (enc : TypeId × Value → H) :
 ReturnsInHanded {} Tryd.checked os 5 .any (fun w args => (Rows.spanSpansSpec.pre enc Tryd.prog Tryd.f5 [] false w args ∧ laidMetH Tryd.prog Rows.spanSpansRow.laid w) ∧ sizedMet enc Tryd.prog Tryd.f5 (OpenSpec.ofChange Rows.spanSpansSpec) false w args) (Rows.spanSpansSpec.post enc Tryd.prog Tryd.f5 false true false false) := by
 refine returnsInHanded_of_change_and (C := Tryd.checked) (X := fun w _ => laidMetH Tryd.prog Rows.spanSpansRow.laid w) (fun _ _ _ hh h => h.of_heap hh) own started (by kernel_rfl) Tryd.func5
  (ChangeSpec.witness_shaped (enc := enc) (C := Tryd.checked) (os := os) (X := fun w _ => laidMetH Tryd.prog Rows.spanSpansRow.laid w) false (World.laidAll Tryd.prog os Rows.spanSpansRow.laid) #[.agg #[.string ByteArray.empty, .int .i64 0, .int .i64 0, .slice none 0 0]] 8 (World.laidAll_os _ _ _)
    (World.shaped_of_ZipB (by kernel_rfl) (by kernel_rfl)) (by kernel_rfl) (by kernel_rfl) (by kernel_rfl)
    (by rw [MakeChecks.laidMetH_plain _ _ _ (by kernel_rfl)]; exact laidMet_laidAll _ (by kernel_rfl) (by kernel_rfl))) ?_
 intro W base args ds gs before hval0 hW hcnd hsz0 hL0 _
 rw [MakeChecks.laidMetH_plain _ _ _ (by kernel_rfl)] at hL0
 have LAIDF : LaidW W := LaidW.of_reads2 (show Lib.VarReads Tryd.prog W "cubby/ir.shapes" shapesD from Lib.laidMet.reads hL0 (n := "cubby/ir.shapes") (d := Rows.laid_cubby_ir_shapes) (by simp [Rows.spanSpansRow])) (show Lib.VarReads Tryd.prog W "math/bits.deBruijn64tab" tabD from Lib.laidMet.reads hL0 (n := "math/bits.deBruijn64tab") (d := Rows.laid_math_bits_deBruijn64tab) (by simp [Rows.spanSpansRow]))
 have hsz : (DataW.weightsEach Tryd.prog (Tryd.f5.params.toList ++ Rows.spanSpansSpec.plain.varTypes Tryd.prog) (ds ++ gs)).all (· ≤ reachBytes) = true := hsz0
 have hval : ∀ (j : Nat) t v, Tryd.f5.params[j]? = some t → args[j]? = some v → Value.okWide Tryd.prog W .any base t v := hval0
 have hW' := hW
 obtain ⟨p, q, hA0, hV, rfl, hfz, hnd⟩ := hW
 have hA : DataW.TrodAll enc Tryd.prog W 0 (fun _ => true) true Tryd.f5.params.toList args.toList ds p := hA0
 rw [Tryd.params5] at hA hval hsz
 obtain ⟨v0, vs0, d0, ds0, p0, q0, hargs, rfl, rfl, h0, r0⟩ := trodAll_cons hA
 obtain ⟨rfl, rfl, rfl⟩ := trodAll_nil r0
 obtain rfl : args = #[v0] := by cases args; simp_all
 obtain ⟨rfl, rfl⟩ := trodVars_none hV
 have lt0 : ∀ x ∈ p0, x.block < W.heap.size := by obtain ⟨m, hm⟩ := h0; exact DataW.trod_lt m _ _ _ hm
 obtain ⟨cs0, rfl, -⟩ := okWide_struct Tryd.underlying24 (hval 0 24 v0 rfl rfl)
 obtain ⟨⟨a0_0, a0_1, a0_2, l0_3⟩, hk0, gg0⟩ := (Opens.struct Tryd.underlying24 (by kernel_rfl) (OpensFs.cons rfl (Opens.string (Tryd.underlying9) (by kernel_rfl)) (OpensFs.cons rfl (Opens.int (Tryd.underlying3) (by kernel_rfl)) (OpensFs.cons rfl (Opens.int (Tryd.underlying3) (by kernel_rfl)) (OpensFs.one rfl (Opens.slice (B := 24) (Tryd.underlying22) (by kernel_rfl) (by kernel_rfl) (Opens.slice (B := 72) (Tryd.underlying29) (by kernel_rfl) (by kernel_rfl) opensIns)))))) : Opens Tryd.prog 24 (Kd.pair Kd.string (Kd.pair (Kd.int .i64) (Kd.pair (Kd.int .i64) (Kd.slice 29 (Kd.slice 38 kIns))))) (fun y => ((y.1).size ≤ 140737488351232 ∧ ((Lit.int .i64 (y.2.1)).wf = true ∧ ((Lit.int .i64 (y.2.2.1)).wf = true ∧ ((y.2.2.2).length * 24 ≤ 140737488351232 ∧ (y.2.2.2).length ≤ maxLen ∧ ∀ y1 ∈ (y.2.2.2), ((y1).length * 72 ≤ 140737488351232 ∧ (y1).length ≤ maxLen ∧ ∀ y2 ∈ (y1), GIns (y2)))))))).arg h0 hsz (j := 0) rfl rfl
 obtain ⟨g0_0, g0_1, g0_2, g0_3⟩ := gg0
 obtain ⟨_, _, h0_, rfl, ⟨_, _, rfl, rfl, ⟨_, _, rfl, rfl, ⟨A0_3, c0_3, rfl, hc0_3, hr0_3⟩⟩⟩⟩ := hk0
 obtain rfl : cs0 = #[.string a0_0, .int .i64 a0_1, .int .i64 a0_2, .slice A0_3 l0_3.length c0_3] := by
  cases cs0
  simp [Value.cells] at h0_
  simp [h0_]
 clear hA0 hval0 hsz0 hsz
 obtain ⟨k, hf⟩ := Pure.SpanSpans a0_0 a0_1 a0_2 l0_3 g0_0 g0_1 g0_2 g0_3
 refine (Q.cubbylaw12_SpanSpans.calls k a0_0 a0_1 a0_2 A0_3 c0_3 l0_3 true W LAIDF rfl hr0_3 hc0_3 hf).mono ?_
 rintro e W' ⟨rfl, hd⟩
 have bel : Below W.heap.size W W' := hd
 exact ⟨_, rfl, _, _, _, [], _, [], hW', trodAll_mk1 (shut_bool Tryd.underlying4 _), (trodAll_cons_mk (Below.trod laidOut (by kernel_rfl) (zB (by kernel_rfl)) h0 bel lt0) trodAll_mk0), rfl, bel.frame _, fun h => by cases h⟩
theorem over : Rows.spanSpansRow.holds Tryd.pinned (OpenSpec.ofChange Rows.spanSpansSpec) :=
 OpenClaim.holds_of_wide 5 Tryd.f5 rfl rfl rfl rfl rfl rfl rfl ⟨rfl, rfl, rfl, rfl, rfl⟩ rfl rfl rfl rfl rfl (by kernel_rfl) Tryd.func5 (by kernel_rfl)
  (zB (by kernel_rfl)) (by unfold Func.isWrapper; first | (rw [zC (by decide +kernel)]; kernel_rfl) | (rw [zD (by decide +kernel)]; exact ⟨rfl, rfl⟩))
  (fun os started H enc _ => lifted os started H enc)
end Go.Proofs.YtpkimbkjjmbmcaaDoor.RSpanSpans
namespace Go.Proofs.YtpkimbkjjmbmcaaDoor
theorem spanSpans_holds : Rows.SpanSpansSaid := RSpanSpans.over
theorem spanSpans_card : Rows.SpanSpansCardSaid :=
 Claim7.holds_tied_plain_at .later [] [.data, .data, .data, .pinned] true (true, "86b6e9ea8fc3c67843df3ee2922f7abef32778c09a3551e54e3f97281a58097c") true spanSpans_holds (fun _ h => by cases h) (by kernel_rfl) (fun _ h => by cases h) spanSpans_row_tie rfl ⟨rfl, rfl⟩ (by kernel_rfl) rfl
  (fun f fn hf hfn => by
    obtain rfl : f = 5 := zI ((show Tryd.prog.funcNamed "cubby/cubbylaw12.SpanSpans" = some 5 by kernel_rfl).symm.trans hf) |>.symm
    obtain rfl : fn = Tryd.f5 := (zI (Tryd.func5.symm.trans hfn)).symm
    exact ⟨by kernel_rfl, fun j t ht => by
     rw [Tryd.params5] at ht
     have hm : t ∈ [24] := by simpa using Array.mem_of_getElem? ht
     have hall : ([24].all fun u => !Tryd.prog.wantsStandIn u) = true := by kernel_rfl
     exact (show Tryd.prog.wantsStandIn t = false by simpa using List.all_eq_true.1 hall t hm)⟩)
  (by kernel_rfl)
#print axioms spanSpans_card
end Go.Proofs.YtpkimbkjjmbmcaaDoor
