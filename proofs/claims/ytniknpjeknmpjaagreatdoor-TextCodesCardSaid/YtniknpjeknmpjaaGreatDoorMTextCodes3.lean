/- TextCodes: parts of the proofs, put together. -/
import Derived.RangeFuncNested
import Derived.RangeFuncBound
import Derived.RangeFuncCalls
import Derived.RangeFuncLeaves
import Derived.Shelf.Abstract
import Derived.Shelf.RegionOpen
import Derived.WalkKit
import Derived.OwnWalkIn
import Derived.TacticsInMore
import Derived.LoopNIn
import Derived.LoopIn
import Derived.Lib.AtoiAllCases
import Derived.Lib.OthersKept
import Derived.Lib.AtoiTie
import Derived.Lib.ItoaNum
import Derived.Lib.ItoaMem
import Derived.Test.YtniknpjeknmpjaaGreatDoorMTextCodes1
import Derived.Test.YtniknpjeknmpjaaGreatDoorMTextCodes2
namespace Go.Proofs.YtniknpjeknmpjaaGreatDoor.Q
open Go.RowKit Go.Shelf Go.Proofs.YtniknpjeknmpjaaGreatDoor.Plain Go.Proofs.YtniknpjeknmpjaaGreatDoorW.PrintWords Go.Proofs.YtniknpjeknmpjaaGreatDoorW.PrintLast Go.Proofs.YtniknpjeknmpjaaGreatDoorW.PrintMore
set_option linter.unusedVariables false
set_option linter.unusedSimpArgs false
inductive Clo where
 | num (b1 b2 : Nat)
 | nm (b : Nat)
def encClo : Clo → Value
 | .num b1 b2 => .func (.func 33) #[] #[.pointer (some ⟨b1, 0, none⟩), .pointer (some ⟨b2, 0, none⟩)]
 | .nm b => .func (.func 32) #[] #[.pointer (some ⟨b, 0, none⟩)]
theorem encClo_one : ∀ c : Clo, (encClo c).oneCell' = true
 | .num _ _ => rfl
 | .nm _ => rfl
abbrev kClo : Kd Clo := Kd.scalar encClo encClo_one
theorem infoClo : (Tryz.prog.info? 53).map (fun i => (i.zero, i.size, i.bytes)) = some (some Value.nilFunc, 1, 8) := by kernel_rfl
def fieldParts (x : SIns) (c : UInt8) : List Part :=
 if c = 68 then [.num x.f1] else if c = 65 then [.num x.f2] else if c = 66 then [.num x.f3] else if c = 78 then [.nm x.f4] else if c = 76 then x.f5.map .num else []
def partsOf (x : SIns) (fs : List UInt8) : List Part := fs.flatMap (fieldParts x)
def nameErr (nb : Bool) (e : Int) (fs : List UInt8) : Int := fs.foldl (fun e c => if c = 78 then (if nb then e else keepE e 80) else e) e
structure ClosAt (gp : Nat) (w : World) (cl : List Clo) (ps : List Part) : Prop where
 len : cl.length = ps.length
 at_ : ∀ (j : Nat) (c : Clo) (p : Part), cl[j]? = some c → ps[j]? = some p → PartAt gp w (encClo c) p
theorem ClosAt.snoc {gp : Nat} {w : World} {cl : List Clo} {ps : List Part} {c : Clo} {p : Part} (h : ClosAt gp w cl ps) (hp : PartAt gp w (encClo c) p) : ClosAt gp w (cl ++ [c]) (ps ++ [p]) := by
 refine ⟨by simp [h.len], fun j c' p' h1 h2 => ?_⟩
 rcases Nat.lt_or_ge j cl.length with hj | hj
 ·rw [List.getElem?_append_left hj] at h1
  rw [List.getElem?_append_left (by rw [← h.len]; exact hj)] at h2
  exact h.at_ j c' p' h1 h2
 ·rw [List.getElem?_append_right hj] at h1
  rw [List.getElem?_append_right (by rw [← h.len]; exact hj), ← h.len] at h2
  rcases hq : j - cl.length with _ | q
  ·rw [hq] at h1 h2
   simp only [List.getElem?_cons_zero, Option.some.injEq] at h1 h2
   subst h1; subst h2; exact hp
  ·rw [hq] at h1; simp at h1
theorem ClosAt.kept {gp : Nat} {w w' : World} {cl : List Clo} {ps : List Part} {base : Nat} {buf : List UInt8} {e : Int} (hp : PrAt base gp buf e w) (ht : KeptT gp w w') (h : ClosAt gp w cl ps) : ClosAt gp w' cl ps :=
 ⟨h.len, fun j c p h1 h2 => (h.at_ j c p h1 h2).kept hp ht⟩
theorem ClosAt.below {gp : Nat} {w w' : World} {cl : List Clo} {ps : List Part} (hb : Below w.heap.size w w') (h : ClosAt gp w cl ps) : ClosAt gp w' cl ps :=
 ⟨h.len, fun j c p h1 h2 => (h.at_ j c p h1 h2).below hb⟩
def CellsKept (w w' : World) : Prop := ∀ (k : Nat) (cs : Array Value) (t : TypeId), w.heap[k]? = some (.cells cs t (0, 0)) → w'.heap[k]? = some (.cells cs t (0, 0))
theorem PartAt.cells {gp : Nat} {w w' : World} (hc : CellsKept w w') {v : Value} {p : Part} (h : PartAt gp w v p) : PartAt gp w' v p := by
 cases p with
 | num n => obtain ⟨b1, b2, rfl, h1, h2⟩ := h; exact ⟨b1, b2, rfl, hc _ _ _ h1, hc _ _ _ h2⟩
 | nm s => obtain ⟨b, rfl, h1⟩ := h; exact ⟨b, rfl, hc _ _ _ h1⟩
theorem ClosAt.cells {gp : Nat} {w w' : World} {cl : List Clo} {ps : List Part} (hc : CellsKept w w') (h : ClosAt gp w cl ps) : ClosAt gp w' cl ps := ⟨h.len, fun j c p h1 h2 => (h.at_ j c p h1 h2).cells hc⟩
theorem R_cells {α : Type} {d : Kd α} {e base : Nat} {ok : Nat → Prop} {v : Value} {xs : List α} {w w' : World} (hc : CellsKept w w') (h : d.R e w base ok v xs) : d.R e w' base ok v xs := by
 refine Kd.R_mono (Kd.R_step (Kd.R_bound h) (fun k hk _ => ?_)) (fun k hk => hk.1)
 obtain ⟨_, _, _, q, hq, cells, hk2⟩ := hk
 exact (hc k cells q hk2).trans hk2.symm
theorem PrAt.cells {base gp : Nat} {buf : List UInt8} {e : Int} {w w' : World} (hc : CellsKept w w') (h : PrAt base gp buf e w) : PrAt base gp buf e w' := by
 obtain ⟨ge, p, v, hk, hp, ho⟩ := h
 refine ⟨ge, p, v, hc _ _ _ hk, hp, ?_⟩
 refine ⟨ho.1, ?_⟩
 rcases ho.2 with h | ⟨g, cap, cur, hv, hb, hg, r⟩
 ·exact .inl h
 ·exact .inr ⟨g, cap, cur, hv, hb, hc _ _ _ hg, r⟩
theorem iter_kept {w : World} {k0 : Nat} {s : ByteArray} {p q : Nat} (hi : w.heap[k0]? = some (.stringIter s p)) : CellsKept w (w.iterAt k0 s q) := fun k cs t hk => iter_cells hi hk
theorem ClosAt.grownC {gp base : Nat} {ok : Nat → Prop} {v : Value} {xs : List Clo} {w w' : World} {cl : List Clo} {ps : List Part} (h : ClosAt gp w cl ps) (hr : kClo.R 53 w base ok v xs) (hg : w.grownBy w' v.ownBlock) : ClosAt gp w' cl ps := by
 have keep : ∀ (k tt : Nat) (cs : Array Value), w.heap[k]? = some (.cells cs tt (0, 0)) → tt ≠ 53 → w'.heap[k]? = some (.cells cs tt (0, 0)) := fun k tt cs hk ht => (hg.block k (blk_lt hk) (fun e => by
  obtain ⟨c2, h2⟩ := Kd.R_typed hr k e.symm
  have := hk.symm.trans h2
  simp at this
  exact ht this.2)).trans hk
 refine ⟨h.len, fun j c p h1 h2 => ?_⟩
 have hp := h.at_ j c p h1 h2
 cases p with
 | num n => obtain ⟨b1, b2, e, h3, h4⟩ := hp; exact ⟨b1, b2, e, keep _ _ _ h3 (by decide), keep _ _ _ h4 (by decide)⟩
 | nm s => obtain ⟨b, e, h3⟩ := hp; exact ⟨b, e, keep _ _ _ h3 (by decide)⟩
theorem grown_iter {base : Nat} {ok : Nat → Prop} {v : Value} {xs : List Clo} {w w' : World} {k0 p : Nat} {s : ByteArray} (hr : kClo.R 53 w base ok v xs) (hg : w.grownBy w' v.ownBlock) (hi : w.heap[k0]? = some (.stringIter s p)) : w'.heap[k0]? = some (.stringIter s p) :=
 (hg.block k0 (Array.getElem?_eq_some_iff.1 hi).1 (fun e => by
   obtain ⟨c2, h2⟩ := Kd.R_typed hr k0 e.symm
   have := hi.symm.trans h2
   simp at this)).trans hi
theorem grown_box {base t k : Nat} {cs : Array Value} {ok : Nat → Prop} {v : Value} {xs : List Clo} {w w' : World} (hr : kClo.R 53 w base ok v xs) (hg : w.grownBy w' v.ownBlock) (hk : w.heap[k]? = some (.cells cs t (0, 0))) (ht : t ≠ 53) : w'.heap[k]? = some (.cells cs t (0, 0)) :=
 (hg.block k (blk_lt hk) (fun e => by
   obtain ⟨c2, h2⟩ := Kd.R_typed hr k e.symm
   have := hk.symm.trans h2
   simp at this
   exact ht this.2)).trans hk
theorem parts_of {gp : Nat} {w : World} {base c : Nat} {ok : Nat → Prop} {A : Option Addr} {cl : List Clo} {ps : List Part} (hr : kClo.R 53 w base ok (.slice A cl.length c) cl) (hc : ClosAt gp w cl ps) : PartsAt gp w A ps := by
 rcases Nat.eq_zero_or_pos cl.length with h0 | h0
 ·exact .inl (List.length_eq_zero_iff.1 (hc.len ▸ h0))
 ·obtain ⟨g, cg, eg, -, -, cs, hk⟩ := Kd.R_form hr h0
  injection eg with e1 e2 e3
  subst e1
  refine .inr ⟨g, cs, rfl, hk, fun j p hj => ?_⟩
  have hjl : j < cl.length := by rw [hc.len]; exact (List.getElem?_eq_some_iff.1 hj).1
  refine ⟨encClo cl[j], ?_, hc.at_ j cl[j] p (List.getElem?_eq_getElem hjl) hj⟩
  have hrr := (Kd.R_reads' hr).2.2
  obtain ⟨ad, ea, hh⟩ := hrr.2.2 h0
  cases ea
  obtain ⟨c1, hl1, hk1, hx1⟩ := hh j cl[j] (List.getElem?_eq_getElem hjl)
  have hk1' : c1 = [encClo cl[j]] := hk1
  subst hk1'
  have h2 := hx1 0 _ rfl
  have e : (⟨g, 0, none⟩ : Addr).add (j * kClo.sz + 0) = ⟨g, j, none⟩ := by
   show (⟨g, 0, none⟩ : Addr).add (j * 1 + 0) = _
   rw [Nat.mul_one, Nat.add_zero]; exact add_plain g j
  rw [e] at h2
  exact (blk_cell hk j).symm.trans h2
theorem box_kept {gp k t : Nat} {w w' : World} {cs : Array Value} (ht : KeptT gp w w') (hk : w.heap[k]? = some (.cells cs t (0, 0))) (h1 : t ≠ 5) (h2 : k ≠ gp) : w'.heap[k]? = some (.cells cs t (0, 0)) := ht.2 k _ hk (fun cs' fr e => by injection e with _ e2 _; exact h1 e2) h2
theorem it_kept {gp k p : Nat} {w w' : World} {s : ByteArray} (ht : KeptT gp w w') (hk : w.heap[k]? = some (.stringIter s p)) (h2 : k ≠ gp) : w'.heap[k]? = some (.stringIter s p) := ht.2 k _ hk (fun cs' fr e => by cases e) h2
structure InsSt (gp gx gf k0 : Nat) (cx cf : Array Value) (fs : ByteArray) (buf : List UInt8) (w0 w : World) (i : Nat) (v8 : Value) (cl : List Clo) (ps : List Part) (e1 : Int) (w' : World) : Prop where
 hp0 : gp < w.heap.size
 hx : w.heap.size ≤ gx
 hf : w.heap.size ≤ gf
 hi : w.heap.size ≤ k0
 h0 : w0.heap.size ≤ w.heap.size
 it : w'.heap[k0]? = some (.stringIter fs i)
 row : kClo.R 53 w' w.heap.size (fun _ => True) v8 cl
 cs : ClosAt gp w' cl ps
 pr : PrAt w0.heap.size gp buf e1 w'
 bl : Below w0.heap.size w0 w'
 kt : KeptT gp w w'
 bx : w'.heap[gx]? = some (.cells cx 44 (0, 0))
 bf : w'.heap[gf]? = some (.cells cf 102 (0, 0))
section
variable {gp gx gf k0 : Nat} {cx cf : Array Value} {fs : ByteArray} {buf : List UInt8} {w0 w w1 w2 : World} {i : Nat} {v8 : Value} {cl : List Clo} {ps : List Part} {e1 : Int}
theorem InsSt.next (s : InsSt gp gx gf k0 cx cf fs buf w0 w i v8 cl ps e1 w1) (j : Nat) : InsSt gp gx gf k0 cx cf fs buf w0 w j v8 cl ps e1 (w1.iterAt k0 fs j) where
 hp0 := s.hp0
 hx := s.hx
 hf := s.hf
 hi := s.hi
 h0 := s.h0
 it := Lib.iterAt_heap w1 k0 fs i j s.it
 row := R_cells (iter_kept s.it) s.row
 cs := s.cs.cells (iter_kept s.it)
 pr := s.pr.cells (iter_kept s.it)
 bl := Lib.below_iterAt s.bl (Nat.le_trans s.h0 s.hi) fs j
 kt := ⟨by rw [Lib.iterAt_size]; exact s.kt.1, fun k o hk ht hg => (Lib.iterAt_other w1 k0 k fs j (by have h1 := blk_lt hk; have h2 := s.hi; omega)).trans (s.kt.2 k o hk ht hg)⟩
 bx := iter_cells s.it s.bx
 bf := iter_cells s.it s.bf
theorem InsSt.kept {e2 : Int} (s : InsSt gp gx gf k0 cx cf fs buf w0 w i v8 cl ps e1 w1) (ht : KeptT gp w1 w2) (hp : PrAt w0.heap.size gp buf e2 w2) (hb : Below w0.heap.size w0 w2) : InsSt gp gx gf k0 cx cf fs buf w0 w i v8 cl ps e2 w2 where
 hp0 := s.hp0
 hx := s.hx
 hf := s.hf
 hi := s.hi
 h0 := s.h0
 it := it_kept ht s.it (by have := s.hp0; have := s.hi; omega)
 row := R_keptT s.row s.pr ht (by decide)
 cs := s.cs.kept s.pr ht
 pr := hp
 bl := hb
 kt := s.kt.trans ht
 bx := box_kept ht s.bx (by decide) (by have := s.hp0; have := s.hx; omega)
 bf := box_kept ht s.bf (by decide) (by have := s.hp0; have := s.hf; omega)
theorem InsSt.later (s : InsSt gp gx gf k0 cx cf fs buf w0 w i v8 cl ps e1 w1) (hb : Below w1.heap.size w1 w2) : InsSt gp gx gf k0 cx cf fs buf w0 w i v8 cl ps e1 w2 := s.kept ((KeptT.refl gp w1).below hb) (s.pr.below hb) (below_step s.bl hb)
theorem InsSt.app {v1 : Value} {c : Clo} {p : Part} (s : InsSt gp gx gf k0 cx cf fs buf w0 w i v8 cl ps e1 w1) (hp : PartAt gp w1 (encClo c) p) (ho : kClo.R 53 w2 w.heap.size (fun _ => True) v1 (cl ++ [c])) (hb : Below w.heap.size w1 w2) (hg : w1.grownBy w2 v8.ownBlock) : InsSt gp gx gf k0 cx cf fs buf w0 w i v1 (cl ++ [c]) (ps ++ [p]) e1 w2 where
 hp0 := s.hp0
 hx := s.hx
 hf := s.hf
 hi := s.hi
 h0 := s.h0
 it := grown_iter s.row hg s.it
 row := ho
 cs := (s.cs.snoc hp).grownC s.row hg
 pr := s.pr.grown s.row hg (by decide) (by decide)
 bl := s.bl.trans (hb.mono s.h0)
 kt := s.kt.later hb
 bx := grown_box s.row hg s.bx (by decide)
 bf := grown_box s.row hg s.bf (by decide)
end
theorem partsOf_snoc (x : SIns) (l : List UInt8) (c : UInt8) : partsOf x (l ++ [c]) = partsOf x l ++ fieldParts x c := by simp [partsOf]
theorem partsOf_len (x : SIns) : ∀ l : List UInt8, (partsOf x l).length ≤ l.length * (x.f5.length + 1)
 | [] => by simp [partsOf]
 | c :: l => by
  have h := partsOf_len x l
  have h2 : (fieldParts x c).length ≤ x.f5.length + 1 := by unfold fieldParts; (repeat' split) <;> simp
  have e : partsOf x (c :: l) = fieldParts x c ++ partsOf x l := by simp [partsOf]
  rw [e, List.length_append, List.length_cons, Nat.add_mul]; omega
theorem nameErr_snoc (nb : Bool) (e : Int) (l : List UInt8) (c : UInt8) : nameErr nb e (l ++ [c]) = if c = 78 then (if nb then nameErr nb e l else keepE (nameErr nb e l) 80) else nameErr nb e l := by simp [nameErr, List.foldl_append]
set_option maxHeartbeats 8000000 in
set_option maxRecDepth 100000 in
theorem ins_calls {gp : Nat} {buf : List UInt8} {e0 : Int} {w0 w : World} (h : PrAt w0.heap.size gp buf e0 w) (hB : Below w0.heap.size w0 w) (hL : LaidW w0) (x : SIns) (A5 : Option Addr) (c5 : Nat) (h5 : (Kd.int .i64).C w0 A5 x.f5.length x.f5) (code : Bool) (op : Int) (wd fs : ByteArray) (is : Bool) (hof : text_of.f x.f0 code = some (op, wd, fs, is)) (nb : Bool) (hnb : ir_Name.f x.f4 = some nb)
 (hfs : ∀ b ∈ fs.data.toList, b = 68 ∨ b = 65 ∨ b = 66 ∨ b = 78 ∨ b = 76) (hok : ∀ p ∈ partsOf x fs.data.toList, PartOk p) (hpl : fs.size ≤ 10 ∧ x.f5.length ≤ 9000) (hlen : (lineBytes wd (partsOf x fs.data.toList)).length ≤ 1000000000) (hbl : buf.length ≤ 1000000000) :
 Calls Tryz.prog 35 #[.pointer (some ⟨gp, 0, none⟩), .agg #[.int .i64 x.f0, .int .i64 x.f1, .int .i64 x.f2, .int .i64 x.f3, .string x.f4, .slice A5 x.f5.length c5], .bool code] w fun e w' => e = .returned (.tuple #[]) ∧
  (if is then PrAt w0.heap.size gp (buf ++ lineBytes wd (partsOf x fs.data.toList)) (errsOf (nameErr nb e0 fs.data.toList) (partsOf x fs.data.toList)) w' else PrAt w0.heap.size gp buf (keepE e0 80) w') ∧ Below w0.heap.size w0 w' ∧ KeptT gp w w' := by
 obtain ⟨x0, x1, x2, x3, x4, x5⟩ := x
 dsimp only at h5 hof hnb hpl ⊢
 have HPw := zA h
 have HBw := zA hB
 have HW := zA (Below.refl w.heap.size w)
 have HLd := zA hL
 have H5 := zA h5
 have HOf := zA hof
 have HNb := zA hnb
 have HF := zA hfs
 have HOk := zA hok
 have HLen := zA hlen
 have HBl := zA hbl
 clear h hB hL h5 hof hnb hfs hok hlen hbl
 have huI := Tryz.underlying44
 go_enter Tryz.func35, Tryz.ntmps35
 cases is with
 | false =>
  go_wp2_with (first
   | ((with_reducible refine gate_dst (N := 4) rfl ?_); refine box_event (by rfl) (N := 4) (by rfl) (cs := #[.int .i64 x0, .int .i64 x1, .int .i64 x2, .int .i64 x3, .string x4, .slice A5 x5.length c5]) (t := 44) ?hr ?_; (case hr => go_simp <;> rfl); intro gx hg w1 hbox hb; have BX := zA hbox; have HGx := zA (show w.heap.size ≤ gx by rw [hg]; exact HW.out.size); replace HW := zA (below_step HW.out hb); clear hb hbox hg; have z1 := bk6 BX.out)
   | (go_at_call 59; refine (text_of.calls x0 code op wd fs false _ HOf.out).mono ?_; rintro e w2 ⟨rfl, hb⟩; replace HW := zA (below_step HW.out hb); replace BX := zA (blk_below BX.out hb); clear hb z1)
   | ((with_reducible refine gate_dst (N := 6) rfl ?_); refine box_event (by rfl) (N := 6) (by rfl) (cs := #[.int .i64 0, .string (⟨#[]⟩ : ByteArray), .string (⟨#[]⟩ : ByteArray)]) (t := 102) ?hr ?_; (case hr => go_simp <;> rfl); intro gf hg w3 hbox hb; have BF := zA hbox; have HGf := zA (show w.heap.size ≤ gf by rw [hg]; exact HW.out.size); replace HW := zA (below_step HW.out hb); replace BX := zA (blk_below BX.out hb); have HGn := zA (show gx ≠ gf by have := (Array.getElem?_eq_some_iff.1 BX.out).1; intro e; rw [e] at BX; have := BX.out.symm.trans hbox; simp at this); clear hb hbox hg; have z3 := bk3 BF.out)
   | (go_at_call 31; (have HW4 := zA (((HW.out.setCell (p := ⟨gf, 0, none⟩) HGf.out (.int .i64 op)).setCell (p := ⟨gf, 1, none⟩) HGf.out (.string wd)).setCell (p := ⟨gf, 2, none⟩) HGf.out (.string fs)); refine (wrong_calls (HPw.out.below HW4.out) (below_step HBw.out HW4.out) 80).mono ?_; rintro e w5 ⟨rfl, hp, hb, ht⟩; have HP5 := zA hp; have HB5 := zA hb; have HT5 := zA (((KeptT.refl gp w).below HW4.out).trans ht); clear hp hb ht)))
  (try simp only [Exit.inBlock, Exit.then]); refine bodyPost_ret (results_none rfl _ _ _) rfl ?_
  exact ⟨rfl, HP5.out, HB5.out, HT5.out⟩
 | true =>
  go_wp2_with (first
   | ((with_reducible refine gate_dst (N := 4) rfl ?_); refine box_event (by rfl) (N := 4) (by rfl) (cs := #[.int .i64 x0, .int .i64 x1, .int .i64 x2, .int .i64 x3, .string x4, .slice A5 x5.length c5]) (t := 44) ?hr ?_; (case hr => go_simp <;> rfl); intro gx hg w1 hbox hb; have BX := zA hbox; have HGx := zA (show w.heap.size ≤ gx by rw [hg]; exact HW.out.size); replace HW := zA (below_step HW.out hb); clear hb hbox hg; have z1 := bk6 BX.out)
   | (go_at_call 59; refine (text_of.calls x0 code op wd fs true _ HOf.out).mono ?_; rintro e w2 ⟨rfl, hb⟩; replace HW := zA (below_step HW.out hb); replace BX := zA (blk_below BX.out hb); clear hb z1)
   | ((with_reducible refine gate_dst (N := 6) rfl ?_); refine box_event (by rfl) (N := 6) (by rfl) (cs := #[.int .i64 0, .string (⟨#[]⟩ : ByteArray), .string (⟨#[]⟩ : ByteArray)]) (t := 102) ?hr ?_; (case hr => go_simp <;> rfl); intro gf hg w3 hbox hb; have BF := zA hbox; have HGf := zA (show w.heap.size ≤ gf by rw [hg]; exact HW.out.size); replace HW := zA (below_step HW.out hb); replace BX := zA (blk_below BX.out hb); have HGn := zA (show gx ≠ gf by have := (Array.getElem?_eq_some_iff.1 BX.out).1; intro e; rw [e] at BX; have := BX.out.symm.trans hbox; simp at this); clear hb hbox hg; have z3 := bk3 BF.out)
   | fail)
  have hW4 := ((HW.out.setCell (p := ⟨gf, 0, none⟩) HGf.out (.int .i64 op)).setCell (p := ⟨gf, 1, none⟩) HGf.out (.string wd)).setCell (p := ⟨gf, 2, none⟩) HGf.out (.string fs)
  have hWI : Below w.heap.size w (World.iter (((w3.setCell ⟨gf, 0, none⟩ (.int .i64 op)).setCell ⟨gf, 1, none⟩ (.string wd)).setCell ⟨gf, 2, none⟩ (.string fs)) fs 0) := below_alloc hW4 _
  have hIT : (World.iter (((w3.setCell ⟨gf, 0, none⟩ (.int .i64 op)).setCell ⟨gf, 1, none⟩ (.string wd)).setCell ⟨gf, 2, none⟩ (.string fs)) fs 0).heap[w3.heap.size]? = some (.stringIter fs 0) := by
   have h := World.iter_heap (((w3.setCell ⟨gf, 0, none⟩ (.int .i64 op)).setCell ⟨gf, 1, none⟩ (.string wd)).setCell ⟨gf, 2, none⟩ (.string fs)) fs 0
   rw [show (((w3.setCell ⟨gf, 0, none⟩ (.int .i64 op)).setCell ⟨gf, 1, none⟩ (.string wd)).setCell ⟨gf, 2, none⟩ (.string fs)).heap.size = w3.heap.size by simp [World.setCell]] at h
   exact h
  have hBF : (World.iter (((w3.setCell ⟨gf, 0, none⟩ (.int .i64 op)).setCell ⟨gf, 1, none⟩ (.string wd)).setCell ⟨gf, 2, none⟩ (.string fs)) fs 0).heap[gf]? = some (.cells #[.int .i64 op, .string wd, .string fs] 102 (0, 0)) := blk_alloc (blk_put (blk_put (blk_put BF.out 0 _ rfl) 1 _ rfl) 2 _ rfl) _
  have hBX : (World.iter (((w3.setCell ⟨gf, 0, none⟩ (.int .i64 op)).setCell ⟨gf, 1, none⟩ (.string wd)).setCell ⟨gf, 2, none⟩ (.string fs)) fs 0).heap[gx]? = some (.cells #[.int .i64 x0, .int .i64 x1, .int .i64 x2, .int .i64 x3, .string x4, .slice A5 x5.length c5] 44 (0, 0)) := blk_alloc ((heap_setCell_other _ _ _ _ HGn.out).trans ((heap_setCell_other _ _ _ _ HGn.out).trans ((heap_setCell_other _ _ _ _ HGn.out).trans BX.out))) _
  generalize World.iter (((w3.setCell ⟨gf, 0, none⟩ (.int .i64 op)).setCell ⟨gf, 1, none⟩ (.string wd)).setCell ⟨gf, 2, none⟩ (.string fs)) fs 0 = wI at hWI hIT hBF hBX ⊢
  have HS : Aside0 (InsSt gp gx gf w3.heap.size #[.int .i64 x0, .int .i64 x1, .int .i64 x2, .int .i64 x3, .string x4, .slice A5 x5.length c5] #[.int .i64 op, .string wd, .string fs] fs buf w0 w 0 (.slice none 0 0) [] [] e0 wI) := ⟨⟨by obtain ⟨_, p, v, hk, _⟩ := HPw.out; exact blk_lt hk, HGx.out, HGf.out, HW.out.size, HBw.out.size, hIT, Kd.R_nil _ _ _ _ _, ⟨rfl, fun j c p h1 => by simp at h1⟩, HPw.out.below hWI, below_step HBw.out hWI, (KeptT.refl gp w).below hWI, hBX, hBF⟩⟩
  clear hWI hIT hBF hBX hW4
  go_loopg [8] fs.size (fun kq v8 w' => ∃ (i : Nat) (cl : List Clo), Aside0 (kq + i = fs.size) ∧ Aside0 (InsSt gp gx gf w3.heap.size #[.int .i64 x0, .int .i64 x1, .int .i64 x2, .int .i64 x3, .string x4, .slice A5 x5.length c5] #[.int .i64 op, .string wd, .string fs] fs buf w0 w i v8 cl (partsOf (⟨x0, x1, x2, x3, x4, x5⟩ : SIns) (fs.data.toList.take i)) (nameErr nb e0 (fs.data.toList.take i)) w'))
  case atStart => exact ⟨0, [], ⟨by omega⟩, HS⟩
  case round =>
  clear HS
  obtain ⟨i, cl, HK, HS⟩ := hrel
  have hcl : cl.length ≤ 100000 := by
   have h1 := partsOf_len (⟨x0, x1, x2, x3, x4, x5⟩ : SIns) (fs.data.toList.take i)
   have h2 : (fs.data.toList.take i).length ≤ 10 := by have h9 : fs.data.toList.length = fs.size := (by simp); rw [List.length_take]; omega
   have h3 : (fs.data.toList.take i).length * (x5.length + 1) ≤ 10 * 9001 := Nat.mul_le_mul h2 (by omega)
   rw [HS.out.cs.len]; exact Nat.le_trans h1 (by show _ * (x5.length + 1) ≤ _; omega)
  cases gk with
  | zero =>
   have hif : i = fs.size := by have := HK.out; omega
   have hnx : ∀ ty, (Instr.next (.pointer (some ⟨w3.heap.size, 0, none⟩)) true ty).run Tryz.prog wr = .ok (.tuple #[.bool false]) wr := fun ty => Lib.run_next_end_at wr _ fs i ty HS.out.it (by omega)
   have z3 := bk3 HS.out.bf
   obtain ⟨A, c, rfl⟩ := Kd.R_slice HS.out.row
   have HQ := zA (parts_of HS.out.row HS.out.cs)
   have htk : fs.data.toList.take i = fs.data.toList := List.take_of_length_le (by have : fs.data.toList.length = fs.size := (by simp); omega)
   rw [htk] at HQ HS
   have HLn := zA HS.out.cs.len
   rw [HLn.out]
   go_wp2_with (go_at_call 16; refine (line_calls HS.out.pr HS.out.bl HLd.out wd _ A c HQ.out HOk.out (by rw [← HLn.out]; omega) HLen.out HBl.out).mono ?_; rintro e w5 ⟨rfl, hp, hb, ht⟩; have HP5 := zA hp; have HB5 := zA hb; have HT5 := zA (HS.out.kt.trans ht); clear hp hb ht)
   go_end0
   exact ⟨rfl, HP5.out, HB5.out, HT5.out⟩
  | succ k1 =>
   have hi : i < fs.size := by have := HK.out; omega
   obtain ⟨c, hc⟩ : ∃ c, c = fs[i]'hi := ⟨_, rfl⟩
   have hgl : fs.data.toList[i]? = some c := by rw [hc]; simp [ByteArray.getElem_eq_getElem_data]
   have htk : fs.data.toList.take (i + 1) = fs.data.toList.take i ++ [c] := by rw [List.take_add_one, hgl]; rfl
   have hm : c ∈ fs.data.toList := List.mem_of_getElem? hgl
   obtain ⟨wi, hwi⟩ : ∃ wi, wi = wr.iterAt w3.heap.size fs (i + 1) := ⟨_, rfl⟩
   have HS1 := zA (HS.out.next (i + 1))
   rw [← hwi] at HS1
   have hgen : ∀ n : Nat, c.toNat = n → n < 128 → ∀ ty, (Instr.next (.pointer (some ⟨w3.heap.size, 0, none⟩)) true ty).run Tryz.prog wr = .ok (.tuple #[.bool true, .int .i64 i, .int .i32 (n : Int)]) wi := fun n hn h8 ty => by
    rw [Lib.run_next_ascii_at wr _ fs i ty HS.out.it hi (by rw [← hc, hn]; exact h8), ← hc, hn, hwi]
   have z6 := bk6 HS1.out.bx
   have hcc := HF.out c hm
   clear hc hgl hm hwi
   rcases hcc with rfl | rfl | rfl | rfl | rfl
   ·have hnx := hgen 68 rfl (by decide)
    clear hgen
    go_wp2_with (first
     | (go_at_call 18; refine (number_calls x1).mono ?_; rintro e w5 ⟨v, rfl, hpa, hb⟩; obtain ⟨b1, b2, rfl, h1, h2⟩ := hpa; have HPa := zA (show PartAt gp w5 (encClo (.num b1 b2)) (.num x1) from ⟨b1, b2, rfl, h1, h2⟩); have HS5 := zA (HS1.out.later hb); clear h1 h2 hb)
     | ((with_reducible refine gate_builtin (b := .append) (xs := #[.tmp 33, .tmp 38]) rfl ?_); at_builtin; (refine Kd.R_append kClo (w0 := w5) w.heap.size rfl (.tmp 33) (.tmp 38) 69 53 Value.nilFunc 8 rfl Tryz.underlying69 infoClo rfl (by decide) (by omega) u8 cl (Clo.num b1 b2) [.func (.func 33) #[] #[.pointer (some ⟨b1, 0, none⟩), .pointer (some ⟨b2, 0, none⟩)]] (fun _ => True) (fun _ => False) rfl rfl ?aP (fun _ hk => hk.elim) ?aF ?aO ?aB ?aS ?aL ?_; (case aP => exact rfl); (case aF => exact fun _ _ => trivial); (case aO => exact HS5.out.row); (case aB => exact Below.refl _ _); (case aS => exact HS5.out.kt.1); (case aL => omega); intro v1 w6 ho3 hb3 hg3 _; have HS6 := zA (HS5.out.app HPa.out ho3 hb3 hg3); clear ho3 hb3 hg3)))
    go_roundg k1
    case measure => have := HK.out; omega
    case rel => exact ⟨i + 1, _, ⟨by have := HK.out; omega⟩, ⟨by rw [htk, partsOf_snoc, nameErr_snoc]; exact HS6.out⟩⟩
   ·have hnx := hgen 65 rfl (by decide)
    clear hgen
    go_wp2_with (first
     | (go_at_call 18; refine (number_calls x2).mono ?_; rintro e w5 ⟨v, rfl, hpa, hb⟩; obtain ⟨b1, b2, rfl, h1, h2⟩ := hpa; have HPa := zA (show PartAt gp w5 (encClo (.num b1 b2)) (.num x2) from ⟨b1, b2, rfl, h1, h2⟩); have HS5 := zA (HS1.out.later hb); clear h1 h2 hb)
     | ((with_reducible refine gate_builtin (b := .append) (xs := #[.tmp 42, .tmp 47]) rfl ?_); at_builtin; (refine Kd.R_append kClo (w0 := w5) w.heap.size rfl (.tmp 42) (.tmp 47) 69 53 Value.nilFunc 8 rfl Tryz.underlying69 infoClo rfl (by decide) (by omega) u8 cl (Clo.num b1 b2) [.func (.func 33) #[] #[.pointer (some ⟨b1, 0, none⟩), .pointer (some ⟨b2, 0, none⟩)]] (fun _ => True) (fun _ => False) rfl rfl ?aP (fun _ hk => hk.elim) ?aF ?aO ?aB ?aS ?aL ?_; (case aP => exact rfl); (case aF => exact fun _ _ => trivial); (case aO => exact HS5.out.row); (case aB => exact Below.refl _ _); (case aS => exact HS5.out.kt.1); (case aL => omega); intro v1 w6 ho3 hb3 hg3 _; have HS6 := zA (HS5.out.app HPa.out ho3 hb3 hg3); clear ho3 hb3 hg3)))
    go_roundg k1
    case measure => have := HK.out; omega
    case rel => exact ⟨i + 1, _, ⟨by have := HK.out; omega⟩, ⟨by rw [htk, partsOf_snoc, nameErr_snoc]; exact HS6.out⟩⟩
   ·have hnx := hgen 66 rfl (by decide)
    clear hgen
    go_wp2_with (first
     | (go_at_call 18; refine (number_calls x3).mono ?_; rintro e w5 ⟨v, rfl, hpa, hb⟩; obtain ⟨b1, b2, rfl, h1, h2⟩ := hpa; have HPa := zA (show PartAt gp w5 (encClo (.num b1 b2)) (.num x3) from ⟨b1, b2, rfl, h1, h2⟩); have HS5 := zA (HS1.out.later hb); clear h1 h2 hb)
     | ((with_reducible refine gate_builtin (b := .append) (xs := #[.tmp 51, .tmp 56]) rfl ?_); at_builtin; (refine Kd.R_append kClo (w0 := w5) w.heap.size rfl (.tmp 51) (.tmp 56) 69 53 Value.nilFunc 8 rfl Tryz.underlying69 infoClo rfl (by decide) (by omega) u8 cl (Clo.num b1 b2) [.func (.func 33) #[] #[.pointer (some ⟨b1, 0, none⟩), .pointer (some ⟨b2, 0, none⟩)]] (fun _ => True) (fun _ => False) rfl rfl ?aP (fun _ hk => hk.elim) ?aF ?aO ?aB ?aS ?aL ?_; (case aP => exact rfl); (case aF => exact fun _ _ => trivial); (case aO => exact HS5.out.row); (case aB => exact Below.refl _ _); (case aS => exact HS5.out.kt.1); (case aL => omega); intro v1 w6 ho3 hb3 hg3 _; have HS6 := zA (HS5.out.app HPa.out ho3 hb3 hg3); clear ho3 hb3 hg3)))
    go_roundg k1
    case measure => have := HK.out; omega
    case rel => exact ⟨i + 1, _, ⟨by have := HK.out; omega⟩, ⟨by rw [htk, partsOf_snoc, nameErr_snoc]; exact HS6.out⟩⟩
   ·have hnx := hgen 78 rfl (by decide)
    clear hgen
    go_wp2_with (first
     | (go_at_call 17; refine (name_calls HS1.out.pr HS1.out.bl x4 nb HNb.out).mono ?_; rintro e w5 ⟨v, rfl, hpa, hp, hb, ht⟩; obtain ⟨b1, rfl, h1⟩ := hpa; have HPa := zA (show PartAt gp w5 (encClo (.nm b1)) (.nm x4) from ⟨b1, rfl, h1⟩); have HS5 := zA (HS1.out.kept ht hp hb); clear h1 hp hb ht)
     | ((with_reducible refine gate_builtin (b := .append) (xs := #[.tmp 60, .tmp 65]) rfl ?_); at_builtin; (refine Kd.R_append kClo (w0 := w5) w.heap.size rfl (.tmp 60) (.tmp 65) 69 53 Value.nilFunc 8 rfl Tryz.underlying69 infoClo rfl (by decide) (by omega) u8 cl (Clo.nm b1) [.func (.func 32) #[] #[.pointer (some ⟨b1, 0, none⟩)]] (fun _ => True) (fun _ => False) rfl rfl ?aP (fun _ hk => hk.elim) ?aF ?aO ?aB ?aS ?aL ?_; (case aP => exact rfl); (case aF => exact fun _ _ => trivial); (case aO => exact HS5.out.row); (case aB => exact Below.refl _ _); (case aS => exact HS5.out.kt.1); (case aL => omega); intro v1 w6 ho3 hb3 hg3 _; have HS6 := zA (HS5.out.app HPa.out ho3 hb3 hg3); clear ho3 hb3 hg3)))
    go_roundg k1
    case measure => have := HK.out; omega
    case rel => exact ⟨i + 1, _, ⟨by have := HK.out; omega⟩, ⟨by rw [htk, partsOf_snoc, nameErr_snoc]; exact HS6.out⟩⟩
   ·have hnx := hgen 76 rfl (by decide)
    clear hgen
    go_wp2_with fail
    clear z6
    go_loopg [8, 72] x5.length (fun kq2 v8 v72 w' => ∃ (j : Nat) (cl2 : List Clo), v72 = .int .i64 (j : Int) ∧ Aside0 (kq2 + j = x5.length) ∧ Aside0 (InsSt gp gx gf w3.heap.size #[.int .i64 x0, .int .i64 x1, .int .i64 x2, .int .i64 x3, .string x4, .slice A5 x5.length c5] #[.int .i64 op, .string wd, .string fs] fs buf w0 w (i + 1) v8 cl2 (partsOf (⟨x0, x1, x2, x3, x4, x5⟩ : SIns) (fs.data.toList.take i) ++ (x5.take j).map .num) (nameErr nb e0 (fs.data.toList.take i)) w'))
    case atStart => exact ⟨0, cl, by first | rfl | simp, ⟨by omega⟩, ⟨by simpa using HS1.out⟩⟩
    case round =>
     clear HS1 HS hcl
     obtain ⟨j, cl2, rfl, HJ, HS2⟩ := hrel
     have hcl : cl2.length ≤ 100000 := by
      have h1 := partsOf_len (⟨x0, x1, x2, x3, x4, x5⟩ : SIns) (fs.data.toList.take i)
      have h2 : (fs.data.toList.take i).length ≤ 10 := by rw [List.length_take]; have : fs.data.toList.length = fs.size := (by simp); omega
      have h3 : (fs.data.toList.take i).length * (x5.length + 1) ≤ 10 * 9001 := Nat.mul_le_mul h2 (by omega)
      have h4 := HS2.out.cs.len
      rw [List.length_append, List.length_map, List.length_take] at h4
      have h5 : (partsOf (⟨x0, x1, x2, x3, x4, x5⟩ : SIns) (fs.data.toList.take i)).length ≤ 90010 := Nat.le_trans h1 (by show _ * (x5.length + 1) ≤ _; omega)
      omega
     cases gk with
     | zero =>
      have d1b := zG (show ¬ ((j : Int) < (x5.length : Int)) by have := HJ.out; omega)
      have d1c := zG (show ¬ (j < x5.length) by have := HJ.out; omega)
      have hj : j = x5.length := by have := HJ.out; omega
      go_wp2_with fail
      go_roundg k1
      case measure => have := HK.out; omega
      case rel => exact ⟨i + 1, _, ⟨by have := HK.out; omega⟩, ⟨by rw [htk, partsOf_snoc, nameErr_snoc]; rw [hj, List.take_length] at HS2; exact HS2.out⟩⟩
     | succ k2 =>
      have hj : j < x5.length := by have := HJ.out; omega
      have d1b := zF (show ((j : Int) < (x5.length : Int)) by omega)
      have d1c := zF hj
      obtain ⟨n, hn⟩ : ∃ n, x5[j]? = some n := ⟨_, List.getElem?_eq_getElem hj⟩
      obtain ⟨ad, ea, hh⟩ := (Kd.C_below H5.out HS2.out.bl).2.2 (by omega)
      subst ea
      obtain ⟨c1, hl1, hk1, hx1⟩ := hh j n hn
      have hk1' : c1 = [.int .i64 n] := hk1
      subst hk1'
      have hx0 := hx1 0 _ rfl
      have hxa : (Kd.int IntKind.i64).sz = 1 := rfl
      rw [hxa, Nat.mul_one, Nat.add_zero] at hx0
      clear hh hx1 hl1 hk1
      go_wp2_with (first
       | (go_at_call 18; refine (number_calls n).mono ?_; rintro e w5 ⟨v, rfl, hpa, hb⟩; obtain ⟨b1, b2, rfl, h1, h2⟩ := hpa; have HPa := zA (show PartAt gp w5 (encClo (.num b1 b2)) (.num n) from ⟨b1, b2, rfl, h1, h2⟩); have HS5 := zA (HS2.out.later hb); clear h1 h2 hb)
       | ((with_reducible refine gate_builtin (b := .append) (xs := #[.tmp 76, .tmp 80]) rfl ?_); at_builtin; (refine Kd.R_append kClo (w0 := w5) w.heap.size rfl (.tmp 76) (.tmp 80) 69 53 Value.nilFunc 8 rfl Tryz.underlying69 infoClo rfl (by decide) (by omega) u8 cl2 (Clo.num b1 b2) [.func (.func 33) #[] #[.pointer (some ⟨b1, 0, none⟩), .pointer (some ⟨b2, 0, none⟩)]] (fun _ => True) (fun _ => False) rfl rfl ?aP (fun _ hk => hk.elim) ?aF ?aO ?aB ?aS ?aL ?_; (case aP => exact rfl); (case aF => exact fun _ _ => trivial); (case aO => exact HS5.out.row); (case aB => exact Below.refl _ _); (case aS => exact HS5.out.kt.1); (case aL => omega); intro v1 w6 ho3 hb3 hg3 _; have HS6 := zA (HS5.out.app HPa.out ho3 hb3 hg3); clear ho3 hb3 hg3)))
      go_roundg k2
      case measure => have := HJ.out; omega
      case rel => exact ⟨j + 1, _, by go_num, ⟨by have := HJ.out; omega⟩, ⟨by rw [List.take_add_one, hn]; simp only [Option.toList_some, List.map_append, List.map_cons, List.map_nil, ← List.append_assoc]; exact HS6.out⟩⟩
def insText (code : Bool) (s : List UInt8 × Int) (x : SIns) : List UInt8 × Int := match text_of.f x.f0 code with
 | some (_, wd, fs, true) => (s.1 ++ lineBytes wd (partsOf x fs.data.toList), errsOf (nameErr ((ir_Name.f x.f4).getD false) s.2 fs.data.toList) (partsOf x fs.data.toList))
 | _ => (s.1, keepE s.2 80)
structure InsOk (code : Bool) (x : SIns) : Prop where
 of_ : ∃ op wd fs is, text_of.f x.f0 code = some (op, wd, fs, is) ∧ (∀ b ∈ fs.data.toList, b = 68 ∨ b = 65 ∨ b = 66 ∨ b = 78 ∨ b = 76) ∧ (∀ p ∈ partsOf x fs.data.toList, PartOk p) ∧ fs.size ≤ 10 ∧ (lineBytes wd (partsOf x fs.data.toList)).length ≤ 1000000000
 nm : ∃ nb, ir_Name.f x.f4 = some nb
 len : x.f5.length ≤ 9000
def blkText (code : Bool) (s : List UInt8 × Int) (xs : List SIns) : List UInt8 × Int := xs.foldl (insText code) (s.1 ++ [98, 108, 111, 99, 107, 10], s.2)
def blksText (code : Bool) (s : List UInt8 × Int) (l : List (List SIns)) : List UInt8 × Int := l.foldl (blkText code) s
theorem fold_len {α : Type} {f : List UInt8 × Int → α → List UInt8 × Int} (hf : ∀ s x, s.1.length ≤ (f s x).1.length) : ∀ (l : List α) (s : List UInt8 × Int), s.1.length ≤ (l.foldl f s).1.length
 | [], s => Nat.le_refl _
 | x :: l, s => Nat.le_trans (hf s x) (fold_len hf l (f s x))
theorem fold_take {α : Type} {f : List UInt8 × Int → α → List UInt8 × Int} (hf : ∀ s x, s.1.length ≤ (f s x).1.length) (l : List α) (s : List UInt8 × Int) (n : Nat) : ((l.take n).foldl f s).1.length ≤ (l.foldl f s).1.length := by
 conv => rhs; rw [← List.take_append_drop n l, List.foldl_append]
 exact fold_len hf _ _
theorem insText_len (code : Bool) (s : List UInt8 × Int) (x : SIns) : s.1.length ≤ (insText code s x).1.length := by
 unfold insText
 split
 ·simp
 ·exact Nat.le_refl _
theorem blkText_len (code : Bool) (s : List UInt8 × Int) (xs : List SIns) : s.1.length ≤ (blkText code s xs).1.length := Nat.le_trans (by simp) (fold_len (insText_len code) xs (s.1 ++ [98, 108, 111, 99, 107, 10], s.2))
theorem blkText_take (code : Bool) (s : List UInt8 × Int) (xs : List SIns) (n : Nat) : ((xs.take n).foldl (insText code) (s.1 ++ [98, 108, 111, 99, 107, 10], s.2)).1.length ≤ (blkText code s xs).1.length := fold_take (insText_len code) xs _ n
theorem fold_snoc {α β : Type} (f : β → α → β) (l : List α) (s : β) (n : Nat) (x : α) (h : l[n]? = some x) : (l.take (n + 1)).foldl f s = f ((l.take n).foldl f s) x := by rw [List.take_add_one, h]; simp
theorem rd_TIns_at {xs : List SIns} {j : Nat} {x : SIns} (h : xs[j]? = some x) : rd_TIns xs (j : Int) = x := by unfold rd_TIns; simp [h]
theorem rd_LIns_at {xs : List (List SIns)} {j : Nat} {x : List SIns} (h : xs[j]? = some x) : rd_LIns xs (j : Int) = x := by unfold rd_LIns; simp [h]
section
variable {gp : Nat} {buf : List UInt8} {e0 : Int} {w0 w : World}
theorem ins_text_calls (h : PrAt w0.heap.size gp buf e0 w) (hB : Below w0.heap.size w0 w) (hL : LaidW w0) (x : SIns) (A5 : Option Addr) (c5 : Nat) (h5 : (Kd.int .i64).C w0 A5 x.f5.length x.f5) (code : Bool) (hok : InsOk code x) (hbl : buf.length ≤ 1000000000) :
 Calls Tryz.prog 35 #[.pointer (some ⟨gp, 0, none⟩), .agg #[.int .i64 x.f0, .int .i64 x.f1, .int .i64 x.f2, .int .i64 x.f3, .string x.f4, .slice A5 x.f5.length c5], .bool code] w fun e w' => e = .returned (.tuple #[]) ∧ PrAt w0.heap.size gp (insText code (buf, e0) x).1 (insText code (buf, e0) x).2 w' ∧ Below w0.heap.size w0 w' := by
 obtain ⟨⟨op, wd, fs, is, ho, hf, hp, hfs, hln⟩, ⟨nb, hnb⟩, h5l⟩ := hok
 refine (ins_calls h hB hL x A5 c5 h5 code op wd fs is ho nb hnb hf hp ⟨hfs, h5l⟩ hln hbl).mono ?_
 rintro e w' ⟨rfl, hq, hb, -⟩
 refine ⟨rfl, ?_, hb⟩
 unfold insText
 rw [ho, hnb]
 cases is with
 | true => simpa using hq
 | false => simpa using hq
set_option maxHeartbeats 8000000 in
set_option maxRecDepth 100000 in
theorem blocks_calls (h : PrAt w0.heap.size gp buf e0 w) (hB : Below w0.heap.size w0 w) (hL : LaidW w0) (h0 : buf ≠ []) (A : Option Addr) (c : Nat) (l : List (List SIns)) (hl : Kd.C (Kd.slice 44 kIns) w0 A l.length l) (code : Bool) (hok : ∀ xs ∈ l, ∀ x ∈ xs, InsOk code x) (hs : (blksText code (buf, e0) l).1.length ≤ 1000000000) :
 Calls Tryz.prog 19 #[.pointer (some ⟨gp, 0, none⟩), .slice A l.length c, .bool code] w fun e w' => e = .returned (.tuple #[.string (if (blksText code (buf, e0) l).2 = 0 then ⟨(blksText code (buf, e0) l).1.toArray⟩ else ⟨#[]⟩), .int .i64 (blksText code (buf, e0) l).2]) ∧ Below w0.heap.size w0 w' := by
 have HP := zA h
 have HB := zA hB
 have HLd := zA hL
 have HC := zA hl
 have HOk := zA hok
 have HS := zA hs
 clear h hB hL hl hok hs
 have hu43 := Tryz.underlying44
 go_enter Tryz.func19, Tryz.ntmps19
 go_wp2_with fail
 go_loopg [14] l.length (fun kq v14 w' => ∃ (i : Nat), v14 = .int .i64 (i : Int) ∧ Aside0 (kq + i = l.length) ∧ Aside0 (PrAt w0.heap.size gp (blksText code (buf, e0) (l.take i)).1 (blksText code (buf, e0) (l.take i)).2 w') ∧ Aside0 (Below w0.heap.size w0 w'))
 case atStart => exact ⟨0, by first | rfl | simp, ⟨by omega⟩, HP, HB⟩
 case round =>
 clear HP HB
 obtain ⟨i, rfl, HK, HP, HB⟩ := hrel
 cases gk with
 | zero =>
  have d1b := zG (show ¬ ((i : Int) < (l.length : Int)) by have := HK.out; omega)
  have d1c := zG (show ¬ (i < l.length) by have := HK.out; omega)
  have hil : i = l.length := by have := HK.out; omega
  rw [hil, List.take_length] at HP
  have hne : (blksText code (buf, e0) l).1 ≠ [] := fun e => by
   have h := fold_len (blkText_len code) l (buf, e0)
   have h2 : (l.foldl (blkText code) (buf, e0)).1 = [] := e
   rw [h2] at h
   exact h0 (List.length_eq_zero_iff.1 (Nat.le_zero.1 h))
  obtain ⟨s, hse⟩ : ∃ s, s = blksText code (buf, e0) l := ⟨_, rfl⟩
  rw [← hse] at HP hne
  have HSe := zA hse
  clear hse
  obtain ⟨ge, p, v, hk, -⟩ := HP.out
  have z3 := bk3 hk
  have HNe := zA hne
  clear hk ge hne
  by_cases he : s.2 = 0
  ·have hd := zF he
   have HE := zA he
   rw [he] at HP z3
   go_wp2_with (go_at_call 36; refine (string_calls HP.out HB.out HNe.out).mono ?_; rintro e w5 ⟨rfl, hb⟩; have HB5 := zA hb; clear hb)
   have hz : (blksText code (buf, e0) l).2 = 0 := by rw [← HSe.out]; exact HE.out
   all_goals first
    | exact absurd (show (blksText code (buf, e0) l).2 = 0 by rw [← HSe.out]; exact HE.out) ‹_›
    | (go_ret2; refine ⟨?_, HB5.out⟩; first | rfl | (rw [← HSe.out]; rfl))
  ·have hd := zG he
   have HE := zA he
   go_wp2_with fail
   all_goals first
    | exact absurd ‹(blksText code (buf, e0) l).2 = 0› (show ¬ (blksText code (buf, e0) l).2 = 0 by rw [← HSe.out]; exact HE.out)
    | skip
   have HBd := zA (below_step HB.out (below_drew (Below.refl _ _)))
   go_region_with fail
   (try simp only [Act.put, List.setIfInBounds_toArray, List.set_cons_zero, List.set_cons_succ])
   go_wp2_with fail
   all_goals first
    | exact absurd ‹(blksText code (buf, e0) l).2 = 0› (show ¬ (blksText code (buf, e0) l).2 = 0 by rw [← HSe.out]; exact HE.out)
    | (go_ret2; refine ⟨?_, HBd.out⟩; rw [← HSe.out]; rfl)
 | succ k1 =>
  have hi : i < l.length := by have := HK.out; omega
  have d1b := zF (show ((i : Int) < (l.length : Int)) by omega)
  have d1c := zF hi
  obtain ⟨xs, hxs⟩ : ∃ xs, l[i]? = some xs := ⟨_, List.getElem?_eq_getElem hi⟩
  obtain ⟨ad, A1, c1, ea, hx1, hl1, hi1⟩ := at_LIns HC.out (i : Int) (by omega) (by omega)
  cases ea
  rw [rd_LIns_at hxs] at hx1 hl1 hi1
  replace hx1 := (HB.out.cell (zE w0 _ hx1)).trans hx1
  rw [Int.toNat_natCast] at hx1
  have HC1 := zA hi1
  have hxm := Kd.C_max hi1
  have hlm := Kd.C_max HC.out
  have hsz : (blksText code (buf, e0) (l.take i)).1.length ≤ 1000000000 := Nat.le_trans (fold_take (blkText_len code) l _ i) HS.out
  have hss : (blkText code (blksText code (buf, e0) (l.take i)) xs).1.length ≤ 1000000000 := by
   have h := fold_take (blkText_len code) l (buf, e0) (i + 1)
   rw [fold_snoc _ _ _ _ _ hxs] at h
   exact Nat.le_trans h HS.out
  have hsn : blksText code (buf, e0) (l.take (i + 1)) = blkText code (blksText code (buf, e0) (l.take i)) xs := fold_snoc _ _ _ _ _ hxs
  have hox : ∀ x ∈ xs, InsOk code x := HOk.out xs (List.mem_of_getElem? hxs)
  have HSn := zA hsn
  have HSz := zA hsz
  have HSs := zA hss
  clear hi1 hl1 hsn hsz hss
  obtain ⟨s, hse⟩ : ∃ s, s = blksText code (buf, e0) (l.take i) := ⟨_, rfl⟩
  rw [← hse] at HP HSz HSs HSn
  clear hse
  go_wp2_with (go_at_call 16; refine (line_calls HP.out HB.out HLd.out (⟨#[98, 108, 111, 99, 107]⟩ : ByteArray) [] none 0 (.inl rfl) (by simp) (by simp) (by decide) HSz.out).mono ?_; rintro e w5 ⟨rfl, hp, hb, ht⟩; have HP5 := zA hp; have HB5 := zA hb; clear hp hb ht)
  go_loopg [22] xs.length (fun kq2 v22 w' => ∃ (j : Nat), v22 = .int .i64 (j : Int) ∧ Aside0 (kq2 + j = xs.length) ∧ Aside0 (PrAt w0.heap.size gp ((xs.take j).foldl (insText code) (s.1 ++ [98, 108, 111, 99, 107, 10], s.2)).1 ((xs.take j).foldl (insText code) (s.1 ++ [98, 108, 111, 99, 107, 10], s.2)).2 w') ∧ Aside0 (Below w0.heap.size w0 w'))
  case atStart => exact ⟨0, by first | rfl | simp, ⟨by omega⟩, HP5, HB5⟩
  case round =>
   clear HP HB HP5 HB5 hx1
   obtain ⟨j, rfl, HJ, HP, HB⟩ := hrel
   cases gk with
   | zero =>
    have d2b := zG (show ¬ ((j : Int) < (xs.length : Int)) by have := HJ.out; omega)
    have d2c := zG (show ¬ (j < xs.length) by have := HJ.out; omega)
    have hj : j = xs.length := by have := HJ.out; omega
    rw [hj, List.take_length] at HP
    go_wp2_with fail
    go_roundg k1
    case measure => have := HK.out; omega
    case rel => exact ⟨i + 1, by go_num, ⟨by have := HK.out; omega⟩, ⟨by rw [HSn.out]; exact HP.out⟩, HB⟩
   | succ k2 =>
    have hj : j < xs.length := by have := HJ.out; omega
    have d2b := zF (show ((j : Int) < (xs.length : Int)) by omega)
    have d2c := zF hj
    obtain ⟨x, hx⟩ : ∃ x, xs[j]? = some x := ⟨_, List.getElem?_eq_getElem hj⟩
    obtain ⟨ad2, A5, c5, ea, hx0, hx1, hx2, hx3, hx4, hx5, hl5, hi5⟩ := at_TIns HC1.out (j : Int) (by omega) (by omega)
    cases ea
    rw [rd_TIns_at hx] at hx0 hx1 hx2 hx3 hx4 hx5 hl5 hi5
    rw [Int.toNat_natCast] at hx0 hx1 hx2 hx3 hx4 hx5
    replace hx0 := (HB.out.cell (zE w0 _ hx0)).trans hx0
    replace hx1 := (HB.out.cell (zE w0 _ hx1)).trans hx1
    replace hx2 := (HB.out.cell (zE w0 _ hx2)).trans hx2
    replace hx3 := (HB.out.cell (zE w0 _ hx3)).trans hx3
    replace hx4 := (HB.out.cell (zE w0 _ hx4)).trans hx4
    replace hx5 := (HB.out.cell (zE w0 _ hx5)).trans hx5
    have H5 := zA hi5
    have HO := zA (hox x (List.mem_of_getElem? hx))
    have hsj : ((xs.take j).foldl (insText code) (s.1 ++ [98, 108, 111, 99, 107, 10], s.2)).1.length ≤ 1000000000 := Nat.le_trans (blkText_take code s xs j) HSs.out
    have HJl := zA hsj
    have hsn := fold_snoc (insText code) xs (s.1 ++ [98, 108, 111, 99, 107, 10], s.2) j x hx
    have HSj := zA hsn
    clear hi5 hl5 hsj hsn
    obtain ⟨y, hye⟩ : ∃ y, y = (xs.take j).foldl (insText code) (s.1 ++ [98, 108, 111, 99, 107, 10], s.2) := ⟨_, rfl⟩
    rw [← hye] at HP HJl HSj
    clear hye
    go_wp2_with (first
     | ((with_reducible refine gate_dst (N := 11) rfl ?_); refine box_event (by rfl) (N := 11) (by rfl) (cs := #[.int .i64 0, .int .i64 0, .int .i64 0, .int .i64 0, .string (⟨#[]⟩ : ByteArray), .slice none 0 0]) (t := 44) ?hr ?_; (case hr => go_simp <;> rfl); intro gx hg w6 hbox hb; have BX := zA hbox; have hgx : wr.heap.size ≤ gx := (by rw [hg]; exact Nat.le_refl _); have HW4 := zA (((((((hb.setCell (p := ⟨gx, 0, none⟩) hgx (.int .i64 x.f0)).setCell (p := ⟨gx, 1, none⟩) hgx (.int .i64 x.f1)).setCell (p := ⟨gx, 2, none⟩) hgx (.int .i64 x.f2)).setCell (p := ⟨gx, 3, none⟩) hgx (.int .i64 x.f3)).setCell (p := ⟨gx, 4, none⟩) hgx (.string x.f4)).setCell (p := ⟨gx, 5, none⟩) hgx (.slice A5 x.f5.length c5))); clear hb hbox hg hgx; have z6 := bk6 BX.out)
     | (go_at_call 35; refine (ins_text_calls (HP.out.below HW4.out) (below_step HB.out HW4.out) HLd.out x A5 c5 H5.out code HO.out HJl.out).mono ?_; rintro e w7 ⟨rfl, hp, hb⟩; have HP7 := zA hp; have HB7 := zA hb; clear hp hb))
    go_roundg k2
    case measure => have := HJ.out; omega
    case rel => exact ⟨j + 1, by go_num, ⟨by have := HJ.out; omega⟩, ⟨by rw [HSj.out]; exact HP7.out⟩, HB7⟩
end
def printHead (a0 : ByteArray) (a1 a2 : Int) : List UInt8 × Int := (lineBytes (⟨#[102, 117, 110, 99]⟩ : ByteArray) [.nm a0, .num a1, .num a2], errsOf (if (ir_Name.f a0).getD false then 0 else keepE 0 80) [.nm a0, .num a1, .num a2])
def printS (a0 : ByteArray) (a1 a2 : Int) (l : List (List SIns)) : List UInt8 × Int := blksText false (printHead a0 a1 a2) l
def partOkB : Part → Bool
 | .num n => decide (-9223372036854775808 ≤ n ∧ n ≤ 9223372036854775807)
 | .nm _ => true
theorem partOkB_ok {p : Part} (h : partOkB p = true) : PartOk p := by
 cases p with
 | num n => exact (show -9223372036854775808 ≤ n ∧ n ≤ 9223372036854775807 from zB h)
 | nm s => trivial
def insOkB (code : Bool) (x : SIns) : Bool := match text_of.f x.f0 code with
 | some (_, wd, fs, _) => (fs.data.toList.all fun b => decide (b = 68 ∨ b = 65 ∨ b = 66 ∨ b = 78 ∨ b = 76)) && (partsOf x fs.data.toList).all partOkB && decide (fs.size ≤ 10) && decide ((lineBytes wd (partsOf x fs.data.toList)).length ≤ 1000000000) && (ir_Name.f x.f4).isSome && decide (x.f5.length ≤ 9000)
 | none => false
theorem insOkB_ok {code : Bool} {x : SIns} (h : insOkB code x = true) : InsOk code x := by
 unfold insOkB at h
 split at h
 ·next op wd fs is ho =>
  simp only [Bool.and_eq_true, decide_eq_true_eq] at h
  obtain ⟨⟨⟨⟨⟨h1, h2⟩, h3⟩, h4⟩, h5⟩, h6⟩ := h
  exact ⟨⟨op, wd, fs, is, ho, fun b hb => zB (List.all_eq_true.1 h1 b hb), fun p hp => partOkB_ok (List.all_eq_true.1 h2 p hp), h3, h4⟩, Option.isSome_iff_exists.1 h5, h6⟩
 ·cases h
def text_PrintCode.T2 : Bool × List (List Nat × List Nat) := (true, [([], []), ([], []), ([], []), ([2], [2]), ([1, 3], [1, 3]), ([], []), ([], []), ([6], [6]), ([5, 7, 4], [5, 7]), ([], []), ([], []), ([10], [10]), ([9, 11, 8], [9, 11]), ([], []), ([], []), ([14], [14]), ([13, 15, 12], [13, 15]), ([4, 8, 12, 16], [4, 8, 12, 16]), ([0, 17, 16], [0, 17])])
def text_PrintCode.B2 : List Nat := [0, 0, 0, 4, 14, 0, 0, 64, 254, 0, 0, 1024, 4094, 0, 0, 16384, 65534, 131070, 262143]
theorem text_PrintCode.tab2 : rtab .any (opsOf Tryz.f12 2) = text_PrintCode.T2 := by kernel_rfl
theorem text_PrintCode.bits2 : waitsOk text_PrintCode.T2.2 text_PrintCode.B2 = true := by kernel_rfl
def printHeadC (a0 : ByteArray) (a1 a2 a3 : Int) : List UInt8 × Int := (lineBytes (⟨#[99, 111, 100, 101]⟩ : ByteArray) [.nm a0, .num a1, .num a2, .num a3], errsOf (if (ir_Name.f a0).getD false then 0 else keepE 0 80) [.nm a0, .num a1, .num a2, .num a3])
def printSC (a0 : ByteArray) (a1 a2 a3 : Int) (l : List (List SIns)) : List UInt8 × Int := blksText true (printHeadC a0 a1 a2 a3) l
def printOkBC (a0 : ByteArray) (a1 a2 a3 : Int) (l : List (List SIns)) : Bool := (ir_Name.f a0).isSome && partOkB (.num a1) && partOkB (.num a2) && partOkB (.num a3) && (l.all fun xs => xs.all (insOkB true)) && decide ((printSC a0 a1 a2 a3 l).1.length ≤ 1000000000)
def text_PrintCode.f (a0 : ByteArray) (a1 a2 a3 : Int) (l : List (List SIns)) : Option (ByteArray × Int) := if printOkBC a0 a1 a2 a3 l = true then some (if (printSC a0 a1 a2 a3 l).2 = 0 then ⟨(printSC a0 a1 a2 a3 l).1.toArray⟩ else ⟨#[]⟩, (printSC a0 a1 a2 a3 l).2) else none
set_option maxHeartbeats 8000000 in
set_option maxRecDepth 100000 in
theorem text_PrintCode.calls (a0 : ByteArray) (a1 a2 a3 : Int) (A : Option Addr) (c : Nat) (l : List (List SIns)) (r1 : ByteArray) (r2 : Int) (w : World) (hr : Kd.C (Kd.slice 44 kIns) w A l.length l) (hc : l.length ≤ c) (h : text_PrintCode.f a0 a1 a2 a3 l = some (r1, r2)) (hL : LaidW w) :
 Calls Tryz.prog 12 #[.agg #[.string a0, .int .i64 a1, .int .i64 a2, .int .i64 a3, .slice A l.length c]] w fun e w' => e = .returned (.tuple #[.string r1, .int .i64 r2]) ∧ Below w.heap.size w w' := by
 unfold text_PrintCode.f at h
 split at h
 case isFalse => cases h
 case isTrue hok =>
 injection h with h
 simp only [printOkBC, Bool.and_eq_true, decide_eq_true_eq] at hok
 obtain ⟨⟨⟨⟨⟨hnb, hn1⟩, hn2⟩, hn3⟩, hoi⟩, hlen⟩ := hok
 obtain ⟨nb, hnb⟩ := Option.isSome_iff_exists.1 hnb
 replace hn1 := partOkB_ok hn1
 replace hn2 := partOkB_ok hn2
 replace hn3 := partOkB_ok hn3
 replace hoi : ∀ xs ∈ l, ∀ x ∈ xs, InsOk true x := fun xs hx x hy => insOkB_ok (List.all_eq_true.1 (List.all_eq_true.1 hoi xs hx) x hy)
 have HR1 := zA (congrArg Prod.fst h)
 have HR2 := zA (congrArg Prod.snd h)
 have HNb := zA hnb
 have HN1 := zA hn1
 have HN2 := zA hn2
 have HN3 := zA hn3
 have HOi := zA hoi
 have HLen := zA hlen
 have HC := zA hr
 have HLd := zA hL
 have HB := zA (Below.refl w.heap.size w)
 clear h hnb hn1 hn2 hn3 hoi hlen hr hL
 have hu24 := Tryz.underlying35
 have hu50 := Tryz.underlying51
 go_enter Tryz.func12, Tryz.ntmps12
 go_wp2_with (first
  | ((with_reducible refine gate_dst (N := 1) rfl ?_); refine box_event (by rfl) (N := 1) (by rfl) (cs := #[.string a0, .int .i64 a1, .int .i64 a2, .int .i64 a3, .slice A l.length c]) (t := 35) ?hr ?_; (case hr => go_simp <;> rfl); intro gx hg w1 hbox hb; have BX := zA hbox; replace HB := zA (below_step HB.out hb); clear hb hbox hg)
  | ((with_reducible refine gate_dst (N := 6) rfl ?_); refine box_event (by rfl) (N := 6) (by rfl) (cs := #[.pointer none, .slice none 0 0, .int .i64 0]) (t := 51) ?hr ?_; (case hr => go_simp <;> rfl); intro gp hg w2 hbox hb; have HP := zA (show PrAt w.heap.size gp [] 0 w2 from ⟨by rw [hg]; exact HB.out.size, none, .slice none 0 0, hbox, .inl rfl, own_nil _ _ _ _⟩); replace HB := zA (below_step HB.out hb); replace BX := zA (blk_below BX.out hb); have HGx := zA (show gx ≠ gp by intro e; rw [e] at BX; have := BX.out.symm.trans hbox; simp at this); clear hb hbox hg))
 have HPd := zA (HP.out.below (below_drew (Below.refl _ _)))
 have HBd := zA (below_step HB.out (below_drew (Below.refl _ _)))
 have BXd := zA (blk_drew BX.out)
 have z4 := bk5 BXd.out
 clear HP HB BX
 refine start_ (n := 19) (S := fun w' => w'.cell? ⟨gx, 0, none⟩ = some (.string a0) ∧ w'.cell? ⟨gx, 1, none⟩ = some (.int .i64 a1) ∧ w'.cell? ⟨gx, 2, none⟩ = some (.int .i64 a2) ∧ w'.cell? ⟨gx, 3, none⟩ = some (.int .i64 a3)) (ds := []) (bA 19 0) (by kernel_rfl) rfl rfl ⟨(blk_cell BXd.out 0).trans rfl, (blk_cell BXd.out 1).trans rfl, (blk_cell BXd.out 2).trans rfl, (blk_cell BXd.out 3).trans rfl⟩ (fun hHeld => ?_); refine with_tabW text_PrintCode.tab2 text_PrintCode.bits2 (fun HT_ HW_ => ?_)
 generalize w2.drew = w3 at HPd HBd BXd hHeld ⊢
 clear z4
 refine pu_ (i := 0) (N := some 7) (bA 19 1) ?_
 refine pu_ (i := 1) (N := some 8) (bA 19 3) ?_
 refine pu_ (i := 2) (N := some 9) (bA 19 7) ?_
 refine pu_ (i := 5) (N := some 12) (bA 19 39) ?_
 refine pu_ (i := 6) (N := some 13) (bA 19 103) ?_
 refine pu_ (i := 9) (N := some 16) (bA 19 615) ?_
 refine pu_ (i := 10) (N := some 17) (bA 19 1639) ?_
 refine pu_ (i := 13) (N := some 20) (bA 19 9831) ?_
 refine pu_ (i := 14) (N := some 21) (bA 19 26215) ?_
 refine tk_ (i := 3) (N := some 10) (bA 19 26223) ?_
 refine tk_ (i := 7) (N := some 14) (bA 19 26351) ?_
 refine tk_ (i := 11) (N := some 18) (bA 19 28399) ?_
 refine tk_ (i := 15) (N := some 22) (bA 19 61167) ?_
 refine one_ (i := 4) (N := some 11) (bA 19 61183) rfl rfl (one_of HT_.out (by kernel_rfl)) (by decide) (fun K hK => ?_)
 refine goes_ Tryz.func17 (by kernel_rfl) rfl #[.pointer (some ⟨gp, 0, none⟩), .string a0] (by rfl) rfl rfl qL ?_
 refine (name_calls HPd.out HBd.out a0 nb HNb.out).mono ?_
 rintro e w5 ⟨v1, rfl, hpa, hp, hb, ht⟩
 refine ⟨_, rfl, ?_⟩
 have HA1 := zA hpa
 have HP5 := zA hp
 have HB5 := zA hb
 have BX5 := zA (box_kept ht BXd.out (by decide) HGx.out)
 clear hpa hp hb ht HPd HBd BXd hHeld
 refine hK.out _ _ ⟨(blk_cell BX5.out 0).trans rfl, (blk_cell BX5.out 1).trans rfl, (blk_cell BX5.out 2).trans rfl, (blk_cell BX5.out 3).trans rfl⟩ (fun hHeld => ?_)
 clear hK K
 refine norm_ (a' := ?_) ?_ ?_
 rotate_left
 ·show Act.put _ (some 11) _ = _
  simp only [Act.put, List.setIfInBounds_toArray, List.set_cons_zero, List.set_cons_succ, i64_w, i32_w]
  rfl
 refine one_ (i := 8) (N := some 15) (bA 19 61439) rfl rfl (one_of HT_.out (by kernel_rfl)) (by decide) (fun K hK => ?_)
 refine goes_ Tryz.func18 (by kernel_rfl) rfl #[.pointer (some ⟨gp, 0, none⟩), .int .i64 a1] (by rfl) rfl rfl qL ?_
 refine (number_calls a1).mono ?_
 rintro e w6 ⟨v2, rfl, hpa, hb⟩
 refine ⟨_, rfl, ?_⟩
 have HA2 := zA hpa
 have HA16 := zA (HA1.out.below hb)
 have HP6 := zA (HP5.out.below hb)
 have HB6 := zA (below_step HB5.out hb)
 have BX6 := zA (blk_below BX5.out hb)
 clear hpa hb HP5 HB5 BX5 HA1 hHeld
 refine hK.out _ _ ⟨(blk_cell BX6.out 0).trans rfl, (blk_cell BX6.out 1).trans rfl, (blk_cell BX6.out 2).trans rfl, (blk_cell BX6.out 3).trans rfl⟩ (fun hHeld => ?_)
 clear hK K
 refine norm_ (a' := ?_) ?_ ?_
 rotate_left
 ·show Act.put _ (some 15) _ = _
  simp only [Act.put, List.setIfInBounds_toArray, List.set_cons_zero, List.set_cons_succ, i64_w, i32_w]
  rfl
 refine one_ (i := 12) (N := some 19) (bA 19 65535) rfl rfl (one_of HT_.out (by kernel_rfl)) (by decide) (fun K hK => ?_)
 refine goes_ Tryz.func18 (by kernel_rfl) rfl #[.pointer (some ⟨gp, 0, none⟩), .int .i64 a2] (by rfl) rfl rfl qL ?_
 refine (number_calls a2).mono ?_
 rintro e w7 ⟨v3, rfl, hpa, hb⟩
 refine ⟨_, rfl, ?_⟩
 have HA3 := zA hpa
 have HA17 := zA (HA16.out.below hb)
 have HA27 := zA (HA2.out.below hb)
 have HP7 := zA (HP6.out.below hb)
 have HB7 := zA (below_step HB6.out hb)
 have BX7 := zA (blk_below BX6.out hb)
 clear hpa hb HP6 HB6 BX6 HA16 HA2 hHeld
 refine hK.out _ _ ⟨(blk_cell BX7.out 0).trans rfl, (blk_cell BX7.out 1).trans rfl, (blk_cell BX7.out 2).trans rfl, (blk_cell BX7.out 3).trans rfl⟩ (fun hHeld => ?_)
 clear hK K
 refine norm_ (a' := ?_) ?_ ?_
 rotate_left
 ·show Act.put _ (some 19) _ = _
  simp only [Act.put, List.setIfInBounds_toArray, List.set_cons_zero, List.set_cons_succ, i64_w, i32_w]
  rfl
 refine one_ (i := 16) (N := some 23) (bA 19 131071) rfl rfl (one_of HT_.out (by kernel_rfl)) (by decide) (fun K hK => ?_)
 refine goes_ Tryz.func18 (by kernel_rfl) rfl #[.pointer (some ⟨gp, 0, none⟩), .int .i64 a3] (by rfl) rfl rfl qL ?_
 refine (number_calls a3).mono ?_
 rintro e w7c ⟨v4, rfl, hpa, hb⟩
 refine ⟨_, rfl, ?_⟩
 have HA4 := zA hpa
 have HA1c := zA (HA17.out.below hb)
 have HA2c := zA (HA27.out.below hb)
 have HA3c := zA (HA3.out.below hb)
 have HP7c := zA (HP7.out.below hb)
 have HB7c := zA (below_step HB7.out hb)
 have BX7c := zA (blk_below BX7.out hb)
 clear hpa hb HP7 HB7 BX7 HA17 HA27 HA3 hHeld
 refine hK.out _ _ ⟨(blk_cell BX7c.out 0).trans rfl, (blk_cell BX7c.out 1).trans rfl, (blk_cell BX7c.out 2).trans rfl, (blk_cell BX7c.out 3).trans rfl⟩ (fun hHeld => ?_)
 clear hK K
 refine norm_ (a' := ?_) ?_ ?_
 rotate_left
 ·show Act.put _ (some 23) _ = _
  simp only [Act.put, List.setIfInBounds_toArray, List.set_cons_zero, List.set_cons_succ, i64_w, i32_w]
  rfl
 obtain ⟨b1, rfl, -⟩ := HA1c.out
 obtain ⟨b2, b3, rfl, -⟩ := HA2c.out
 obtain ⟨b4, b5, rfl, -⟩ := HA3c.out
 obtain ⟨b6, b7, rfl, -⟩ := HA4.out
 refine one_ (i := 17) (N := some 24) (bA 19 262143) rfl rfl (one_of HT_.out (by kernel_rfl)) (by decide) (fun K hK => ?_)
 refine Kd.R_lit_step kClo (w0 := w7c) w7c.heap.size 53 rfl (N := 24) rfl (xs := [Clo.nm b1, Clo.num b2 b3, Clo.num b4 b5, Clo.num b6 b7]) (inner := [encClo (Clo.nm b1), encClo (Clo.num b2 b3), encClo (Clo.num b4 b5), encClo (Clo.num b6 b7)]) (ok := fun _ => True) (okp := fun _ => True) ?hr ?hp (fun _ hk => hk) trivial (Below.refl _ _) (Nat.le_refl _) (by simp) ?_
 case hr => first | (go_simp; done) | (go_simp; rfl)
 case hp => exact ⟨rfl, fun j p hj => by
  rcases j with _ | _ | _ | _ | j
  ·cases hj; rfl
  ·cases hj; rfl
  ·cases hj; rfl
  ·cases hj; rfl
  ·simp at hj⟩
 intro v24 w8 ho hb hg hnew
 have HR8 := zA ho
 have HP8 := zA (HP7c.out.below hb)
 have HB8 := zA (below_step HB7c.out hb)
 have BX8 := zA (blk_below BX7c.out hb)
 have HCl := zA (show ClosAt gp w8 [Clo.nm b1, Clo.num b2 b3, Clo.num b4 b5, Clo.num b6 b7] [.nm a0, .num a1, .num a2, .num a3] from ⟨rfl, fun j c p h1 h2 => by
  rcases j with _ | _ | _ | _ | j
  ·injection h1 with e1; injection h2 with e2; rw [← e1, ← e2]; exact HA1c.out.below hb
  ·injection h1 with e1; injection h2 with e2; rw [← e1, ← e2]; exact HA2c.out.below hb
  ·injection h1 with e1; injection h2 with e2; rw [← e1, ← e2]; exact HA3c.out.below hb
  ·injection h1 with e1; injection h2 with e2; rw [← e1, ← e2]; exact HA4.out.below hb
  ·simp at h1⟩)
 obtain ⟨g, cg, eg, -, -, -⟩ := Kd.R_form ho (by simp)
 subst eg
 clear ho hb hg hnew HP7c HB7c BX7c HA1c HA2c HA3c HA4 hHeld
 refine hK.out _ _ ⟨(blk_cell BX8.out 0).trans rfl, (blk_cell BX8.out 1).trans rfl, (blk_cell BX8.out 2).trans rfl, (blk_cell BX8.out 3).trans rfl⟩ (fun hHeld => ?_)
 clear hK K
 refine norm_ (a' := ?_) ?_ ?_
 rotate_left
 ·show Act.put _ (some 24) _ = _
  simp only [Act.put, List.setIfInBounds_toArray, List.set_cons_zero, List.set_cons_succ, i64_w, i32_w]
  rfl
 refine one_ (i := 18) (N := some 25) (bA 19 524287) rfl rfl (one_of HT_.out (by kernel_rfl)) (by decide) (fun K hK => ?_)
 refine goes_ Tryz.func16 (by kernel_rfl) rfl #[.pointer (some ⟨gp, 0, none⟩), .string (⟨#[99, 111, 100, 101]⟩ : ByteArray), .slice (some ⟨g, 0, none⟩) [Clo.nm b1, Clo.num b2 b3, Clo.num b4 b5, Clo.num b6 b7].length cg] (by rfl) rfl rfl qL ?_
 refine (line_calls HP8.out HB8.out HLd.out (⟨#[99, 111, 100, 101]⟩ : ByteArray) [.nm a0, .num a1, .num a2, .num a3] (some ⟨g, 0, none⟩) cg (parts_of HR8.out HCl.out) ?ok (by simp) ?len (by simp)).mono ?_
 case ok => intro p hp; simp only [List.mem_cons, List.not_mem_nil, or_false] at hp; rcases hp with rfl | rfl | rfl | rfl <;> first | exact trivial | exact HN1.out | exact HN2.out | exact HN3.out
 case len => exact Nat.le_trans (fold_len (blkText_len true) l (printHeadC a0 a1 a2 a3)) HLen.out
 rintro e w9 ⟨rfl, hp, hb, ht⟩
 refine ⟨_, rfl, ?_⟩
 have HP9 := zA (show PrAt w.heap.size gp (printHeadC a0 a1 a2 a3).1 (printHeadC a0 a1 a2 a3).2 w9 from by (unfold printHeadC; rw [HNb.out]; exact hp))
 have HB9 := zA hb
 have BX9 := zA (box_kept ht BX8.out (by decide) HGx.out)
 clear hp hb ht HP8 HB8 BX8 HR8 HCl hHeld
 refine hK.out _ _ ⟨(blk_cell BX9.out 0).trans rfl, (blk_cell BX9.out 1).trans rfl, (blk_cell BX9.out 2).trans rfl, (blk_cell BX9.out 3).trans rfl⟩ (fun hHeld => ?_)
 clear hK K
 refine norm_ (a' := ?_) ?_ ?_
 rotate_left
 ·show Act.put _ (some 25) _ = _
  simp only [Act.put, List.setIfInBounds_toArray, List.set_cons_zero, List.set_cons_succ, i64_w, i32_w]
  rfl
 refine done_ (done_of HT_.out (by kernel_rfl)) ?_
 clear HT_ HW_ hHeld
 have z9 := bk5 BX9.out
 have hne : (printHeadC a0 a1 a2 a3).1 ≠ [] := by unfold printHeadC lineBytes; simp
 go_simp
 go_wp2_with (go_at_call 19; refine (blocks_calls HP9.out HB9.out HLd.out hne A c l HC.out true HOi.out HLen.out).mono ?_; rintro e w10 ⟨rfl, hb⟩; have HB10 := zA hb; clear hb)
 all_goals
  have hr1 := HR1.out
  have hr2 := HR2.out
  unfold printSC at hr1 hr2
  go_ret2
  refine ⟨?_, HB10.out⟩
  rw [← hr1, ← hr2]
  first
   | (have h' : (blksText true (printHeadC a0 a1 a2 a3) l).2 = 0 := ‹_›
      rw [zC h', h']
      rfl)
   | (have h' : ¬ (blksText true (printHeadC a0 a1 a2 a3) l).2 = 0 := ‹_›
      rw [zD h']
      rfl)
end Go.Proofs.YtniknpjeknmpjaaGreatDoor.Q
namespace Go.Proofs.YtniknpjeknmpjaaGreatDoor.Q
open Go.RowKit Go.Shelf Go.Proofs.YtniknpjeknmpjaaGreatDoorW.PrintWords Go.Proofs.YtniknpjeknmpjaaGreatDoorW.PrintLast Go.Proofs.YtniknpjeknmpjaaGreatDoorW.PrintMore
set_option linter.unusedVariables false
set_option linter.unusedSimpArgs false
attribute [local go_sem] Oper.semAt_some
def cutB (s : ByteArray) : ByteArray × ByteArray := if 0 ≤ Lib.indexByte s.data.toList 10 then (s.extract 0 ((Lib.indexByte s.data.toList 10).toNat + 1), s.extract ((Lib.indexByte s.data.toList 10).toNat + 1) s.size) else (s, ⟨#[]⟩)
theorem cutB_pos {s : ByteArray} {i : Nat} (h : Lib.indexByte s.data.toList 10 = (i : Int)) : cutB s = (s.extract 0 (i + 1), s.extract (i + 1) s.size) := by
 unfold cutB
 rw [h, zC (by omega), Int.toNat_natCast]
theorem cutB_neg {s : ByteArray} (h : ¬ 0 ≤ Lib.indexByte s.data.toList 10) : cutB s = (s, ⟨#[]⟩) := zD h
theorem indexByte_lt : ∀ {l : List UInt8} {b : UInt8} {i : Nat}, Lib.indexByte l b = (i : Int) → i < l.length
 | [], b, i, h => by simp only [Lib.indexByte] at h; omega
 | c :: l, b, i, h => by
  unfold Lib.indexByte at h
  split at h
  ·have : i = 0 := by omega
   subst this; simp
  ·have hge := Lib.indexByte_ge l b
   split at h
   ·omega
   ·next h2 =>
    have h3 : Lib.indexByte l b ≠ -1 := by simpa using h2
    obtain ⟨q, hq⟩ : ∃ q : Nat, Lib.indexByte l b = q := ⟨(Lib.indexByte l b).toNat, by omega⟩
    have := indexByte_lt hq
    simp; omega
theorem cutB_less {s : ByteArray} (h : s.size ≠ 0) : (cutB s).2.size < s.size := by
 by_cases h0 : 0 ≤ Lib.indexByte s.data.toList 10
 ·obtain ⟨i, hi⟩ : ∃ i : Nat, Lib.indexByte s.data.toList 10 = i := ⟨_, (Int.toNat_of_nonneg h0).symm⟩
  have hl : s.data.toList.length = s.size := by simp
  have := indexByte_lt hi
  rw [cutB_pos hi]
  simp only [ByteArray.size_extract]
  omega
 ·rw [cutB_neg h0]
  have : (⟨#[]⟩ : ByteArray).size = 0 := rfl
  show (⟨#[]⟩ : ByteArray).size < s.size
  omega
def leftAt (Bn : Nat) (w : World) : Nat := match w.cell? ⟨Bn, 0, none⟩ with
 | some (.string s) => s.size
 | _ => 0
theorem leftAt_eq {Bn : Nat} {w : World} {s : ByteArray} (h : w.cell? ⟨Bn, 0, none⟩ = some (.string s)) : leftAt Bn w = s.size := by unfold leftAt; rw [h]
set_option maxRecDepth 100000 in
set_option maxHeartbeats 4000000 in
theorem lines1_in (m l Bn : Nat) (J : ByteArray → World → Prop) (Jx : World → Prop) (hm : 1 ≤ m)
 (hJc : ∀ s W, J s W → W.cell? ⟨Bn, 0, none⟩ = some (.string s) ∧ W.frozen? ⟨Bn, 0, none⟩ = false ∧ s.size ≤ 1000000) (hJd : ∀ s W, J s W → J s W.drew)
 (hY : ∀ s W, J s W → s.size ≠ 0 → YieldAt Fence.wide (m - 1) Tryz.prog l #[.string (cutB s).1] (W.setCell ⟨Bn, 0, none⟩ (.string (cutB s).2)) fun e W' => (e = .returned (.bool true) ∧ J (cutB s).2 W') ∨ (e = .returned (.bool false) ∧ Jx W'))
 (s0 : ByteArray) (W : World) (h0 : J s0 W) :
 CallsIn Fence.wide m Tryz.prog 60 #[.func (.yield l) #[] #[], .pointer (some ⟨Bn, 0, none⟩)] W fun e W' => (∃ v, e = .returned v) ∧ ((∃ s : ByteArray, s.size = 0 ∧ J s W') ∨ Jx W') := by
 refine callsIn_of_wp Tryz.func60 rfl trivial ?_ rfl
 simp only [Tryz.ntmps60, List.size_toArray, List.length_cons, List.length_nil, Nat.reduceAdd, Nat.reduceSub, Array.replicate_succ, Array.replicate_zero, List.push_toArray, List.append_toArray, List.nil_append, List.cons_append]
 gi_wp2
 gi_loopw [3] (fun p wr => ∃ s, J s wr) (fun p wr => leftAt Bn wr)
 case atStart => exact ⟨s0, h0⟩
 case round =>
  obtain ⟨s, hJ⟩ := hrel
  obtain ⟨hc, hf, hsz⟩ := hJc s _ hJ
  by_cases hz : s.size = 0
  ·have d1 := zG (show ¬ (0 : Int) < (s.size : Int) by omega)
   have d2 := zG (show ¬ 0 < s.size by omega)
   gi_wp2
   go_end0
   exact ⟨⟨_, rfl⟩, .inl ⟨s, hz, hJ⟩⟩
  ·have d1 := zF (show (0 : Int) < (s.size : Int) by omega)
   have d2 := zF (show 0 < s.size by omega)
   by_cases hi : 0 ≤ Lib.indexByte s.data.toList 10
   ·obtain ⟨i, hidx⟩ : ∃ i : Nat, Lib.indexByte s.data.toList 10 = i := ⟨_, (Int.toNat_of_nonneg hi).symm⟩
    have hil := indexByte_lt hidx
    have hsl : s.data.toList.length = s.size := by simp
    have hy0 := hY s wr.drew (hJd _ _ hJ) hz
    have hcl := cutB_less hz
    rw [cutB_pos hidx] at hy0 hcl
    obtain ⟨fn, tmps, assign, body, hy, hR⟩ := hy0
    dsimp only at hy hR hcl
    replace hy : (Instr.yield l #[.string (s.extract 0 (i + 1))]).run Tryz.prog ((wr.setCell ⟨Bn, 0, none⟩ (.string (s.extract (i + 1) s.size))).drew) = .ok (.round l fn tmps assign body) ((wr.setCell ⟨Bn, 0, none⟩ (.string (s.extract (i + 1) s.size))).drew) := hy
    replace hR : RoundIn Fence.wide (m - 1) Tryz.prog l fn tmps assign body ((wr.setCell ⟨Bn, 0, none⟩ (.string (s.extract (i + 1) s.size))).drew) _ := hR
    have hleft := leftAt_eq hc
    have hi1 : i < s.size := by omega
    have hi2 : i + 1 ≤ s.size := by omega
    have hi3 := eq_true (show (i : Int) + 1 ≤ (s.size : Int) by omega)
    have hi4 := eq_true (show (0 : Int) ≤ (i : Int) + 1 by omega)
    have hw2 : IntKind.i64.wrap ((i : Int) + 1) = (i : Int) + 1 := by rw [i64_w]; unfold wrap64; omega
    have d3 := zF (show (0 : Int) ≤ (i : Int) by omega)
    have hix : Lib.indexByte s.data.toList ((10 : Int).toNat.toUInt8) = (i : Int) := hidx
    have mixed : Tryz.prog.follows .mixedOrders = true := by kernel_rfl
    clear hY hidx hi
    gi_wp2_with (refine ⟨trivial, ?_⟩; gi_at_call 61; refine (callsIn_wide.2 (Any.strings_IndexByte Tryz.lays137 s 10 _)).mono ?_; rintro e w' ⟨rfl, rfl⟩; rw [hix])
    gi_region_with_o fail
    all_goals
     gi_wp2
     refine hR.mono ?_
     rintro e W3 (⟨rfl, hJ3⟩ | ⟨rfl, hJx3⟩)
     ·gi_wp2
      go_roundw
      case rel => exact ⟨_, hJ3⟩
      case measure => rw [hleft, leftAt_eq (hJc _ _ hJ3).1]; exact hcl
     ·gi_wp2
      refine bodyPost_ret (results_none rfl _ _ _) rfl ?_
      exact ⟨⟨_, rfl⟩, .inr hJx3⟩
   ·have hy0 := hY s wr hJ hz
    have hcl := cutB_less hz
    rw [cutB_neg hi] at hy0 hcl
    obtain ⟨fn, tmps, assign, body, hy, hR⟩ := hy0
    dsimp only at hy hR hcl
    have hleft := leftAt_eq hc
    have d3 := zG hi
    obtain ⟨i, hix⟩ : ∃ i, i = Lib.indexByte s.data.toList 10 := ⟨_, rfl⟩
    rw [← hix] at d3 hi
    have hix : Lib.indexByte s.data.toList ((10 : Int).toNat.toUInt8) = i := hix.symm
    clear hY
    gi_wp2_with (refine ⟨trivial, ?_⟩; gi_at_call 61; refine (callsIn_wide.2 (Any.strings_IndexByte Tryz.lays137 s 10 _)).mono ?_; rintro e w' ⟨rfl, rfl⟩; rw [hix])
    refine hR.mono ?_
    rintro e W3 (⟨rfl, hJ3⟩ | ⟨rfl, hJx3⟩)
    ·gi_wp2
     go_roundw
     case rel => exact ⟨_, hJ3⟩
     case measure => rw [hleft, leftAt_eq (hJc _ _ hJ3).1]; exact hcl
    ·gi_wp2
     refine bodyPost_ret (results_none rfl _ _ _) rfl ?_
     exact ⟨⟨_, rfl⟩, .inr hJx3⟩
end Go.Proofs.YtniknpjeknmpjaaGreatDoor.Q
namespace Go.Proofs.YtniknpjeknmpjaaGreatDoor.Q
open Go.RowKit Go.Shelf Go.Proofs.YtniknpjeknmpjaaGreatDoorW.PrintWords Go.Proofs.YtniknpjeknmpjaaGreatDoorW.PrintLast Go.Proofs.YtniknpjeknmpjaaGreatDoorW.PrintMore
set_option linter.unusedVariables false
set_option linter.unusedSimpArgs false
def Same2 (k : Nat) (W W' : World) : Prop := W'.heap[k]? = W.heap[k]? ∧ W'.heap[k + 1]? = W.heap[k + 1]?
def roundEnd (k : Nat) (I : World → Prop) (Ix : Code → World → Prop) (W : World) : Exit → Act → World → Prop
 | .normal, _, W' => Same2 k W W' ∧ I W'
 | .ret, _, W' => Same2 k W W' ∧ Ix .ret W'
 | _, _, _ => False
def AbPut (k : Nat) (I : World → Prop) : Prop := ∀ W j o, k ≤ j → j ≤ k + 1 → I W → I (W.putObj j o)
set_option maxHeartbeats 2000000 in
theorem wpIn_lines {m B : Nat} {g : Operand} {ps : Array Tmp} {assign body : Code} {Q : Exit → Act → World → Prop} {a : Act} {w : World} (h2 : 2 ≤ m)
 (hg : a.eval g = .func (.func 60) #[] #[.pointer (some ⟨B, 0, none⟩)]) (hps : ps.size = 1)
 (I K : ByteArray → World → Prop) (Ix : Code → World → Prop)
 (hc : ∀ s W, I s W → W.cell? ⟨B, 0, none⟩ = some (.string s) ∧ W.frozen? ⟨B, 0, none⟩ = false ∧ s.size ≤ 1000000) (hB : B < w.heap.size) (hd : ∀ s W, I s W → I s W.drew)
 (hK : ∀ s W, I s W → s.size ≠ 0 → K s (W.setCell ⟨B, 0, none⟩ (.string (cutB s).2)))
 (hIp : ∀ s, AbPut w.heap.size (I s)) (hKp : ∀ s, AbPut w.heap.size (K s)) (hXp : ∀ c, AbPut w.heap.size (Ix c))
 (s0 : ByteArray) (h0 : ∀ o1 o2, I s0 ((w.alloc o1).alloc o2)) (a₁ : ByteArray → Act)
 (hassign : ∀ (l : Nat) (x : ByteArray) (W : World) (K : Act → World → Prop), K (a₁ x) W →
   assign.wpIn (Fence.wide.inRound l) (m - 1 - 1) Tryz.prog (Exit.then K (fun _ _ _ => False)) { tmps := (ps.zip #[Value.string x]).foldl (fun t (p, v) => t.setIfInBounds p v) a.tmps, defers := [] } W)
 (hbody : ∀ (l : Nat) (s : ByteArray) (W : World), K s W → body.wpIn (Fence.wide.inRound l) (m - 1 - 1) Tryz.prog (roundEnd w.heap.size (I (cutB s).2) Ix W) (a₁ (cutB s).1) W)
 (hdone : ∀ (s : ByteArray) (W : World), s.size = 0 → I s W → W.heap[w.heap.size]? = some (.deferred (some [])) → Q .normal { a with defers := { target := .collected w.heap.size, args := #[] } :: a.defers } W)
 (hstop : ∀ (c : Code) (W : World), Ix c W → W.heap[w.heap.size]? = some (.deferred (some [])) → c.wpIn Fence.wide m Tryz.prog Q { a with defers := { target := .collected w.heap.size, args := #[] } :: a.defers } W) :
 (Code.rangeFunc g ps assign body).wpIn Fence.wide m Tryz.prog Q a w := by
 refine wpIn_rangeFunc fun fn hfn => ?_
 obtain ⟨rec, hrec⟩ : ∃ rec : LoopState → Option Code → Loop, rec = fun st pe => { state := st, pending := pe, fn, tmps := a.tmps, params := ps, assign, body, defers := w.heap.size } := ⟨_, rfl⟩
 obtain ⟨W1, hW1⟩ : ∃ W1, W1 = (w.alloc (.deferred (some []))).alloc (.loop (rec .ready none)) := ⟨_, rfl⟩
 have hsz : (w.alloc (.deferred (some []))).heap.size = w.heap.size + 1 := by simp
 have hL1 : W1.heap[w.heap.size + 1]? = some (.loop (rec .ready none)) := by
  rw [hW1, ← hsz]; exact World.alloc_heap_new _ _
 have hK1 : W1.heap[w.heap.size]? = some (.deferred (some [])) := by
  rw [hW1]; exact (Below.heap_alloc _ _ _ (by rw [hsz]; omega)).trans (World.alloc_heap_new w _)
 have hI1 : I s0 W1 := by rw [hW1]; exact h0 _ _
 have hent : ∀ args w, (callFunc 60 args).run Tryz.prog w = .ok (.enter 60 args) w := enters_of Tryz.func60 (by kernel_rfl) rfl
 refine ⟨w.heap.size + 1, [{ target := .collected w.heap.size, args := #[] }], W1, { target := .fn (.func 60) #[.pointer (some ⟨B, 0, none⟩)], args := #[.func (.yield (w.heap.size + 1)) #[] #[]] }, W1, 60,
  #[.func (.yield (w.heap.size + 1)) #[] #[]] ++ #[.pointer (some ⟨B, 0, none⟩)], W1, ?_, ?_, fun _ _ => trivial, ?_, fun _ => by omega, ?_⟩
 ·rw [hW1, hrec]; exact run_enterLoop_outer _ _ _ _ _
 ·simp only [resolve, hg]
  simp [go_sem]
 ·simp [invoke, go_sem, hent]
 ·refine (lines1_in (m - 1) (w.heap.size + 1) B (fun s W => I s W ∧ W.heap[w.heap.size + 1]? = some (.loop (rec .ready none)) ∧ W.heap[w.heap.size]? = some (.deferred (some [])))
   (fun W => ∃ c, Ix c W ∧ W.heap[w.heap.size + 1]? = some (.loop (rec .done (some c))) ∧ W.heap[w.heap.size]? = some (.deferred (some []))) (by omega) (fun s W h => hc s W h.1) (fun s W h => ⟨hd s W h.1, h.2.1, h.2.2⟩) ?_ s0 W1 ⟨hI1, hL1, hK1⟩).mono ?_
  ·-- a round
   rintro s W ⟨hi, hl, hk⟩ hz
   have hk3 := hK s W hi hz
   have hn1 : w.heap.size + 1 ≠ B := by omega
   have hn2 : w.heap.size ≠ B := by omega
   have hl3 : (W.setCell ⟨B, 0, none⟩ (.string (cutB s).2)).heap[w.heap.size + 1]? = some (.loop (rec .ready none)) := (heap_setCell_other _ _ _ _ hn1).trans hl
   have hd3 : (W.setCell ⟨B, 0, none⟩ (.string (cutB s).2)).heap[w.heap.size]? = some (.deferred (some [])) := (heap_setCell_other _ _ _ _ hn2).trans hk
   generalize W.setCell ⟨B, 0, none⟩ (.string (cutB s).2) = W2 at hk3 hl3 hd3 ⊢
   have hlt : w.heap.size + 1 < W2.heap.size := (Array.getElem?_eq_some_iff.1 hl3).1
   have hy := run_yield (P := Tryz.prog) (args := #[.string (cutB s).1]) hl3 (by rw [hrec]; exact hps.symm)
   rw [hrec] at hy
   refine ⟨fn, _, assign, body, hy, roundIn_of_wpIn hfn (hassign _ _ W2 _ ⟨_, run_beginRound hl3 (by rw [hrec]), ?_⟩)⟩
   have hl2 : (W2.putObj (w.heap.size + 1) (.loop { rec .ready none with state := .busy })).heap[w.heap.size + 1]? = some (.loop { rec .ready none with state := .busy }) := World.putObj_heap_same hlt
   have hd2 : (W2.putObj (w.heap.size + 1) (.loop { rec .ready none with state := .busy })).heap[w.heap.size]? = some (.deferred (some [])) := (World.putObj_heap_other (by omega)).trans hd3
   have hkk := hKp s W2 (w.heap.size + 1) (.loop { rec .ready none with state := .busy }) (by omega) (by omega) hk3
   generalize W2.putObj (w.heap.size + 1) (.loop { rec .ready none with state := .busy }) = W4 at hl2 hd2 hkk ⊢
   refine wpIn_mono (hbody _ s W4 hkk) ?_
   have fin : ∀ (jump : Option Code) (W3 : World), Same2 w.heap.size W4 W3 →
    (Instr.endRound (w.heap.size + 1) jump).run Tryz.prog W3 = .ok (.bool jump.isNone) (W3.putObj (w.heap.size + 1) (.loop (rec (if jump.isNone then .ready else .done) jump))) ∧
    (W3.putObj (w.heap.size + 1) (.loop (rec (if jump.isNone then .ready else .done) jump))).heap[w.heap.size + 1]? = some (.loop (rec (if jump.isNone then .ready else .done) jump)) ∧
    (W3.putObj (w.heap.size + 1) (.loop (rec (if jump.isNone then .ready else .done) jump))).heap[w.heap.size]? = some (.deferred (some [])) := fun jump W3 hs => by
    have hl3 := hs.2.trans hl2
    have hd3 := hs.1.trans hd2
    have := run_endRound (P := Tryz.prog) jump hl3
    rw [hrec] at this ⊢
    exact ⟨this, World.putObj_heap_same (Array.getElem?_eq_some_iff.1 hl3).1, (World.putObj_heap_other (by omega)).trans hd3⟩
   rintro e a3 W3 hp
   cases e with
   | normal =>
    obtain ⟨hs, hi3⟩ := hp
    obtain ⟨hr, hl4, hk4⟩ := fin none W3 hs
    exact ⟨_, _, hr, .inl ⟨rfl, hIp _ _ _ _ (by omega) (by omega) hi3, hl4, hk4⟩⟩
   | ret =>
    obtain ⟨hs, hi3⟩ := hp
    obtain ⟨hr, hl4, hk4⟩ := fin (some .ret) W3 hs
    exact ⟨_, _, hr, .inr ⟨rfl, .ret, hXp _ _ _ _ (by omega) (by omega) hi3, hl4, hk4⟩⟩
   | exit id => exact hp.elim
   | goto t => exact hp.elim
   | panic ch => exact hp.elim
   | outgrown => exact hp.elim
  ·-- behind the iterator
   rintro e W2 ⟨⟨v, rfl⟩, (⟨s, hz, hi, hl, hk⟩ | ⟨c, hi, hl, hk⟩)⟩
   ·exact ⟨none, _, by have := run_endLoop (P := Tryz.prog) hl (by rw [hrec]; simp); rw [hrec] at this; exact this, hdone s _ hz (hIp _ _ _ _ (by omega) (by omega) hi) ((World.putObj_heap_other (by omega)).trans hk)⟩
   ·exact ⟨some c, _, by have := run_endLoop (P := Tryz.prog) hl (by rw [hrec]; simp); rw [hrec] at this; exact this, hstop c _ (hXp _ _ _ _ (by omega) (by omega) hi) ((World.putObj_heap_other (by omega)).trans hk)⟩
def blank1 : ByteArray := ⟨#[32]⟩
def wordsOf (s : ByteArray) : List ByteArray := Lib.splitB blank1 0 (Lib.countB s blank1) s
theorem wordsOf_len (s : ByteArray) : (wordsOf s).length = Lib.countB s blank1 + 1 := Lib.splitB_all blank1 (by decide) 0 _ s rfl
theorem split_calls (s : ByteArray) (w : World) (hs : s.size < 4294967281) :
 Calls Tryz.prog 48 #[.string s, .string blank1] w fun e w' => e = .returned (.slice (some ⟨w.heap.size, 0, none⟩) (wordsOf s).length (wordsOf s).length) ∧ w' = w.alloc (.cells ((wordsOf s).map Value.string).toArray 9) := by
 have hle := Lib.countB_le blank1 (by decide) s.size s (Nat.le_refl _)
 have hlen := Lib.splitB_all blank1 (by decide) 0 _ s rfl
 have c := Any.strings_genSplit_core { Tryz.lays146 with } Tryz.lays146.i9 s blank1 0 (-1) (Lib.countB s blank1 + 1) w hs (by decide) (Nat.zero_le _)
  (fun x c hx => (Any.strings_Index_one { Tryz.lays146 with } x 32 _).mono fun e w' ⟨he, hw⟩ => ⟨by rw [he]; show _ = Ending.returned (Value.int .i64 (Lib.index x.data.toList [32])); rw [Lib.index_one], hw⟩)
  ((Any.strings_Count_one { Tryz.lays146 with } s 32 w).mono fun e w' ⟨he, hw⟩ => ⟨by rw [he]; show _ = Ending.returned (Value.int .i64 ((Lib.count s.data.toList [32] : Nat) : Int)); rw [Lib.count_one]; rfl, hw⟩) (by decide) (by decide) (by rw [zC (by decide)]; omega)
 rw [Nat.add_sub_cancel, hlen] at c
 have e2 : Lib.cellsOf (Lib.splitB blank1 0 (Lib.countB s blank1) s) (Lib.countB s blank1 + 1) = ((wordsOf s).map Value.string).toArray := by rw [← hlen]; exact Lib.cellsOf_full _
 rw [e2] at c
 have c' : Calls Tryz.prog 63 #[.string s, .string blank1, .int .i64 0, .int .i64 (-1)] w fun e w' => e = .returned (.slice (some ⟨w.heap.size, 0, none⟩) (Lib.countB s blank1 + 1) (Lib.countB s blank1 + 1)) ∧ w' = w.alloc (.cells ((wordsOf s).map Value.string).toArray 9) := c
 clear c e2
 rw [wordsOf_len]
 go_enter Tryz.func48, Tryz.ntmps48
 go_wp2_with (go_at_call 63; refine c'.mono ?_; rintro e w' ⟨rfl, hw⟩; rw [hw])
 go_ret
 exact ⟨rfl, rfl⟩
theorem split_at (s : ByteArray) (w : World) (hs : s.size < 4294967281) : Calls Tryz.prog 48 #[.string s, .string blank1] w fun e w' => ∃ g, e = .returned (.slice (some ⟨g, 0, none⟩) (wordsOf s).length (wordsOf s).length) ∧ w'.heap[g]? = some (.cells ((wordsOf s).map Value.string).toArray 9 (0, 0)) ∧ Below w.heap.size w w' ∧ w.heap.size ≤ g := by
 refine (split_calls s w hs).mono ?_
 rintro e w' ⟨rfl, rfl⟩
 exact ⟨_, rfl, blk_new w _, below_alloc (Below.refl _ _) _, Nat.le_refl _⟩
def numOf (t : ByteArray) : Option Int :=
 match Lib.atoiAll t.data.toList with
 | .ok v => if 0 ≤ v ∧ v < 2147483648 ∧ (⟨(Lib.itoa v).toArray⟩ : ByteArray) = t then some v else none
 | _ => none
theorem numOf_ok {t : ByteArray} {v : Int} (h : Lib.atoiAll t.data.toList = .ok v) : numOf t = if 0 ≤ v ∧ v < 2147483648 ∧ (⟨(Lib.itoa v).toArray⟩ : ByteArray) = t then some v else none := by unfold numOf; rw [h]
theorem atoi_ok {t : ByteArray} {v : Int} (h : Lib.atoiAll t.data.toList = .ok v) (w : World) (hs : t.size ≤ 281474976710656) :
 Calls Tryz.prog 84 #[.string t] w fun e w' => e = .returned (.tuple #[.int .i64 v, .nilIface]) ∧ Below w.heap.size w w' := by
 refine (Any.strconv_Atoi_ok Tryz.lays172 t (by omega) v h w).mono ?_
 rintro e w' ⟨rfl, hw⟩
 refine ⟨rfl, ?_⟩
 rcases hw with rfl | ⟨t, rfl⟩
 ·exact Below.refl _ _
 ·exact Lib.bytesWorld_below _ _ _
theorem atoi_bad {t : ByteArray} (h : ∀ v, Lib.atoiAll t.data.toList ≠ .ok v) (w : World) (hL : LaidW w) (hs : t.size ≤ 281474976710656) :
 numOf t = none ∧ Calls Tryz.prog 84 #[.string t] w fun e w' => ∃ (v : Int) (q : Value), e = .returned (.tuple #[.int .i64 v, .iface 150 q]) ∧ Below w.heap.size w w' := by
 obtain ⟨-, ⟨t1, p1, h2⟩, t2, p2, h3⟩ := hL
 rcases h' : Lib.atoiAll t.data.toList with v | _ | _
 ·exact absurd h' (h v)
 ·refine ⟨by unfold numOf; rw [h'], (Any.strconv_Atoi_syntax_var Tryz.lays172 t hs h' t1 p1 w h2).mono ?_⟩
  rintro e w' ⟨N, rfl, _, _, hb⟩
  exact ⟨_, _, rfl, hb⟩
 ·refine ⟨by unfold numOf; rw [h'], (Any.strconv_Atoi_range_var Tryz.lays172 t hs h' t2 p2 w h3).mono ?_⟩
  rintro e w' ⟨N, rfl, _, _, hb⟩
  exact ⟨_, _, rfl, hb⟩
theorem splitB_small (sep : ByteArray) : ∀ (k : Nat) (s : ByteArray), ∀ t ∈ Lib.splitB sep 0 k s, t.size ≤ s.size
 | 0, s, t, h => by rw [List.mem_singleton.1 h]; exact Nat.le_refl _
 | k + 1, s, t, h => by
  unfold Lib.splitB at h
  split at h
  ·rw [List.mem_singleton.1 h]; exact Nat.le_refl _
  ·rcases List.mem_cons.1 h with h | h
   ·rw [h]; simp only [ByteArray.size_extract]; omega
   ·have := splitB_small sep k _ t h
    simp only [ByteArray.size_extract] at this
    omega
theorem wordsOf_small (s : ByteArray) : ∀ t ∈ wordsOf s, t.size ≤ s.size := splitB_small _ _ _
end Go.Proofs.YtniknpjeknmpjaaGreatDoor.Q
namespace Go.Proofs.YtniknpjeknmpjaaGreatDoor.Q
open Go.RowKit Go.Shelf Go.Proofs.YtniknpjeknmpjaaGreatDoor.Plain Go.Proofs.YtniknpjeknmpjaaGreatDoorW.PrintWords Go.Proofs.YtniknpjeknmpjaaGreatDoorW.PrintLast Go.Proofs.YtniknpjeknmpjaaGreatDoorW.PrintMore
set_option linter.unusedVariables false
set_option linter.unusedSimpArgs false
set_option maxHeartbeats 2000000 in
set_option maxRecDepth 100000 in
theorem textnumber_calls (s : ByteArray) (w : World) (hL : LaidW w) (hs : s.size ≤ 281474976710656) :
 Calls Tryz.prog 64 #[.string s] w fun e w' => ∃ n, e = .returned (.tuple #[.int .i64 n, .bool (numOf s).isSome]) ∧ (∀ v, numOf s = some v → n = v) ∧ Below w.heap.size w w' := by
 have HB := zA (Below.refl w.heap.size w)
 have HLd := zA hL
 clear hL
 by_cases hat : ∃ v, Lib.atoiAll s.data.toList = .ok v
 case neg =>
  have hbad := atoi_bad (fun v h => hat ⟨v, h⟩) w HLd.out hs
  have HNo := zA hbad.1
  have HCl := zA hbad.2
  clear hbad hat
  go_enter Tryz.func64, Tryz.ntmps64
  go_wp2_with (go_at_call 84; refine HCl.out.mono ?_; rintro e w2 ⟨v, q, rfl, hb⟩; replace HB := zA (below_step HB.out hb); clear hb)
  go_ret2
  exact ⟨_, by rw [HNo.out]; rfl, (fun v h => by rw [HNo.out] at h; cases h), HB.out⟩
 obtain ⟨v, hv⟩ := hat
 have hno := numOf_ok hv
 have hvb := Lib.atoiAll_bounds hv
 have HV := zA hv
 clear hv
 have FAIL : Aside0 (¬ (0 ≤ v ∧ v < 2147483648 ∧ (⟨(Lib.itoa v).toArray⟩ : ByteArray) = s) → numOf s = none) := ⟨fun h => by rw [hno, zD h]⟩
 have GOOD : Aside0 ((0 ≤ v ∧ v < 2147483648 ∧ (⟨(Lib.itoa v).toArray⟩ : ByteArray) = s) → numOf s = some v) := ⟨fun h => by rw [hno, zC h]⟩
 clear hno
 by_cases f1 : v < 0
 ·have f1b := zG (show ¬ 0 ≤ v by omega)
  have HNo := zA (FAIL.out (fun h => by omega))
  clear FAIL GOOD
  go_enter Tryz.func64, Tryz.ntmps64
  go_wp2_with (go_at_call 84; refine (atoi_ok HV.out w hs).mono ?_; rintro e w2 ⟨rfl, hb⟩; replace HB := zA (below_step HB.out hb); clear hb)
  go_ret2
  exact ⟨_, by rw [HNo.out]; rfl, (fun v h => by rw [HNo.out] at h; cases h), HB.out⟩
 have f1b := zF (show 0 ≤ v by omega)
 by_cases f2 : 2147483648 ≤ v
 ·have f2b := zG (show ¬ v < 2147483648 by omega)
  have HNo := zA (FAIL.out (fun h => by omega))
  clear FAIL GOOD
  go_enter Tryz.func64, Tryz.ntmps64
  go_wp2_with (go_at_call 84; refine (atoi_ok HV.out w hs).mono ?_; rintro e w2 ⟨rfl, hb⟩; replace HB := zA (below_step HB.out hb); clear hb)
  go_ret2
  exact ⟨_, by rw [HNo.out]; rfl, (fun v h => by rw [HNo.out] at h; cases h), HB.out⟩
 have f2b := zF (show v < 2147483648 by omega)
 obtain ⟨u, hu⟩ : ∃ u, u = (⟨(Lib.itoa v).toArray⟩ : ByteArray) := ⟨_, rfl⟩
 have HF := zA (show strconv_Itoa_34.f v = some u by unfold strconv_Itoa_34.f; rw [zC (by omega), hu])
 rw [← hu] at FAIL GOOD
 clear hu
 by_cases f3 : u.toList = s.toList
 case neg =>
  obtain ⟨f3a, f3b⟩ := qn f3
  have HNo := zA (FAIL.out (fun h => f3 (by rw [h.2.2])))
  clear FAIL GOOD
  go_enter Tryz.func64, Tryz.ntmps64
  go_wp2_with (first
   | (go_at_call 84; refine (atoi_ok HV.out w hs).mono ?_; rintro e w2 ⟨rfl, hb⟩; replace HB := zA (below_step HB.out hb); replace HLd := zA (HLd.out.below hb); clear hb)
   | (go_at_call 34; refine (strconv_Itoa_34.calls v u _ HLd.out HF.out).mono ?_; rintro e w3 ⟨rfl, hb⟩; replace HB := zA (below_step HB.out hb); clear hb))
  go_ret2
  exact ⟨_, by rw [HNo.out]; rfl, (fun v h => by rw [HNo.out] at h; cases h), HB.out⟩
 obtain ⟨f3a, f3b⟩ := qe f3
 have HG1 := zA (GOOD.out ⟨by omega, by omega, toList_inj.1 f3⟩)
 clear FAIL GOOD
 go_enter Tryz.func64, Tryz.ntmps64
 go_wp2_with (first
  | (go_at_call 84; refine (atoi_ok HV.out w hs).mono ?_; rintro e w2 ⟨rfl, hb⟩; replace HB := zA (below_step HB.out hb); replace HLd := zA (HLd.out.below hb); clear hb)
  | (go_at_call 34; refine (strconv_Itoa_34.calls v u _ HLd.out HF.out).mono ?_; rintro e w3 ⟨rfl, hb⟩; replace HB := zA (below_step HB.out hb); clear hb))
 go_ret2
 exact ⟨_, by rw [HG1.out]; rfl, (fun v' h => by rw [HG1.out] at h; cases h; rfl), HB.out⟩
def isBy (wd : ByteArray) (code : Bool) (op : Int) : Option (Int × ByteArray × ByteArray) := match text_of.f op code with
 | some (o, w1, fs, true) => if w1.toList = wd.toList then some (o, w1, fs) else none
 | _ => none
def byFrom (wd : ByteArray) (code : Bool) : Nat → Int → Option (Int × ByteArray × ByteArray)
 | 0, _ => none
 | k + 1, i => match isBy wd code i with
  | some r => some r
  | none => byFrom wd code k (i + 1)
def byOf (wd : ByteArray) (code : Bool) : Option (Int × ByteArray × ByteArray) := byFrom wd code 23 0
def byVal : Option (Int × ByteArray × ByteArray) → Value
 | some (o, w1, fs) => .tuple #[.agg #[.int .i64 o, .string w1, .string fs], .bool true]
 | none => .tuple #[.agg #[.int .i64 0, .string ⟨#[]⟩, .string ⟨#[]⟩], .bool false]
theorem isBy_false {wd w1 fs : ByteArray} {code : Bool} {i o : Int} (h : text_of.f i code = some (o, w1, fs, false)) : isBy wd code i = none := by unfold isBy; rw [h]
theorem isBy_true {wd w1 fs : ByteArray} {code : Bool} {i o : Int} (h : text_of.f i code = some (o, w1, fs, true)) : isBy wd code i = if w1.toList = wd.toList then some (o, w1, fs) else none := by unfold isBy; rw [h]
theorem ite_some {α : Type} {c : Prop} [Decidable c] {a b : Option α} (ha : ∃ r, a = some r) (hb : ∃ r, b = some r) : ∃ r, (if c then a else b) = some r := by split <;> assumption
theorem text_of_total (op : Int) (code : Bool) : ∃ r, text_of.f op code = some r := by
 unfold text_of.f
 repeat' first | refine ite_some ?_ ?_ | exact ⟨_, rfl⟩
set_option maxHeartbeats 4000000 in
set_option maxRecDepth 100000 in
theorem by_calls (wd : ByteArray) (code : Bool) (w : World) :
 Calls Tryz.prog 65 #[.string wd, .bool code] w fun e w' => e = .returned (byVal (byOf wd code)) ∧ Below w.heap.size w w' := by
 have HB := zA (Below.refl w.heap.size w)
 have hu94 := Tryz.underlying102
 go_enter Tryz.func65, Tryz.ntmps65
 go_wp2_with ((with_reducible refine gate_dst (N := 4) rfl ?_); refine box_event (by rfl) (N := 4) (by rfl) (cs := #[.int .i64 0, .string (⟨#[]⟩ : ByteArray), .string (⟨#[]⟩ : ByteArray)]) (t := 102) ?hr ?_; (case hr => go_simp <;> rfl); intro gr hg w1 hbox hb; have BR := zA hbox; have HGr := zA (show w.heap.size ≤ gr by rw [hg]; exact HB.out.size); replace HB := zA (below_step HB.out hb); clear hb hbox hg)
 go_loopg [9] 23 (fun kq v9 w' => ∃ (i : Nat), v9 = .int .i64 (i : Int) ∧ Aside0 (kq + i = 23) ∧ Aside0 (byFrom wd code kq (i : Int) = byOf wd code) ∧ Aside0 (w'.heap[gr]? = some (.cells #[.int .i64 0, .string (⟨#[]⟩ : ByteArray), .string (⟨#[]⟩ : ByteArray)] 102 (0, 0))) ∧ Aside0 (Below w.heap.size w w'))
 case atStart => exact ⟨0, by first | rfl | simp, ⟨rfl⟩, ⟨rfl⟩, BR, HB⟩
 case round =>
  clear BR HB
  obtain ⟨i, rfl, HK, HF, BR, HB⟩ := hrel
  cases gk with
  | zero =>
   have hi : i = 23 := by have := HK.out; omega
   subst hi
   have HN := zA (show byOf wd code = none from HF.out.symm)
   have z1 := bk3 BR.out
   go_wp2_with fail
   refine bodyPost_ret (results_ct rfl _ _ gr 102 #[.int .i64 0, .string (⟨#[]⟩ : ByteArray), .string (⟨#[]⟩ : ByteArray)] (0, 0) _ rfl (blk_put (blk_put (blk_put BR.out 0 _ rfl) 1 _ rfl) 2 _ rfl) Tryz.underlying102 rfl (by kernel_rfl)) rfl ?_
   exact ⟨by rw [HN.out]; rfl, ((HB.out.setCell (p := ⟨gr, 0, none⟩) HGr.out _).setCell (p := ⟨gr, 1, none⟩) HGr.out _).setCell (p := ⟨gr, 2, none⟩) HGr.out _⟩
  | succ k1 =>
   have hi : i < 23 := by have := HK.out; omega
   have d1b := zF (show ((i : Int) < 23) by omega)
   have d1c := zF hi
   obtain ⟨⟨o, w1', fs, is⟩, hof⟩ := text_of_total (i : Int) code
   have HOf := zA hof
   have HFs : Aside0 (byOf wd code = (match isBy wd code (i : Int) with | some r => some r | none => byFrom wd code k1 ((i : Int) + 1))) := ⟨HF.out.symm⟩
   clear hof HF
   cases is with
   | false =>
    have HIs := zA (isBy_false (wd := wd) HOf.out)
    go_wp2_with (first
     | (go_at_call 59; refine (text_of.calls (i : Int) code o w1' fs false _ HOf.out).mono ?_; rintro e w2 ⟨rfl, hb⟩; replace BR := zA (blk_below BR.out hb); replace HB := zA (below_step HB.out hb); clear hb)
     | ((with_reducible refine gate_dst (N := 7) rfl ?_); refine box_event (by rfl) (N := 7) (by rfl) (cs := #[.int .i64 0, .string (⟨#[]⟩ : ByteArray), .string (⟨#[]⟩ : ByteArray)]) (t := 102) ?hr ?_; (case hr => go_simp <;> rfl); intro gf hg w3 hbox hb; have BF := zA hbox; have HGf := zA (show w.heap.size ≤ gf by rw [hg]; exact HB.out.size); have HNe := zA (show gr ≠ gf by rw [hg]; exact Nat.ne_of_lt (blk_lt BR.out)); replace BR := zA (blk_below BR.out hb); replace HB := zA (below_step HB.out hb); clear hb hbox hg; have z3 := bk3 BF.out))
    go_roundg k1
    case measure => have := HK.out; omega
    case rel => exact ⟨i + 1, by go_num, ⟨by have := HK.out; omega⟩, ⟨by rw [HFs.out, HIs.out]; first | rfl | simp⟩, ⟨blk_far (blk_far (blk_far BR.out (p := ⟨gf, 0, none⟩) HNe.out _) (p := ⟨gf, 1, none⟩) HNe.out _) (p := ⟨gf, 2, none⟩) HNe.out _⟩, ⟨((HB.out.setCell (p := ⟨gf, 0, none⟩) HGf.out _).setCell (p := ⟨gf, 1, none⟩) HGf.out _).setCell (p := ⟨gf, 2, none⟩) HGf.out _⟩⟩
   | true =>
    have HIs := zA (isBy_true (wd := wd) HOf.out)
    by_cases c1 : w1'.toList = wd.toList
    ·obtain ⟨c1a, c1b⟩ := qe c1
     have HY := zA (show byOf wd code = some (o, w1', fs) from by rw [HFs.out, HIs.out]; simp only [zC c1])
     clear c1 HFs HIs
     go_wp2_with (first
      | (go_at_call 59; refine (text_of.calls (i : Int) code o w1' fs true _ HOf.out).mono ?_; rintro e w2 ⟨rfl, hb⟩; replace BR := zA (blk_below BR.out hb); replace HB := zA (below_step HB.out hb); clear hb)
      | ((with_reducible refine gate_dst (N := 7) rfl ?_); refine box_event (by rfl) (N := 7) (by rfl) (cs := #[.int .i64 0, .string (⟨#[]⟩ : ByteArray), .string (⟨#[]⟩ : ByteArray)]) (t := 102) ?hr ?_; (case hr => go_simp <;> rfl); intro gf hg w3 hbox hb; have BF := zA hbox; have HGf := zA (show w.heap.size ≤ gf by rw [hg]; exact HB.out.size); have HNe := zA (show gr ≠ gf by rw [hg]; exact Nat.ne_of_lt (blk_lt BR.out)); replace BR := zA (blk_below BR.out hb); replace HB := zA (below_step HB.out hb); clear hb hbox hg; have z3 := bk3 BF.out; have z4 := bk3 BR.out; have hne := HNe.out; have hne2 := Ne.symm HNe.out))
     refine bodyPost_ret (results_ct rfl _ _ gr 102 #[.int .i64 o, .string w1', .string fs] (0, 0) _ rfl (blk_put (blk_put (blk_put (blk_far (blk_far (blk_far BR.out (p := ⟨gf, 0, none⟩) HNe.out _) (p := ⟨gf, 1, none⟩) HNe.out _) (p := ⟨gf, 2, none⟩) HNe.out _) 0 _ rfl) 1 _ rfl) 2 _ rfl) Tryz.underlying102 rfl (by kernel_rfl)) rfl ?_
     exact ⟨by rw [HY.out]; rfl, ((((((HB.out.setCell (p := ⟨gf, 0, none⟩) HGf.out _).setCell (p := ⟨gf, 1, none⟩) HGf.out _).setCell (p := ⟨gf, 2, none⟩) HGf.out _).setCell (p := ⟨gr, 0, none⟩) HGr.out _).setCell (p := ⟨gr, 1, none⟩) HGr.out _).setCell (p := ⟨gr, 2, none⟩) HGr.out _)⟩
    ·obtain ⟨c1a, c1b⟩ := qn c1
     go_wp2_with (first
      | (go_at_call 59; refine (text_of.calls (i : Int) code o w1' fs true _ HOf.out).mono ?_; rintro e w2 ⟨rfl, hb⟩; replace BR := zA (blk_below BR.out hb); replace HB := zA (below_step HB.out hb); clear hb)
      | ((with_reducible refine gate_dst (N := 7) rfl ?_); refine box_event (by rfl) (N := 7) (by rfl) (cs := #[.int .i64 0, .string (⟨#[]⟩ : ByteArray), .string (⟨#[]⟩ : ByteArray)]) (t := 102) ?hr ?_; (case hr => go_simp <;> rfl); intro gf hg w3 hbox hb; have BF := zA hbox; have HGf := zA (show w.heap.size ≤ gf by rw [hg]; exact HB.out.size); have HNe := zA (show gr ≠ gf by rw [hg]; exact Nat.ne_of_lt (blk_lt BR.out)); replace BR := zA (blk_below BR.out hb); replace HB := zA (below_step HB.out hb); clear hb hbox hg; have z3 := bk3 BF.out))
     go_roundg k1
     case measure => have := HK.out; omega
     case rel => exact ⟨i + 1, by go_num, ⟨by have := HK.out; omega⟩, ⟨by rw [HFs.out, HIs.out]; simp only [zD c1]; rfl⟩, ⟨blk_far (blk_far (blk_far BR.out (p := ⟨gf, 0, none⟩) HNe.out _) (p := ⟨gf, 1, none⟩) HNe.out _) (p := ⟨gf, 2, none⟩) HNe.out _⟩, ⟨((HB.out.setCell (p := ⟨gf, 0, none⟩) HGf.out _).setCell (p := ⟨gf, 1, none⟩) HGf.out _).setCell (p := ⟨gf, 2, none⟩) HGf.out _⟩⟩
end Go.Proofs.YtniknpjeknmpjaaGreatDoor.Q
namespace Go.Proofs.YtniknpjeknmpjaaGreatDoor.PlainName
open Go Go.RowKit Go.Proofs.YtniknpjeknmpjaaGreatDoorW.PrintWords Go.Proofs.YtniknpjeknmpjaaGreatDoorW.PrintMore Go.Proofs.YtniknpjeknmpjaaGreatDoor.Q Go.Proofs.YtniknpjeknmpjaaGreatDoor.Plain
set_option linter.unusedVariables false
set_option linter.unusedSimpArgs false
def lowD (x : UInt8) : Bool := decide ((97 ≤ x.toNat ∧ x.toNat ≤ 122) ∨ (48 ≤ x.toNat ∧ x.toNat ≤ 57))
def nameOk (s : ByteArray) : Bool := decide (1 ≤ s.size ∧ s.size ≤ 12 ∧ 97 ≤ bt s 0) && s.data.toList.all lowD
theorem cut_has (x : UInt8) : nameCut.data.toList.contains x = lowD x := by
 have h : ∀ n, n < 256 → nameCut.data.toList.contains (UInt8.ofNat n) = lowD (UInt8.ofNat n) := by decide +kernel
 have := h x.toNat x.toNat_lt
 rwa [UInt8.ofNat_toNat] at this
theorem dw_nil {p : UInt8 → Bool} : ∀ {l : List UInt8}, l.dropWhile p = [] ↔ ∀ x, x ∈ l → p x = true
 | [] => by simp
 | a :: t => by
  rw [List.dropWhile_cons]
  by_cases h : p a = true
  ·rw [zC h, dw_nil (l := t)]
   constructor
   ·intro g x hx
    rcases List.mem_cons.1 hx with rfl | hx
    ·exact h
    ·exact g x hx
   ·exact fun g x hx => g x (List.mem_cons_of_mem _ hx)
  ·rw [zD h]
   constructor
   ·intro g
    exact absurd g (by simp)
   ·intro g
    exact absurd (g a List.mem_cons_self) h
theorem trim_nil (l cs : List UInt8) : Lib.trimS l cs = [] ↔ l.all (cs.contains ·) = true := by
 unfold Lib.trimS Lib.trimLeftS Lib.trimRightS
 constructor
 ·intro h
  rw [dw_nil] at h
  rw [List.all_eq_true]
  intro x hx
  have h2 : x ∈ l.reverse := List.mem_reverse.2 hx
  rw [← List.takeWhile_append_dropWhile (p := fun x => cs.contains x) (l := l.reverse)] at h2
  rcases List.mem_append.1 h2 with h3 | h3
  ·exact (List.all_eq_true.1 (List.all_takeWhile (p := fun x => cs.contains x) (l := l.reverse))) x h3
  ·exact h x (List.mem_reverse.2 h3)
 ·intro h
  have h1 : l.reverse.dropWhile (cs.contains ·) = [] := by
   rw [dw_nil]
   intro x hx
   exact List.all_eq_true.1 h x (List.mem_reverse.1 hx)
  rw [h1]
  rfl
theorem size_list (s : ByteArray) : s.data.toList.length = s.size := by simp
theorem bt_get {s : ByteArray} {j : Nat} (h : j < s.data.toList.length) : bt s (j : Int) = ((s.data.toList[j]).toNat : Int) := by
 have hs := size_list s
 unfold bt
 rw [dif_pos (by omega)]
 rfl
theorem name_eq (s : ByteArray) : ir_Name.f s = some (nameOk s) := by
 have hs := size_list s
 unfold ir_Name.f
 rw [toList_data]
 by_cases h0 : s.data.toList = []
 ·have : s.size = 0 := by
   rw [h0] at hs
   exact hs.symm
  rw [zC h0]
  unfold nameOk
  rw [zG (by omega)]
  rfl
 ·have h1 : 0 < s.size := by
   rw [← hs]
   exact List.length_pos_iff.2 h0
  rw [zD h0]
  by_cases h2 : (s.size : Int) > 12
  ·rw [zC h2]
   unfold nameOk
   rw [zG (by omega)]
   rfl
  ·rw [zD h2, zC (by omega)]
   by_cases h3 : bt s 0 < 97
   ·rw [zC h3]
    unfold nameOk
    rw [zG (by omega)]
    rfl
   ·rw [zD h3]
    unfold strings_Trim.f
    rw [zC ⟨by omega, rfl⟩]
    simp only [zJ]
    rw [toList_data]
    unfold nameOk
    rw [zF (by omega), Bool.true_and, List.toList_toArray]
    congr 1
    have hc : s.data.toList.all (nameCut.data.toList.contains ·) = s.data.toList.all lowD := by
     congr 1
     funext x
     exact cut_has x
    have ht := trim_nil s.data.toList nameCut.data.toList
    rw [hc] at ht
    by_cases ha : s.data.toList.all lowD = true
    ·rw [ha]
     exact beq_iff_eq.2 (ht.2 ha)
    ·rw [Bool.not_eq_true _ |>.mp ha]
     exact beq_eq_false_iff_ne.2 fun e => ha (ht.1 e)
def restOk (s : ByteArray) (j : Nat) : Bool := (s.data.toList.drop j).all lowD && decide (j = 0 → 97 ≤ bt s 0)
theorem refname_loop (s : ByteArray) (hl : s.size ≤ 12) : ∀ (d j : Nat), s.size - j = d → j ≤ s.size → (j = 0 → 0 < s.size) → Ev (fun k => cubbyref07_Name.l0 k s (j : Int)) (restOk s j) := by
 have hs := size_list s
 intro d
 induction d with
 | zero =>
  intro j hd hj h0
  have : restOk s j = true := by
   unfold restOk
   rw [List.drop_eq_nil_of_le (by omega)]
   simp
   omega
  rw [this]
  exact Ev.step (f := fun _ => some true) (fun k => by simp only [cubbyref07_Name.l0]; rw [zD (by omega)]) (Ev.now _)
 | succ d ih =>
  intro j hd hj h0
  have hlt : j < s.data.toList.length := by omega
  have hb := bt_get hlt
  have hR : restOk s j = (lowD (s.data.toList[j]) && decide (j = 0 → 97 ≤ bt s 0) && restOk s (j + 1)) := by
   unfold restOk
   rw [drop_cons hlt]
   simp
   cases lowD s.data.toList[j] <;> cases (List.drop (j + 1) s.data.toList).all lowD <;> simp
  have hlow : lowD (s.data.toList[j]) = decide ((97 ≤ bt s (j : Int) ∧ bt s (j : Int) ≤ 122) ∨ (48 ≤ bt s (j : Int) ∧ bt s (j : Int) ≤ 57)) := by
   unfold lowD
   rw [hb]
   apply decide_eq_decide.2
   omega
  have hj0 : j = 0 → bt s (j : Int) = bt s 0 := by
   rintro rfl
   rfl
  rw [hR, hlow]
  have hstep : ∀ k, cubbyref07_Name.l0 (k + 1) s (j : Int) = (if (97 ≤ bt s (j : Int) ∧ bt s (j : Int) ≤ 122) ∨ ((48 ≤ bt s (j : Int) ∧ bt s (j : Int) ≤ 57) ∧ j ≠ 0) then cubbyref07_Name.l0 k s ((j + 1 : Nat) : Int) else some false) := by
   intro k
   simp only [cubbyref07_Name.l0]
   rw [zC (by omega : (j : Int) < (s.size : Int)), zC (by omega : (0 : Int) ≤ (j : Int)), wrap_nat (by omega)]
   repeat' split
   all_goals first
    | rfl
    | omega
  by_cases c : (97 ≤ bt s (j : Int) ∧ bt s (j : Int) ≤ 122) ∨ ((48 ≤ bt s (j : Int) ∧ bt s (j : Int) ≤ 57) ∧ j ≠ 0)
  ·refine Ev.step (fun k => (hstep k).trans (zC c)) ?_
   rw [zF (by omega), zF (by intro h; have := hj0 h; omega), Bool.true_and, Bool.true_and]
   exact ih (j + 1) (by omega) (by omega) (by omega)
  ·refine Ev.step (f := fun _ => some false) (fun k => (hstep k).trans (zD c)) ?_
   have : (decide ((97 ≤ bt s (j : Int) ∧ bt s (j : Int) ≤ 122) ∨ (48 ≤ bt s (j : Int) ∧ bt s (j : Int) ≤ 57)) && decide (j = 0 → 97 ≤ bt s 0)) = false := by
    by_cases c1 : (97 ≤ bt s (j : Int) ∧ bt s (j : Int) ≤ 122) ∨ (48 ≤ bt s (j : Int) ∧ bt s (j : Int) ≤ 57)
    ·rw [zG (p := (j = 0 → 97 ≤ bt s 0)) (fun h => by
      have h9 : j = 0 := by omega
      have := hj0 h9
      have := h h9
      omega), Bool.and_false]
    ·rw [zG c1, Bool.false_and]
   rw [this, Bool.false_and]
   exact Ev.now _
theorem refname_ev (s : ByteArray) : Ev (fun k => cubbyref07_Name.f k s) (nameOk s) := by
 have hyes : (s.size < 1 ∨ 12 < s.size) → Ev (fun k => cubbyref07_Name.j0 k s true) (nameOk s) := fun h => by
  have : nameOk s = false := by
   unfold nameOk
   rw [zG (by omega)]
   rfl
  rw [this]
  exact Ev.step (f := fun _ => some false) (fun k => by simp only [cubbyref07_Name.j0, if_true]) (Ev.now _)
 by_cases h1 : (s.size : Int) < 1
 ·exact Ev.congr (fun k => by unfold cubbyref07_Name.f; rw [zC h1]) (hyes (by omega))
 refine Ev.congr (f := fun k => cubbyref07_Name.j0 k s (decide ((s.size : Int) > 12))) (fun k => by unfold cubbyref07_Name.f; rw [zD h1]) ?_
 by_cases h2 : (s.size : Int) > 12
 ·rw [zF h2]
  exact hyes (by omega)
 ·rw [zG h2]
  refine Ev.step (f := fun k => cubbyref07_Name.l0 k s ((0 : Nat) : Int)) (fun k => by simp only [cubbyref07_Name.j0]; rw [zD (by simp)]; rfl) ?_
  have := refname_loop s (by omega) s.size 0 (by omega) (by omega) (by omega)
  have hR : restOk s 0 = nameOk s := by
   unfold restOk nameOk
   rw [List.drop_zero, Bool.and_comm]
   congr 1
   apply decide_eq_decide.2
   constructor
   ·intro h
    exact ⟨by omega, by omega, h rfl⟩
   ·intro h _
    exact h.2.2
  rw [← hR]
  exact this
end Go.Proofs.YtniknpjeknmpjaaGreatDoor.PlainName
namespace Go.Proofs.YtniknpjeknmpjaaGreatDoor.Q
open Go.RowKit Go.Shelf Go.Proofs.YtniknpjeknmpjaaGreatDoor.Plain Go.Proofs.YtniknpjeknmpjaaGreatDoor.PlainName Go.Proofs.YtniknpjeknmpjaaGreatDoorW.PrintWords Go.Proofs.YtniknpjeknmpjaaGreatDoorW.PrintLast Go.Proofs.YtniknpjeknmpjaaGreatDoorW.PrintMore
set_option linter.unusedVariables false
set_option linter.unusedSimpArgs false
theorem iter_cells2 {w : World} {k0 : Nat} {s : ByteArray} {p q : Nat} (hi : w.heap[k0]? = some (.stringIter s p)) {k t : Nat} {cs : Array Value} {fr : Nat × Nat} (hk : w.heap[k]? = some (.cells cs t fr)) : (w.iterAt k0 s q).heap[k]? = some (.cells cs t fr) := by
 refine (Lib.iterAt_other w k0 k s q (fun e => ?_)).trans hk
 subst e
 have := hi.symm.trans hk
 simp at this
def setF (c : UInt8) (n : Int) (x : SIns) : SIns := if c = 68 then { x with f1 := n } else if c = 65 then { x with f2 := n } else if c = 66 then { x with f3 := n } else x
def fillR (ws : List ByteArray) : List UInt8 → Nat → SIns → Int × SIns
 | [], _, x => (0, x)
 | c :: r, at_, x =>
  if c = 78 then (match ws[at_]? with | some t => if nameOk t = true then fillR ws r (at_ + 1) { x with f4 := t } else (80, x) | none => (80, x))
  else if c = 76 then (match (ws.drop at_).mapM numOf with | some l => fillR ws r at_ { x with f5 := x.f5 ++ l } | none => (81, x))
  else (match ws[at_]? with | some t => (match numOf t with | some n => fillR ws r (at_ + 1) (setF c n x) | none => (81, x)) | none => (81, x))
def wants : List UInt8 → Nat
 | [] => 0
 | c :: r => (if c = 76 then 0 else 1) + wants r
def WordsAt (gw o : Nat) (ws : List ByteArray) (w : World) : Prop := ∃ cs : Array Value, w.heap[gw]? = some (.cells cs 9 (0, 0)) ∧ ∀ (i : Nat) t, ws[i]? = some t → cs[o + i]? = some (.string t)
theorem WordsAt.cell {gw o : Nat} {ws : List ByteArray} {w : World} (h : WordsAt gw o ws w) {i : Nat} {t : ByteArray} (ht : ws[i]? = some t) : w.cell? ⟨gw, o + i, none⟩ = some (.string t) := by
 obtain ⟨cs, hk, hc⟩ := h
 exact (blk_cell hk (o + i)).trans (hc i t ht)
theorem WordsAt.low {gw o D : Nat} {ws : List ByteArray} {w w' : World} (h : WordsAt gw o ws w) (hg : gw < D) (hb : Below D w w') : WordsAt gw o ws w' := by
 obtain ⟨cs, hk, hc⟩ := h
 exact ⟨cs, (hb.block gw hg).trans hk, hc⟩
theorem WordsAt.tail {gw o : Nat} {a : ByteArray} {ws : List ByteArray} {w : World} (h : WordsAt gw o (a :: ws) w) : WordsAt gw (o + 1) ws w := by
 obtain ⟨cs, hk, hc⟩ := h
 exact ⟨cs, hk, fun i t ht => by have := hc (i + 1) t (by simpa using ht); rwa [show o + (i + 1) = o + 1 + i by omega] at this⟩
structure FillAt (D gx : Nat) (x : SIns) (w : World) : Prop where
 ge : D ≤ gx
 at_ : ∃ v5, w.heap[gx]? = some (.cells #[.int .i64 x.f0, .int .i64 x.f1, .int .i64 x.f2, .int .i64 x.f3, .string x.f4, v5] 44 (0, 0)) ∧ Kd.R (Kd.int .i64) 3 w D (fun _ => True) v5 x.f5
section
variable {D gx gf k0 gw : Nat} {cf : Array Value} {fs : ByteArray} {ws : List ByteArray} {w0 w w1 w2 : World} {i : Nat} {x : SIns}
theorem FillAt.below (h : FillAt D gx x w) (hb : Below w.heap.size w w1) : FillAt D gx x w1 := by
 obtain ⟨ge, v5, hk, hr⟩ := h
 exact ⟨ge, v5, blk_below hk hb, Kd.R_below hr hb⟩
structure FillSt (gx gf k0 : Nat) (cf : Array Value) (fs : ByteArray) (w0 w : World) (i : Nat) (x : SIns) (w' : World) : Prop where
 hD : w0.heap.size ≤ w.heap.size
 hx : gx < w.heap.size
 hf : w.heap.size ≤ gf
 hi : w.heap.size ≤ k0
 fx : FillAt w0.heap.size gx x w'
 it : w'.heap[k0]? = some (.stringIter fs i)
 bf : w'.heap[gf]? = some (.cells cf 102 (0, 0))
 bl : Below w0.heap.size w0 w'
theorem FillSt.next (s : FillSt gx gf k0 cf fs w0 w i x w1) (j : Nat) : FillSt gx gf k0 cf fs w0 w j x (w1.iterAt k0 fs j) where
 hD := s.hD
 hx := s.hx
 hf := s.hf
 hi := s.hi
 fx := by
  obtain ⟨ge, v5, hk, hr⟩ := s.fx
  refine ⟨ge, v5, iter_cells2 s.it hk, Kd.R_mono (Kd.R_step (Kd.R_bound hr) (fun k hk _ => ?_)) (fun k hk => hk.1)⟩
  obtain ⟨_, _, _, q, hq, cells, hk2⟩ := hk
  exact (iter_cells2 s.it hk2).trans hk2.symm
 it := Lib.iterAt_heap w1 k0 fs i j s.it
 bf := iter_cells2 s.it s.bf
 bl := Lib.below_iterAt s.bl (Nat.le_trans s.hD s.hi) fs j
theorem FillSt.later (s : FillSt gx gf k0 cf fs w0 w i x w1) (hb : Below w1.heap.size w1 w2) : FillSt gx gf k0 cf fs w0 w i x w2 where
 hD := s.hD
 hx := s.hx
 hf := s.hf
 hi := s.hi
 fx := s.fx.below hb
 it := (hb.block k0 (Array.getElem?_eq_some_iff.1 s.it).1).trans s.it
 bf := blk_below s.bf hb
 bl := below_step s.bl hb
theorem FillSt.gx_ne (s : FillSt gx gf k0 cf fs w0 w i x w1) : gf ≠ gx ∧ k0 ≠ gx := ⟨by have := s.hx; have := s.hf; omega, by have := s.hx; have := s.hi; omega⟩
theorem other_iter {k0 g j p : Nat} {u : Value} {s : ByteArray} (h : w.heap[k0]? = some (.stringIter s p)) (hn : k0 ≠ g) : (w.setCell ⟨g, j, none⟩ u).heap[k0]? = some (.stringIter s p) := (heap_setCell_other _ _ _ _ hn).trans h
theorem FillSt.set {y : SIns} (s : FillSt gx gf k0 cf fs w0 w i x w1) (j : Nat) (u : Value) (h5 : y.f5 = x.f5) (hc : ∀ v5 : Value, (#[Value.int .i64 x.f0, .int .i64 x.f1, .int .i64 x.f2, .int .i64 x.f3, .string x.f4, v5] : Array Value).setIfInBounds j u = #[.int .i64 y.f0, .int .i64 y.f1, .int .i64 y.f2, .int .i64 y.f3, .string y.f4, v5]) :
 FillSt gx gf k0 cf fs w0 w i y (w1.setCell ⟨gx, j, none⟩ u) where
 hD := s.hD
 hx := s.hx
 hf := s.hf
 hi := s.hi
 fx := by
  obtain ⟨ge, v5, hk, hr⟩ := s.fx
  refine ⟨ge, v5, ?_, ?_⟩
  ·rw [← hc v5]; exact blk_put hk j u rfl
  ·rw [h5]; exact Kd.R_set hr hk (by decide) j u
 it := other_iter s.it s.gx_ne.2
 bf := blk_far s.bf (p := ⟨gx, j, none⟩) s.gx_ne.1 _
 bl := s.bl.setCell (p := ⟨gx, j, none⟩) s.fx.ge u
theorem FillSt.app {v5 v1 : Value} {n : Int} (s : FillSt gx gf k0 cf fs w0 w i x w1) (hk : w1.heap[gx]? = some (.cells #[.int .i64 x.f0, .int .i64 x.f1, .int .i64 x.f2, .int .i64 x.f3, .string x.f4, v5] 44 (0, 0))) (hr : Kd.R (Kd.int .i64) 3 w1 w0.heap.size (fun _ => True) v5 x.f5)
 (ho : Kd.R (Kd.int .i64) 3 w2 w0.heap.size (fun _ => True) v1 (x.f5 ++ [n])) (hb : Below w0.heap.size w1 w2) (hg : w1.grownBy w2 v5.ownBlock) : FillSt gx gf k0 cf fs w0 w i { x with f5 := x.f5 ++ [n] } (w2.setCell ⟨gx, 5, none⟩ v1) := by
 have keep : ∀ (k : Nat) (o : Obj), w1.heap[k]? = some o → (∀ cs, o ≠ .cells cs 3 (0, 0)) → w2.heap[k]? = some o := fun k o hk2 hn => (hg.block k (Array.getElem?_eq_some_iff.1 hk2).1 (fun e => by
  obtain ⟨cs, h2⟩ := Kd.R_typed hr k e.symm
  exact hn cs (zI (hk2.symm.trans h2)))).trans hk2
 have hk2 := keep gx _ hk (fun cs e => by injection e with _ e2 _; exact absurd e2 (by decide))
 exact ⟨s.hD, s.hx, s.hf, s.hi, ⟨s.fx.ge, v1, blk_put hk2 5 v1 rfl, Kd.R_set ho hk2 (by decide) 5 v1⟩, other_iter (keep k0 _ s.it (fun cs e => by cases e)) s.gx_ne.2, blk_far (keep gf _ s.bf (fun cs e => by injection e with _ e2 _; exact absurd e2 (by decide))) (p := ⟨gx, 5, none⟩) s.gx_ne.1 _, (s.bl.trans hb).setCell (p := ⟨gx, 5, none⟩) s.fx.ge v1⟩
end
theorem fillR_name {ws : List ByteArray} {r : List UInt8} {at_ : Nat} {x : SIns} {t : ByteArray} (h : ws[at_]? = some t) : fillR ws (78 :: r) at_ x = if nameOk t = true then fillR ws r (at_ + 1) { x with f4 := t } else (80, x) := by
 rw [fillR, zC rfl, h]
theorem fillR_num {ws : List ByteArray} {c : UInt8} {r : List UInt8} {at_ : Nat} {x : SIns} {t : ByteArray} (h1 : c ≠ 78) (h2 : c ≠ 76) (h : ws[at_]? = some t) : fillR ws (c :: r) at_ x = match numOf t with | some n => fillR ws r (at_ + 1) (setF c n x) | none => (81, x) := by
 rw [fillR, zD h1, zD h2, h]
theorem mapM_at {ws : List ByteArray} {j : Nat} {t : ByteArray} (h : ws[j]? = some t) : (ws.drop j).mapM numOf = (numOf t).bind fun v => ((ws.drop (j + 1)).mapM numOf).map (v :: ·) := by
 obtain ⟨h1, h2⟩ := List.getElem?_eq_some_iff.1 h
 rw [List.drop_eq_getElem_cons h1, h2, List.mapM_cons]
 cases numOf t with
 | none => rfl
 | some v => cases (ws.drop (j + 1)).mapM numOf <;> rfl
theorem fillR_rest {ws : List ByteArray} {r : List UInt8} {at_ : Nat} {x : SIns} : fillR ws (76 :: r) at_ x = match (ws.drop at_).mapM numOf with | some l => fillR ws r at_ { x with f5 := x.f5 ++ l } | none => (81, x) := by
 rw [fillR, zD (by decide), zC rfl]
set_option maxHeartbeats 8000000 in
set_option maxRecDepth 100000 in
theorem fill_calls {w0 w : World} (hL : LaidW w0) (hB : Below w0.heap.size w0 w) (gx gw : Nat) (x : SIns) (hx : FillAt w0.heap.size gx x w) (hlt : gx < w.heap.size) (op : Int) (wd fs : ByteArray) (ws : List ByteArray) (c : Nat) (hw : WordsAt gw 1 ws w0)
 (hfs : ∀ b ∈ fs.data.toList, b = 68 ∨ b = 65 ∨ b = 66 ∨ b = 78 ∨ b = 76) (hn : wants fs.data.toList ≤ ws.length) (hwl : ws.length ≤ 100000) (hws : ∀ t ∈ ws, t.size ≤ 100000) (hf : fs.size ≤ 10) (h5 : x.f5.length + 10 * ws.length ≤ 10000000) (hc : ws.length ≤ c) :
 Calls Tryz.prog 67 #[.pointer (some ⟨gx, 0, none⟩), .agg #[.int .i64 op, .string wd, .string fs], .slice (some ⟨gw, 1, none⟩) ws.length c] w fun e w' => e = .returned (.int .i64 (fillR ws fs.data.toList 0 x).1) ∧ ((fillR ws fs.data.toList 0 x).1 = 0 → FillAt w0.heap.size gx (fillR ws fs.data.toList 0 x).2 w') ∧ Below w0.heap.size w0 w' := by
 obtain ⟨R, hR⟩ : ∃ R, R = fillR ws fs.data.toList 0 x := ⟨_, rfl⟩
 rw [← hR]
 have hB0 := zA hB
 have HLd := zA hL
 have HX := zA hx
 have HB := zA hB
 have HW := zA hw
 have HF := zA hfs
 have HR := zA hR
 have HN := zA hn
 have HWs := zA hws
 have HLt := zA hlt
 have HBw := zA (Below.refl w.heap.size w)
 clear hL hx hB hw hfs hR hn hws hlt
 have hu94 := Tryz.underlying102
 go_enter Tryz.func67, Tryz.ntmps67
 go_wp2_with ((with_reducible refine gate_dst (N := 4) rfl ?_); refine box_event (by rfl) (N := 4) (by rfl) (cs := #[.int .i64 op, .string wd, .string fs]) (t := 102) ?hr ?_; (case hr => go_simp <;> rfl); intro gf hg w1 hbox hb; have BF := zA hbox; have HGf := zA (show w.heap.size ≤ gf by rw [hg]; exact Nat.le_refl _); replace HX := zA (HX.out.below hb); replace HB := zA (below_step HB.out hb); replace HBw := zA (below_step HBw.out hb); clear hb hbox hg; have z3 := bk3 BF.out)
 have hWI : Below w.heap.size w (World.iter w1 fs 0) := below_alloc HBw.out _
 have hWJ : Below w0.heap.size w0 (World.iter w1 fs 0) := below_alloc HB.out _
 have hIT : (World.iter w1 fs 0).heap[w1.heap.size]? = some (.stringIter fs 0) := World.iter_heap w1 fs 0
 have hBF : (World.iter w1 fs 0).heap[gf]? = some (.cells #[.int .i64 op, .string wd, .string fs] 102 (0, 0)) := blk_alloc BF.out _
 have hFX : FillAt w0.heap.size gx x (World.iter w1 fs 0) := HX.out.below (below_alloc (Below.refl _ _) _)
 generalize World.iter w1 fs 0 = wI at hWI hWJ hIT hBF hFX ⊢
 have HS := zA (show FillSt gx gf w1.heap.size #[.int .i64 op, .string wd, .string fs] fs w0 w 0 x wI from ⟨hB0.out.size, HLt.out, HGf.out, HBw.out.size, hFX, hIT, hBF, hWJ⟩)
 clear hWI hWJ hIT hBF hFX HX HB z3 BF
 go_loopg [7] fs.size (fun kq v7 w' => ∃ (i at_ : Nat) (y : SIns), v7 = .int .i64 (at_ : Int) ∧ Aside0 (kq + i = fs.size) ∧ Aside0 (FillSt gx gf w1.heap.size #[.int .i64 op, .string wd, .string fs] fs w0 w i y w') ∧ Aside0 (R = fillR ws (fs.data.toList.drop i) at_ y) ∧ Aside0 (at_ + wants (fs.data.toList.drop i) ≤ ws.length) ∧ Aside0 (y.f5.length + kq * ws.length ≤ 10000000))
 case atStart => exact ⟨0, 0, x, by first | rfl | simp, ⟨by omega⟩, HS, ⟨by rw [List.drop_zero]; exact HR.out⟩, ⟨by rw [List.drop_zero]; have := HN.out; omega⟩, ⟨by have h9 : fs.size * ws.length ≤ 10 * ws.length := Nat.mul_le_mul_right _ hf; omega⟩⟩
 case round =>
  clear HS HR HN
  obtain ⟨i, at_, y, rfl, HK, HS, HR, HN, H5⟩ := hrel
  cases gk with
  | zero =>
   have hif : i = fs.size := by have := HK.out; omega
   have hnx : ∀ ty, (Instr.next (.pointer (some ⟨w1.heap.size, 0, none⟩)) true ty).run Tryz.prog wr = .ok (.tuple #[.bool false]) wr := fun ty => Lib.run_next_end_at wr _ fs i ty HS.out.it (by omega)
   have hd : fs.data.toList.drop i = [] := List.drop_eq_nil_of_le (by have : fs.data.toList.length = fs.size := (by simp); omega)
   rw [hd] at HR
   have HR2 := zA (show R = (0, y) from HR.out)
   go_wp2_with fail
   go_ret
   exact ⟨by rw [HR2.out]; rfl, fun _ => by rw [HR2.out]; exact HS.out.fx, HS.out.bl⟩
  | succ k1 =>
   have hi : i < fs.size := by have := HK.out; omega
   obtain ⟨c, hc⟩ : ∃ c, c = fs[i]'hi := ⟨_, rfl⟩
   have hgl : fs.data.toList[i]? = some c := by rw [hc]; simp [ByteArray.getElem_eq_getElem_data]
   have hdr : fs.data.toList.drop i = c :: fs.data.toList.drop (i + 1) := by
    obtain ⟨h1, h2⟩ := List.getElem?_eq_some_iff.1 hgl
    rw [List.drop_eq_getElem_cons h1, h2]
   have hm : c ∈ fs.data.toList := List.mem_of_getElem? hgl
   obtain ⟨wi, hwi⟩ : ∃ wi, wi = wr.iterAt w1.heap.size fs (i + 1) := ⟨_, rfl⟩
   have HS1 := zA (HS.out.next (i + 1))
   rw [← hwi] at HS1
   have hgen : ∀ n : Nat, c.toNat = n → n < 128 → ∀ ty, (Instr.next (.pointer (some ⟨w1.heap.size, 0, none⟩)) true ty).run Tryz.prog wr = .ok (.tuple #[.bool true, .int .i64 i, .int .i32 (n : Int)]) wi := fun n hn h8 ty => by
    rw [Lib.run_next_ascii_at wr _ fs i ty HS.out.it hi (by rw [← hc, hn]; exact h8), ← hc, hn, hwi]
   rw [hdr] at HR HN
   have hcc := HF.out c hm
   clear hc hgl hm hwi hdr
   rcases hcc with rfl | rfl | rfl | rfl | rfl
   ·have hnx := hgen 68 rfl (by decide)
    clear hgen
    have hat : at_ < ws.length := by have h9 : wants (68 :: fs.data.toList.drop (i + 1)) = 1 + wants (fs.data.toList.drop (i + 1)) := rfl; have := HN.out; omega
    have hatI : (at_ : Int) < (ws.length : Int) := by omega
    obtain ⟨t, ht⟩ : ∃ t, ws[at_]? = some t := ⟨_, List.getElem?_eq_getElem hat⟩
    have hts := HWs.out t (List.mem_of_getElem? ht)
    have hx1 := WordsAt.cell (WordsAt.low HW.out (by obtain ⟨_, hk, _⟩ := HW.out; exact blk_lt hk) HS1.out.bl) ht
    have HR1 : Aside0 (R = match numOf t with | some n => fillR ws (fs.data.toList.drop (i + 1)) (at_ + 1) (setF 68 n y) | none => (81, y)) := ⟨HR.out.trans (fillR_num (by decide) (by decide) ht)⟩
    have HLr := zA (HLd.out.below HS1.out.bl)
    clear ht
    cases hnm : numOf t with
    | none =>
     rw [hnm] at HR1
     have HNm := zA hnm
     clear hnm
     go_wp2_with (go_at_call 64; refine (textnumber_calls t wi HLr.out (by omega)).mono ?_; rintro e w5 ⟨n, rfl, _, hb⟩; rw [HNm.out]; have HS5 := zA (HS1.out.later hb); clear hb hx1)
     go_ret
     exact ⟨by rw [HR1.out]; rfl, fun h => by rw [HR1.out] at h; exact absurd (show (81 : Int) = 0 from h) (by decide), HS5.out.bl⟩
    | some v =>
     rw [hnm] at HR1
     have HNm := zA hnm
     clear hnm
     go_wp2_with (go_at_call 64; refine (textnumber_calls t wi HLr.out (by omega)).mono ?_; rintro e w5 ⟨n, rfl, hv, hb⟩; obtain rfl := hv v HNm.out; rw [HNm.out]; have HS5 := zA (HS1.out.later hb); obtain ⟨_, v5, hk5, _⟩ := HS5.out.fx; have z5 := bk6 hk5; clear hb hx1 hk5 hv)
     go_roundg k1
     case measure => have := HK.out; omega
     case rel => exact ⟨i + 1, at_ + 1, setF 68 n y, by go_num, ⟨by have := HK.out; omega⟩, ⟨HS5.out.set 1 (.int .i64 n) rfl (fun v5 => rfl)⟩, ⟨HR1.out⟩, ⟨by have h9 : wants (68 :: fs.data.toList.drop (i + 1)) = 1 + wants (fs.data.toList.drop (i + 1)) := rfl; have := HN.out; omega⟩, ⟨by have h9 : (k1 + 1) * ws.length = k1 * ws.length + ws.length := Nat.succ_mul _ _; have := H5.out; show y.f5.length + _ ≤ _; omega⟩⟩
   ·have hnx := hgen 65 rfl (by decide)
    clear hgen
    have hat : at_ < ws.length := by have h9 : wants (65 :: fs.data.toList.drop (i + 1)) = 1 + wants (fs.data.toList.drop (i + 1)) := rfl; have := HN.out; omega
    have hatI : (at_ : Int) < (ws.length : Int) := by omega
    obtain ⟨t, ht⟩ : ∃ t, ws[at_]? = some t := ⟨_, List.getElem?_eq_getElem hat⟩
    have hts := HWs.out t (List.mem_of_getElem? ht)
    have hx1 := WordsAt.cell (WordsAt.low HW.out (by obtain ⟨_, hk, _⟩ := HW.out; exact blk_lt hk) HS1.out.bl) ht
    have HR1 : Aside0 (R = match numOf t with | some n => fillR ws (fs.data.toList.drop (i + 1)) (at_ + 1) (setF 65 n y) | none => (81, y)) := ⟨HR.out.trans (fillR_num (by decide) (by decide) ht)⟩
    have HLr := zA (HLd.out.below HS1.out.bl)
    clear ht
    cases hnm : numOf t with
    | none =>
     rw [hnm] at HR1
     have HNm := zA hnm
     clear hnm
     go_wp2_with (go_at_call 64; refine (textnumber_calls t wi HLr.out (by omega)).mono ?_; rintro e w5 ⟨n, rfl, _, hb⟩; rw [HNm.out]; have HS5 := zA (HS1.out.later hb); clear hb hx1)
     go_ret
     exact ⟨by rw [HR1.out]; rfl, fun h => by rw [HR1.out] at h; exact absurd (show (81 : Int) = 0 from h) (by decide), HS5.out.bl⟩
    | some v =>
     rw [hnm] at HR1
     have HNm := zA hnm
     clear hnm
     go_wp2_with (go_at_call 64; refine (textnumber_calls t wi HLr.out (by omega)).mono ?_; rintro e w5 ⟨n, rfl, hv, hb⟩; obtain rfl := hv v HNm.out; rw [HNm.out]; have HS5 := zA (HS1.out.later hb); obtain ⟨_, v5, hk5, _⟩ := HS5.out.fx; have z5 := bk6 hk5; clear hb hx1 hk5 hv)
     go_roundg k1
     case measure => have := HK.out; omega
     case rel => exact ⟨i + 1, at_ + 1, setF 65 n y, by go_num, ⟨by have := HK.out; omega⟩, ⟨HS5.out.set 2 (.int .i64 n) rfl (fun v5 => rfl)⟩, ⟨HR1.out⟩, ⟨by have h9 : wants (65 :: fs.data.toList.drop (i + 1)) = 1 + wants (fs.data.toList.drop (i + 1)) := rfl; have := HN.out; omega⟩, ⟨by have h9 : (k1 + 1) * ws.length = k1 * ws.length + ws.length := Nat.succ_mul _ _; have := H5.out; show y.f5.length + _ ≤ _; omega⟩⟩
   ·have hnx := hgen 66 rfl (by decide)
    clear hgen
    have hat : at_ < ws.length := by have h9 : wants (66 :: fs.data.toList.drop (i + 1)) = 1 + wants (fs.data.toList.drop (i + 1)) := rfl; have := HN.out; omega
    have hatI : (at_ : Int) < (ws.length : Int) := by omega
    obtain ⟨t, ht⟩ : ∃ t, ws[at_]? = some t := ⟨_, List.getElem?_eq_getElem hat⟩
    have hts := HWs.out t (List.mem_of_getElem? ht)
    have hx1 := WordsAt.cell (WordsAt.low HW.out (by obtain ⟨_, hk, _⟩ := HW.out; exact blk_lt hk) HS1.out.bl) ht
    have HR1 : Aside0 (R = match numOf t with | some n => fillR ws (fs.data.toList.drop (i + 1)) (at_ + 1) (setF 66 n y) | none => (81, y)) := ⟨HR.out.trans (fillR_num (by decide) (by decide) ht)⟩
    have HLr := zA (HLd.out.below HS1.out.bl)
    clear ht
    cases hnm : numOf t with
    | none =>
     rw [hnm] at HR1
     have HNm := zA hnm
     clear hnm
     go_wp2_with (go_at_call 64; refine (textnumber_calls t wi HLr.out (by omega)).mono ?_; rintro e w5 ⟨n, rfl, _, hb⟩; rw [HNm.out]; have HS5 := zA (HS1.out.later hb); clear hb hx1)
     go_ret
     exact ⟨by rw [HR1.out]; rfl, fun h => by rw [HR1.out] at h; exact absurd (show (81 : Int) = 0 from h) (by decide), HS5.out.bl⟩
    | some v =>
     rw [hnm] at HR1
     have HNm := zA hnm
     clear hnm
     go_wp2_with (go_at_call 64; refine (textnumber_calls t wi HLr.out (by omega)).mono ?_; rintro e w5 ⟨n, rfl, hv, hb⟩; obtain rfl := hv v HNm.out; rw [HNm.out]; have HS5 := zA (HS1.out.later hb); obtain ⟨_, v5, hk5, _⟩ := HS5.out.fx; have z5 := bk6 hk5; clear hb hx1 hk5 hv)
     go_roundg k1
     case measure => have := HK.out; omega
     case rel => exact ⟨i + 1, at_ + 1, setF 66 n y, by go_num, ⟨by have := HK.out; omega⟩, ⟨HS5.out.set 3 (.int .i64 n) rfl (fun v5 => rfl)⟩, ⟨HR1.out⟩, ⟨by have h9 : wants (66 :: fs.data.toList.drop (i + 1)) = 1 + wants (fs.data.toList.drop (i + 1)) := rfl; have := HN.out; omega⟩, ⟨by have h9 : (k1 + 1) * ws.length = k1 * ws.length + ws.length := Nat.succ_mul _ _; have := H5.out; show y.f5.length + _ ≤ _; omega⟩⟩
   ·have hnx := hgen 78 rfl (by decide)
    clear hgen
    have hat : at_ < ws.length := by have h9 : wants (78 :: fs.data.toList.drop (i + 1)) = 1 + wants (fs.data.toList.drop (i + 1)) := rfl; have := HN.out; omega
    have hatI : (at_ : Int) < (ws.length : Int) := by omega
    obtain ⟨t, ht⟩ : ∃ t, ws[at_]? = some t := ⟨_, List.getElem?_eq_getElem hat⟩
    have hx1 := WordsAt.cell (WordsAt.low HW.out (by obtain ⟨_, hk, _⟩ := HW.out; exact blk_lt hk) HS1.out.bl) ht
    have HR1 := zA (HR.out.trans (fillR_name ht))
    have HT := zA ht
    clear ht
    by_cases hn : nameOk t = true
    ·rw [zC hn] at HR1
     have HNm := zA (show ir_Name.f t = some true by rw [name_eq, hn])
     clear hn
     go_wp2_with (go_at_call 30; refine (ir_Name.calls t true _ HNm.out).mono ?_; rintro e w5 ⟨rfl, hb⟩; have HS5 := zA (HS1.out.later hb); obtain ⟨_, v5, hk5, _⟩ := HS5.out.fx; have z5 := bk6 hk5; have hx2 := WordsAt.cell (WordsAt.low HW.out (by obtain ⟨_, hk, _⟩ := HW.out; exact blk_lt hk) HS5.out.bl) HT.out; clear hb hx1 hk5)
     go_roundg k1
     case measure => have := HK.out; omega
     case rel => exact ⟨i + 1, at_ + 1, { y with f4 := t }, by go_num, ⟨by have := HK.out; omega⟩, ⟨HS5.out.set 4 (.string t) rfl (fun v5 => rfl)⟩, ⟨HR1.out⟩, ⟨by have h9 : wants (78 :: fs.data.toList.drop (i + 1)) = 1 + wants (fs.data.toList.drop (i + 1)) := rfl; have := HN.out; omega⟩, ⟨by have h9 : (k1 + 1) * ws.length = k1 * ws.length + ws.length := Nat.succ_mul _ _; have := H5.out; show y.f5.length + _ ≤ _; omega⟩⟩
    ·rw [zD hn] at HR1
     have HNm := zA (show ir_Name.f t = some false by rw [name_eq]; cases h : nameOk t with | true => exact absurd h hn | false => rfl)
     clear hn
     go_wp2_with (go_at_call 30; refine (ir_Name.calls t false _ HNm.out).mono ?_; rintro e w5 ⟨rfl, hb⟩; have HS5 := zA (HS1.out.later hb); clear hb hx1)
     go_ret
     exact ⟨by rw [HR1.out]; rfl, fun h => by rw [HR1.out] at h; exact absurd (show (80 : Int) = 0 from h) (by decide), HS5.out.bl⟩
   ·have hnx := hgen 76 rfl (by decide)
    clear hgen
    have hat : at_ ≤ ws.length := by have := HN.out; omega
    have hatI : (at_ : Int) ≤ (ws.length : Int) := by omega
    have hatc : (ws.length : Int) ≤ (c : Int) := by omega
    by_cases hca : c = at_
    ·have hwe : ws.length = at_ := by omega
     have hRR : R = fillR ws (fs.data.toList.drop (i + 1)) at_ y := by
      rw [HR.out, fillR_rest, List.drop_eq_nil_of_le (by omega)]
      show fillR ws _ at_ { y with f5 := y.f5 ++ [] } = _
      rw [List.append_nil]
     have HRR := zA hRR
     have hz1 : ws.length - at_ = 0 := by omega
     have hz2 : c - at_ = 0 := by omega
     have hz3 : (c = at_) = True := eq_true hca
     clear hRR hwe hca
     go_wp2_with fail
     go_loopg [46] 0 (fun kq2 v46 w' => v46 = .int .i64 0 ∧ Aside0 (kq2 = 0) ∧ Aside0 (FillSt gx gf w1.heap.size #[.int .i64 op, .string wd, .string fs] fs w0 w (i + 1) y w'))
     case atStart => exact ⟨rfl, ⟨rfl⟩, HS1⟩
     case round =>
      clear HS1 HS
      obtain ⟨rfl, HJ, HS2⟩ := hrel
      cases gk with
      | succ k2 => exact absurd HJ.out (by omega)
      | zero =>
       go_wp2_with fail
       go_roundg k1
       case measure => have := HK.out; omega
       case rel => exact ⟨i + 1, at_, y, rfl, ⟨by have := HK.out; omega⟩, HS2, HRR, ⟨by have h9 : wants (76 :: fs.data.toList.drop (i + 1)) = 0 + wants (fs.data.toList.drop (i + 1)) := rfl; have := HN.out; omega⟩, ⟨by have h9 : (k1 + 1) * ws.length = k1 * ws.length + ws.length := Nat.succ_mul _ _; have := H5.out; omega⟩⟩
    have hac : ¬ at_ = c := fun e => hca e.symm
    go_wp2_with fail
    go_loopg [46] (ws.length - at_) (fun kq2 v46 w' => ∃ (j : Nat) (l : List Int), v46 = .int .i64 (j : Int) ∧ Aside0 (kq2 + j = ws.length - at_) ∧ Aside0 (FillSt gx gf w1.heap.size #[.int .i64 op, .string wd, .string fs] fs w0 w (i + 1) { y with f5 := y.f5 ++ l } w') ∧ Aside0 ((ws.drop at_).mapM numOf = ((ws.drop (at_ + j)).mapM numOf).map (l ++ ·)) ∧ Aside0 (l.length = j))
    case atStart => exact ⟨0, [], by first | rfl | simp, ⟨by omega⟩, ⟨by simpa using HS1.out⟩, ⟨by simp⟩, ⟨rfl⟩⟩
    case round =>
     clear HS1 HS
     obtain ⟨j, l, rfl, HJ, HS2, HM, HL⟩ := hrel
     cases gk with
     | zero =>
      have hj : at_ + j = ws.length := by have := HJ.out; omega
      have d1b := zG (show ¬ ((j : Int) < ((ws.length - at_ : Nat) : Int)) by omega)
      have d1c := zG (show ¬ (j < ws.length - at_) by omega)
      have HRR : Aside0 (R = fillR ws (fs.data.toList.drop (i + 1)) at_ { y with f5 := y.f5 ++ l }) := ⟨by
       rw [HR.out, fillR_rest, HM.out, hj, List.drop_length]
       show fillR ws _ at_ { y with f5 := y.f5 ++ (l ++ []) } = _
       rw [List.append_nil]⟩
      go_wp2_with fail
      go_roundg k1
      case measure => have := HK.out; omega
      case rel => exact ⟨i + 1, at_, _, rfl, ⟨by have := HK.out; omega⟩, HS2, HRR, ⟨by have h9 : wants (76 :: fs.data.toList.drop (i + 1)) = 0 + wants (fs.data.toList.drop (i + 1)) := rfl; have := HN.out; omega⟩, ⟨by have h9 : (k1 + 1) * ws.length = k1 * ws.length + ws.length := Nat.succ_mul _ _; have := H5.out; have := HL.out; show (y.f5 ++ l).length + _ ≤ _; rw [List.length_append]; omega⟩⟩
     | succ k2 =>
      have hj : at_ + j < ws.length := by have := HJ.out; omega
      have hj2 : j < ws.length - at_ := by omega
      have hj3 : (j : Int) < ((ws.length - at_ : Nat) : Int) := by omega
      have d1b := zF hj3
      have d1c := zF hj2
      obtain ⟨t, ht⟩ : ∃ t, ws[at_ + j]? = some t := ⟨_, List.getElem?_eq_getElem hj⟩
      have hts := HWs.out t (List.mem_of_getElem? ht)
      have hx1 := WordsAt.cell (WordsAt.low HW.out (by obtain ⟨_, hk, _⟩ := HW.out; exact blk_lt hk) HS2.out.bl) ht
      rw [← Nat.add_assoc] at hx1
      have HMM := zA (HM.out.trans (congrArg (Option.map (l ++ ·)) (mapM_at ht)))
      have HLr := zA (HLd.out.below HS2.out.bl)
      clear ht
      cases hnm : numOf t with
      | none =>
       have HNm := zA hnm
       have HR1 : Aside0 (R = (81, y)) := ⟨by rw [HR.out, fillR_rest, HMM.out, hnm]; rfl⟩
       clear hnm
       go_wp2_with (go_at_call 64; refine (textnumber_calls t wr HLr.out (by omega)).mono ?_; rintro e w5 ⟨n, rfl, _, hb⟩; rw [HNm.out]; have HS5 := zA (HS2.out.later hb); clear hb hx1)
       go_ret
       exact ⟨by rw [HR1.out]; rfl, fun h => by rw [HR1.out] at h; exact absurd (show (81 : Int) = 0 from h) (by decide), HS5.out.bl⟩
      | some v =>
       have HNm := zA hnm
       have HM2 : Aside0 ((ws.drop at_).mapM numOf = ((ws.drop (at_ + (j + 1))).mapM numOf).map ((l ++ [v]) ++ ·)) := ⟨by
        rw [HMM.out, hnm, Nat.add_assoc]
        cases (ws.drop (at_ + (j + 1))).mapM numOf <;> simp⟩
       clear hnm
       have hyl : (y.f5 ++ l).length ≤ 10000000 := by
        have h9 : (k1 + 1) * ws.length = k1 * ws.length + ws.length := Nat.succ_mul _ _
        have := H5.out
        have := HL.out
        rw [List.length_append]; omega
       go_wp2_with (first
        | (go_at_call 64; refine (textnumber_calls t wr HLr.out (by omega)).mono ?_; rintro e w5 ⟨n, rfl, hv, hb⟩; obtain rfl := hv v HNm.out; rw [HNm.out]; have HS5 := zA (HS2.out.later hb); obtain ⟨_, v5, hk5, hr5⟩ := HS5.out.fx; have z5 := bk6 hk5; have HK5 := zA hk5; have HR5 := zA hr5; clear hb hx1 hk5 hv hr5)
        | ((with_reducible refine gate_builtin (b := .append) (xs := #[.tmp 61, .tmp 63]) rfl ?_); at_builtin; (refine Kd.R_append (Kd.int .i64) (w0 := w5) w0.heap.size rfl (.tmp 61) (.tmp 63) 42 3 (.int .i64 0) 8 rfl Tryz.underlying42 info3 rfl (by decide) (by omega) v5 (y.f5 ++ l) n [.int .i64 n] (fun _ => True) (fun _ => False) rfl rfl ?aP (fun _ hk => hk.elim) ?aF ?aO ?aB ?aS ?aL ?_; (case aP => exact rfl); (case aF => exact fun _ _ => trivial); (case aO => exact HR5.out); (case aB => exact Below.refl _ _); (case aS => exact HS5.out.bl.size); (case aL => omega); intro v1 w6 ho3 hb3 hg3 _; obtain ⟨A1, c1, rfl⟩ := Kd.R_slice ho3; have HS6 := zA (HS5.out.app HK5.out HR5.out ho3 hb3 hg3); have hk6 : w6.heap[gx]? = some (.cells #[.int .i64 y.f0, .int .i64 y.f1, .int .i64 y.f2, .int .i64 y.f3, .string y.f4, v5] 44 (0, 0)) := (hg3.block gx (blk_lt HK5.out) (fun e => by obtain ⟨cs, h2⟩ := Kd.R_typed HR5.out gx e.symm; have := HK5.out.symm.trans h2; simp at this)).trans HK5.out; have z6 := bk6 hk6; clear ho3 hb3 hg3 z5 hk6)))
       go_roundg k2
       case measure => have := HJ.out; omega
       case rel => exact ⟨j + 1, l ++ [n], by go_num, ⟨by have := HJ.out; omega⟩, ⟨by have h9 := HS6.out; simpa using h9⟩, HM2, ⟨by rw [List.length_append, HL.out]; rfl⟩⟩
structure PS where
 code : Bool
 first : ByteArray
 heads : Int
 name : ByteArray
 head : List Int
 blocks : List (List SIns)
def insOp (op : Int) : SIns := ⟨op, 0, 0, 0, ⟨#[]⟩, []⟩
def openF (fs : ByteArray) : Bool := Lib.hasSuffix fs.data.toList [76]
def lineP (s : PS) (ws : List ByteArray) : Int × PS :=
 match ws with
 | [] => (80, s)
 | w0 :: rest =>
  if w0.toList = [98, 108, 111, 99, 107] ∧ rest = [] then (0, { s with blocks := s.blocks ++ [[]] })
  else match byOf w0 s.code with
   | none => (80, s)
   | some (op, wd, fs) =>
    if s.blocks = [] then (80, s)
    else if openF fs = false ∧ rest.length ≠ fs.size ∨ openF fs = true ∧ rest.length + 1 < fs.size then (80, s)
    else if (fillR rest fs.data.toList 0 (insOp op)).1 = 0 then (0, { s with blocks := s.blocks.set (s.blocks.length - 1) (s.blocks.getD (s.blocks.length - 1) [] ++ [(fillR rest fs.data.toList 0 (insOp op)).2]) })
    else ((fillR rest fs.data.toList 0 (insOp op)).1, s)
structure PsAt (D gp : Nat) (s : PS) (w : World) : Prop where
 lt : gp < D
 at_ : ∃ vh vb, w.heap[gp]? = some (.cells #[.bool s.code, .string s.first, .int .i64 s.heads, .string s.name, vh, vb] 63 (0, 0)) ∧ Kd.R (Kd.int .i64) 3 w D (fun _ => True) vh s.head ∧ Kd.S (Kd.slice 44 kIns) 41 w D (fun _ => True) vb s.blocks
def KeptD (gp D : Nat) (w w' : World) : Prop := w.heap.size ≤ w'.heap.size ∧ ∀ k, k < D → k ≠ gp → k < w.heap.size → w'.heap[k]? = w.heap[k]?
theorem KeptD.refl (gp D : Nat) (w : World) : KeptD gp D w w := ⟨Nat.le_refl _, fun _ _ _ _ => rfl⟩
theorem KeptD.trans {gp D : Nat} {w w1 w2 : World} (h : KeptD gp D w w1) (h2 : KeptD gp D w1 w2) : KeptD gp D w w2 := ⟨Nat.le_trans h.1 h2.1, fun k hk hg hs => (h2.2 k hk hg (Nat.lt_of_lt_of_le hs h.1)).trans (h.2 k hk hg hs)⟩
theorem KeptD.of_below {gp D B : Nat} {w w1 : World} (hb : Below B w w1) (hD : D ≤ B) : KeptD gp D w w1 := ⟨hb.size, fun k hk _ _ => hb.block k (Nat.lt_of_lt_of_le hk hD)⟩
theorem KeptD.set {gp D : Nat} {w w1 : World} (h : KeptD gp D w w1) (j : Nat) (v : Value) : KeptD gp D w (w1.setCell ⟨gp, j, none⟩ v) := by
 refine h.trans ⟨by simp [World.setCell], fun k _ hg _ => heap_setCell_other _ _ _ _ hg⟩
theorem PsAt.below {D gp : Nat} {s : PS} {w w1 : World} (h : PsAt D gp s w) (hb : Below w.heap.size w w1) : PsAt D gp s w1 := by
 obtain ⟨lt, vh, vb, hk, hr, hs⟩ := h
 exact ⟨lt, vh, vb, blk_below hk hb, Kd.R_below hr hb, Kd.S_below hs hb⟩
theorem byVal_form (r : Option (Int × ByteArray × ByteArray)) : ∃ o wd fs is, byVal r = .tuple #[.agg #[.int .i64 o, .string wd, .string fs], .bool is] ∧ r = if is = true then some (o, wd, fs) else none := by
 cases r with
 | none => exact ⟨0, ⟨#[]⟩, ⟨#[]⟩, false, rfl, rfl⟩
 | some r => obtain ⟨o, wd, fs⟩ := r; exact ⟨o, wd, fs, true, rfl, rfl⟩
def parser_line.T4 : Bool × List (List Nat × List Nat) := (true, [([], []), ([0], [0]), ([1], [1]), ([], []), ([3], [3]), ([4], [4]), ([5], [5]), ([2, 6], [2, 6]), ([7], [7]), ([8], [8]), ([8], [8]), ([], []), ([11, 9, 7, 0, 1, 2, 3, 4, 5, 6, 7, 8, 9, 11], [9, 11]), ([10, 12, 0, 1, 2, 3, 4, 5, 6, 7, 8, 9, 10, 11, 12], [10])])
def parser_line.B4 : List Nat := [0, 1, 3, 0, 8, 24, 56, 127, 255, 511, 511, 0, 3071, 8191]
theorem parser_line.tab4 : rtab .any (opsOf Tryz.f50 4) = parser_line.T4 := by kernel_rfl
theorem parser_line.bits4 : waitsOk parser_line.T4.2 parser_line.B4 = true := by kernel_rfl
def FsOk (is : Bool) (fs : ByteArray) : Prop := fs.size ≤ 3 ∧ (∀ b ∈ fs.data.toList, b = 68 ∨ b = 65 ∨ b = 66 ∨ b = 78 ∨ b = 76) ∧ (is = true → 1 ≤ wants fs.data.toList)
theorem wants_le : ∀ l : List UInt8, wants l ≤ l.length
 | [] => Nat.le_refl _
 | c :: l => by have := wants_le l; unfold wants; split <;> simp <;> omega
theorem wants_mem : ∀ {l : List UInt8}, (76 : UInt8) ∈ l → wants l + 1 ≤ l.length
 | c :: l, h => by
  unfold wants
  rcases List.mem_cons.1 h with rfl | h
  ·have := wants_le l; simp; omega
  ·have := wants_mem h; split <;> simp <;> omega
theorem wants_open {fs : ByteArray} {n : Nat} (h : ¬ (openF fs = false ∧ n ≠ fs.size ∨ openF fs = true ∧ n + 1 < fs.size)) : wants fs.data.toList ≤ n := by
 have hl : fs.data.toList.length = fs.size := by simp
 have h1 := wants_le fs.data.toList
 cases ho : openF fs with
 | false =>
  have : n = fs.size := Classical.byContradiction fun e => h (.inl ⟨ho, e⟩)
  omega
 | true =>
  have h2 : ¬ n + 1 < fs.size := fun e => h (.inr ⟨ho, e⟩)
  have h3 : (76 : UInt8) ∈ fs.data.toList := by
   unfold openF Lib.hasSuffix at ho
   obtain ⟨t, ht⟩ := List.isSuffixOf_iff_suffix.1 ho
   rw [← ht]; simp
  have := wants_mem h3
  omega
theorem of_fs {op o : Int} {code is : Bool} {wd fs : ByteArray} (h : text_of.f op code = some (o, wd, fs, is)) : FsOk is fs := by
 have go : ∀ (r : Option (Int × ByteArray × ByteArray × Bool)), (∀ o wd fs is, r = some (o, wd, fs, is) → FsOk is fs) → r = text_of.f op code → FsOk is fs := fun r hr e => hr o wd fs is (e.trans h)
 have st : ∀ {c : Prop} [Decidable c] {a b : Option (Int × ByteArray × ByteArray × Bool)}, (∀ o wd fs is, a = some (o, wd, fs, is) → FsOk is fs) → (∀ o wd fs is, b = some (o, wd, fs, is) → FsOk is fs) → (∀ o wd fs is, (if c then a else b) = some (o, wd, fs, is) → FsOk is fs) := fun ha hb o wd fs is e => by
  split at e
  ·exact ha _ _ _ _ e
  ·exact hb _ _ _ _ e
 refine go _ ?_ rfl
 unfold text_of.f
 repeat' first
  | refine st ?_ ?_
  | (intro o wd fs is e
     simp only [Option.some.injEq, Prod.mk.injEq] at e
     obtain ⟨-, -, rfl, rfl⟩ := e
     exact ⟨by decide, by decide, fun h_ => by first | decide | cases h_⟩)
theorem byOf_fs {wd0 : ByteArray} {code : Bool} {o : Int} {wd fs : ByteArray} (h : byOf wd0 code = some (o, wd, fs)) : FsOk true fs := by
 have key : ∀ (k : Nat) (i : Int), byFrom wd0 code k i = some (o, wd, fs) → FsOk true fs := by
  intro k
  induction k with
  | zero => intro i h; cases h
  | succ k ih =>
   intro i h
   unfold byFrom at h
   split at h
   ·next r hr =>
    obtain ⟨⟨o1, w1, f1, is⟩, hof⟩ := text_of_total i code
    unfold isBy at hr
    rw [hof] at hr
    cases is with
    | false => cases hr
    | true =>
     dsimp only at hr
     split at hr
     ·injection hr with hr
      rw [← hr] at h
      injection h with h
      simp only [Prod.mk.injEq] at h
      rw [← h.2.2]
      exact of_fs hof
     ·cases hr
   ·exact ih _ h
 exact key _ _ h
def parser_line.T13 : Bool × List (List Nat × List Nat) := (true, [([], []), ([], []), ([1], [1]), ([0, 2], [0, 2]), ([3, 3, 0, 1, 2, 3], [3])])
def parser_line.B13 : List Nat := [0, 0, 2, 7, 15]
theorem parser_line.tab13 : rtab .any (opsOf Tryz.f50 13) = parser_line.T13 := by kernel_rfl
theorem parser_line.bits13 : waitsOk parser_line.T13.2 parser_line.B13 = true := by kernel_rfl
def parser_line.T16 : Bool × List (List Nat × List Nat) := (true, [([], []), ([0], [0]), ([1], [1]), ([2], [2]), ([], []), ([], []), ([5], [5]), ([6], [6]), ([7], [7]), ([], []), ([8, 9], [8, 9]), ([10], [10]), ([], []), ([12], [12]), ([11, 13], [11, 13]), ([3, 4, 0, 1, 2, 3, 4, 5, 6, 7, 8, 9, 10, 11, 12, 13, 14], [3, 4]), ([15, 14, 14, 0, 1, 2, 3, 4, 5, 6, 7, 8, 9, 10, 11, 12, 13, 14], [14, 15])])
def parser_line.B16 : List Nat := [0, 1, 3, 7, 0, 0, 32, 96, 224, 0, 992, 2016, 0, 4096, 16352, 32767, 65535]
theorem parser_line.tab16 : rtab .any (opsOf Tryz.f50 16) = parser_line.T16 := by kernel_rfl
theorem parser_line.bits16 : waitsOk parser_line.T16.2 parser_line.B16 = true := by kernel_rfl
theorem infoLIns : (Tryz.prog.info? 41).map (fun i => (i.zero, i.size, i.bytes)) = some (some (.slice none 0 0), 1, 24) := by kernel_rfl
theorem infoIns : (Tryz.prog.info? 44).map (fun i => (i.zero, i.size, i.bytes)) = some (some (.agg #[.int .i64 0, .int .i64 0, .int .i64 0, .int .i64 0, .string ⟨#[]⟩, .slice none 0 0]), 6, 72) := by kernel_rfl
set_option maxHeartbeats 8000000 in
set_option maxRecDepth 100000 in
theorem line_calls2 {w0 w : World} (hL : LaidW w0) (hB : Below w0.heap.size w0 w) (gp gw D : Nat) (hD : w0.heap.size ≤ gp) (s : PS) (hs : PsAt D gp s w) (hDw : D ≤ w.heap.size) (ws : List ByteArray) (hw : WordsAt gw 0 ws w) (h0 : ws ≠ []) (hwl : ws.length ≤ 95000) (hws : ∀ t ∈ ws, t.size ≤ 95000) (hb : s.blocks.length ≤ 100000) (hbb : ∀ b ∈ s.blocks, b.length ≤ 100000) :
 Calls Tryz.prog 50 #[.pointer (some ⟨gp, 0, none⟩), .slice (some ⟨gw, 0, none⟩) ws.length ws.length] w fun e w' => e = .returned (.int .i64 (lineP s ws).1) ∧ ((lineP s ws).1 = 0 → PsAt D gp (lineP s ws).2 w') ∧ KeptD gp D w w' ∧ Below w0.heap.size w0 w' := by
 obtain ⟨w0d, rest, rfl⟩ : ∃ a l, ws = a :: l := by
  cases ws with
  | nil => exact absurd rfl h0
  | cons a l => exact ⟨a, l, rfl⟩
 obtain ⟨R, hR⟩ : ∃ R, R = lineP s (w0d :: rest) := ⟨_, rfl⟩
 rw [← hR]
 have hx0 := WordsAt.cell hw (i := 0) (t := w0d) rfl
 have HLd := zA hL
 have HB := zA hB
 have HS := zA hs
 have HW := zA hw
 have HR := zA hR
 have HWs := zA hws
 have HBB := zA hbb
 have hlen : (w0d :: rest).length = rest.length + 1 := rfl
 rw [hlen] at hwl ⊢
 clear hL hB hs hw hR hws hlen h0 hbb
 by_cases c0 : w0d.toList = [98, 108, 111, 99, 107] ∧ rest = []
 ·obtain ⟨c1, c2⟩ := c0
  subst c2
  have HR2 := zA (show R = (0, { s with blocks := s.blocks ++ [[]] }) from by rw [HR.out]; unfold lineP; simp only [c1, and_self, if_true])
  obtain ⟨c1a, c1b⟩ := qe c1
  obtain ⟨lt, vh, vb, hk, hr, hsb⟩ := HS.out
  obtain ⟨Ab, cb, rfl⟩ := Kd.S_slice hsb
  have HE := zA (show (s.blocks ++ [([] : List SIns)]).length = s.blocks.length + 1 from by simp)
  have z6 := bk6 hk
  have HK := zA hk
  have HRh := zA hr
  have HSb := zA hsb
  clear hk hr hsb c1
  go_enter Tryz.func50, Tryz.ntmps50
  go_wp2_with (first
   | ((with_reducible refine gate_dst (N := 26) rfl ?_); refine Kd.R_lit kIns (w0 := w) w.heap.size 44 (by rfl) (N := 26) (by rfl) (xs := ([] : List SIns)) (inner := []) (ok := fun _ => True) (okp := fun _ => True) ?hr ?hp (fun _ hk => hk) trivial (Below.refl _ _) (Nat.le_refl _) (by simp) ?_; (case hr => go_simp <;> rfl); (case hp => exact Reps.none _ _); intro v26 w1 ho_ hb_ hg_ hnew_; obtain ⟨A26, c26, rfl⟩ := Kd.R_slice ho_; have HO := zA ho_; have HB1 := zA hb_; have z7 := bk6 (blk_below HK.out hb_); clear ho_ hb_ hg_ hnew_ z6)
   | ((with_reducible refine gate_builtin (b := .append) (xs := #[.tmp 25, .tmp 27]) rfl ?_); at_builtin; (refine Kd.S_append (Kd.slice 44 kIns) (w0 := w1) D rfl (.tmp 25) (.tmp 27) 22 41 (.slice none 0 0) 24 rfl Tryz.underlying22 infoLIns rfl (by decide) (by omega) (.slice Ab s.blocks.length cb) s.blocks [] [.slice A26 0 c26] (fun _ => True) (fun q => w.heap.size ≤ q) rfl rfl ⟨_, rfl, Kd.R_lower (Kd.R_mono (Kd.R_bound HO.out) (fun q hq => hq.2.1)) hDw⟩ (fun q hq => ⟨trivial, fun e => by have := Kd.S_lt HSb.out q e.symm; omega⟩) (fun _ _ => trivial) (Kd.S_mono (Kd.S_old HSb.out HB1.out) (fun q hq => ⟨trivial, by omega⟩)) (Below.refl _ _) (Nat.le_trans hDw HB1.out.size) ?aL ?_; (case aL => omega)); intro v28 w2 ho_ hb_ hg_ hat_; obtain ⟨A28, c28, rfl⟩ := Kd.S_slice ho_; rw [HE.out] at ho_; have HO2 := zA ho_; have HB2 := zA hb_; have hk2 := (hb_.block gp lt).trans (blk_below HK.out HB1.out); have HK2 := zA hk2; have z8 := bk6 hk2; have HH2 := zA (show Kd.R (Kd.int .i64) 3 w2 D (fun _ => True) vh s.head from Kd.R_over' (Kd.R_below HRh.out HB1.out) (fun k hk => by obtain ⟨cs, h⟩ := Kd.S_typed HSb.out k hk; exact ⟨cs, blk_below h HB1.out⟩) (by decide) hg_); clear ho_ hb_ hg_ hat_ z7 hk2))
  go_ret
  have HKp := ((KeptD.of_below (gp := gp) HB1.out hDw).trans (KeptD.of_below HB2.out (Nat.le_refl D))).set 5 (.slice A28 (s.blocks.length + 1) c28)
  refine ⟨by rw [HR2.out]; rfl, fun _ => ?_, HKp, ?_⟩
  ·rw [HR2.out]
   exact ⟨lt, vh, _, blk_put HK2.out 5 _ rfl, Kd.R_set HH2.out HK2.out (by decide) 5 _, Kd.S_set HO2.out HK2.out (by decide) 5 _⟩
  ·exact ((below_step HB.out HB1.out).trans (HB2.out.mono (Nat.le_trans hD (Nat.le_of_lt lt)))).setCell (p := ⟨gp, 5, none⟩) hD _
 have HR2 : Aside0 (R = match byOf w0d s.code with
  | none => (80, s)
  | some (op, wd, fs) => if s.blocks = [] then (80, s) else if openF fs = false ∧ rest.length ≠ fs.size ∨ openF fs = true ∧ rest.length + 1 < fs.size then (80, s) else if (fillR rest fs.data.toList 0 (insOp op)).1 = 0 then (0, { s with blocks := s.blocks.set (s.blocks.length - 1) (s.blocks.getD (s.blocks.length - 1) [] ++ [(fillR rest fs.data.toList 0 (insOp op)).2]) }) else ((fillR rest fs.data.toList 0 (insOp op)).1, s)) := ⟨by rw [HR.out]; unfold lineP; simp only [zD c0]⟩
 clear HR
 go_enter Tryz.func50, Tryz.ntmps50
 go_upto_region 1 with fail
 go_cut [20] (fun v20 wc => v20 = .bool false ∧ w = wc)
 case first =>
  by_cases c1 : w0d.toList = [98, 108, 111, 99, 107]
  ·obtain ⟨c1a, c1b⟩ := qe c1
   have c2 : ¬ rest.length + 1 = 1 := fun e => c0 ⟨c1, List.length_eq_zero_iff.1 (by omega)⟩
   have c2i : ¬ (rest.length : Int) + 1 = 1 := by omega
   obtain ⟨c2a, c2b⟩ := qn c2
   obtain ⟨c2c, c2d⟩ := qn c2i
   clear c1 c0
   go_wp2_with fail
   go_meet
   case rel => exact ⟨rfl, rfl⟩
  ·obtain ⟨c1a, c1b⟩ := qn c1
   clear c1 c0
   go_wp2_with fail
   go_meet
   case rel => exact ⟨rfl, rfl⟩
 case rest =>
  obtain ⟨rfl, rfl⟩ := hcut
  obtain ⟨lt, vh, vb, hk, hr, hsb⟩ := HS.out
  obtain ⟨Ab, cb, rfl⟩ := Kd.S_slice hsb
  have z6 := bk6 hk
  have HK := zA hk
  have HRh := zA hr
  have HSb := zA hsb
  clear hk hr hsb c0
  go_upto_region 4 with fail
  obtain ⟨o, wd, fs, is, hbv, hby⟩ := byVal_form (byOf w0d s.code)
  have HBv := zA hbv
  have HBy := zA hby
  clear hbv hby
  have hz0 : w.cell? ⟨gp, 0, none⟩ = some (.bool s.code) := z6.1
  have hx00 : w.cell? ⟨gw, 0, none⟩ = some (.string w0d) := hx0
  have hu94 := Tryz.underlying102
  clear z6 hx0
  go_cut [5, 6] (fun v5 v6 wc => ∃ gf, v5 = .pointer (some ⟨gf, 0, none⟩) ∧ v6 = .bool is ∧ Aside0 (wc.heap[gf]? = some (.cells #[.int .i64 o, .string wd, .string fs] 102 (0, 0))) ∧ Aside0 (Below w.heap.size w wc) ∧ Aside0 (w.heap.size ≤ gf))
  case first =>
   refine start_ (n := 14) (S := fun w' => w'.cell? ⟨gw, 0, none⟩ = some (.string w0d) ∧ w'.cell? ⟨gp, 0, none⟩ = some (.bool s.code)) (ds := [12]) (bA 14 0) (by kernel_rfl) rfl rfl ⟨hx00, hz0⟩ (fun hHeld => ?_); refine with_tabW parser_line.tab4 parser_line.bits4 (fun HT_ HW_ => ?_)
   have HBd := zA (below_drew (Below.refl w.heap.size w))
   generalize w.drew = wd_ at HBd hHeld ⊢
   refine pu_ (i := 0) (N := some 32) (bA 14 1) ?_
   refine pu_ (i := 1) (N := some 33) (bA 14 3) ?_
   refine pu_ (i := 3) (N := some 35) (bA 14 11) ?_
   refine pu_ (i := 4) (N := some 36) (bA 14 27) ?_
   refine pu_ (i := 5) (N := some 37) (bA 14 59) ?_
   refine tk_ (i := 2) (N := some 34) (bA 14 63) ?_
   refine tk_ (i := 6) (N := some 38) (bA 14 127) ?_
   refine two_ (i := 7) (j := 11) (Ni := some 39) (Nj := some 5) (bA 14 255) (bA 14 2175) rfl rfl rfl rfl (two_of HT_.out (by kernel_rfl)) (by decide) (by decide) (fun K hK => ?_) (fun K hK => ?_)
   ·refine goes_ Tryz.func65 (by kernel_rfl) rfl #[.string w0d, .bool s.code] (by rfl) rfl rfl qL ?_
    refine (by_calls w0d s.code _).mono ?_
    rintro e w2 ⟨rfl, hb⟩
    refine ⟨_, rfl, ?_⟩
    rw [HBv.out]
    have HB2 := zA (below_step HBd.out hb)
    have hh2 : w2.cell? ⟨gw, 0, none⟩ = some (.string w0d) ∧ w2.cell? ⟨gp, 0, none⟩ = some (.bool s.code) := ⟨(hb.cell (zE _ _ hHeld.1)).trans hHeld.1, (hb.cell (zE _ _ hHeld.2)).trans hHeld.2⟩
    clear hb hHeld
    refine hK.out _ _ hh2 (fun hHeld => ?_)
    clear hK K hh2
    refine norm_ (a' := ?_) ?_ ?_
    rotate_left
    ·show Act.put _ (some 39) _ = _
     simp only [Act.put, List.setIfInBounds_toArray, List.set_cons_zero, List.set_cons_succ, i64_w, i32_w]
     rfl
    refine pu_ (i := 8) (N := some 31) (bA 14 511) ?_
    refine pu_ (i := 9) (N := some 40) (bA 14 1023) ?_
    refine pu_ (i := 10) (N := some 41) (bA 14 2047) ?_
    refine one_ (i := 11) (N := some 5) (bA 14 4095) rfl rfl (one_of HT_.out (by kernel_rfl)) (by decide) (fun K hK => ?_)
    refine box_step (by rfl) (N := 5) (by rfl) (cs := #[.int .i64 0, .string (⟨#[]⟩ : ByteArray), .string (⟨#[]⟩ : ByteArray)]) (t := 102) ?hr ?_
    case hr => first | (go_simp; done) | (go_simp; rfl)
    intro gf hg w3 hbox hb
    have HGf := zA (show w.heap.size ≤ gf by rw [hg]; exact HB2.out.size)
    have HB3 := zA (below_step HB2.out hb)
    have BF := zA hbox
    have z3 := bk3 hbox
    have hh2 : w3.cell? ⟨gw, 0, none⟩ = some (.string w0d) ∧ w3.cell? ⟨gp, 0, none⟩ = some (.bool s.code) := ⟨(hb.cell (zE _ _ hHeld.1)).trans hHeld.1, (hb.cell (zE _ _ hHeld.2)).trans hHeld.2⟩
    clear hb hHeld hbox hg
    refine hK.out _ _ hh2 (fun hHeld => ?_)
    clear hK K hh2
    refine norm_ (a' := ?_) ?_ ?_
    rotate_left
    ·show Act.put _ (some 5) _ = _
     simp only [Act.put, List.setIfInBounds_toArray, List.set_cons_zero, List.set_cons_succ, i64_w, i32_w]
     rfl
    refine last_ (i := 12) (N := none) (bA 14 8191) rfl rfl (one_of HT_.out (by kernel_rfl)) (by decide) (fun K hK => ?_)
    refine skip_ (w1 := ?_) (by rfl) rfl ?_ ?_
    rotate_left
    ·first | (go_simp; done) | (go_simp; rfl)
    refine hK.out _ _ ?_
    clear hK K
    refine pu_ (i := 13) (N := some 6) (bA 14 16383) ?_
    refine done_ (done_of HT_.out (by kernel_rfl)) ?_
    go_wp2_with fail
    go_meet
    case rel => exact ⟨gf, rfl, rfl, ⟨blk_put (blk_put (blk_put BF.out 0 _ rfl) 1 _ rfl) 2 _ rfl⟩, ⟨((HB3.out.setCell (p := ⟨gf, 0, none⟩) HGf.out _).setCell (p := ⟨gf, 1, none⟩) HGf.out _).setCell (p := ⟨gf, 2, none⟩) HGf.out _⟩, HGf⟩
   ·refine box_step (by rfl) (N := 5) (by rfl) (cs := #[.int .i64 0, .string (⟨#[]⟩ : ByteArray), .string (⟨#[]⟩ : ByteArray)]) (t := 102) ?hr ?_
    case hr => first | (go_simp; done) | (go_simp; rfl)
    intro gf hg w2 hbox hb
    have HGf := zA (show w.heap.size ≤ gf by rw [hg]; exact HBd.out.size)
    have HB2 := zA (below_step HBd.out hb)
    have BF2 := zA hbox
    have hh2 : w2.cell? ⟨gw, 0, none⟩ = some (.string w0d) ∧ w2.cell? ⟨gp, 0, none⟩ = some (.bool s.code) := ⟨(hb.cell (zE _ _ hHeld.1)).trans hHeld.1, (hb.cell (zE _ _ hHeld.2)).trans hHeld.2⟩
    clear hb hHeld hbox hg
    refine hK.out _ _ hh2 (fun hHeld => ?_)
    clear hK K hh2
    refine norm_ (a' := ?_) ?_ ?_
    rotate_left
    ·show Act.put _ (some 5) _ = _
     simp only [Act.put, List.setIfInBounds_toArray, List.set_cons_zero, List.set_cons_succ, i64_w, i32_w]
     rfl
    refine one_ (i := 7) (N := some 39) (bA 14 2303) rfl rfl (one_of HT_.out (by kernel_rfl)) (by decide) (fun K hK => ?_)
    refine goes_ Tryz.func65 (by kernel_rfl) rfl #[.string w0d, .bool s.code] (by rfl) rfl rfl qL ?_
    refine (by_calls w0d s.code _).mono ?_
    rintro e w3 ⟨rfl, hb⟩
    refine ⟨_, rfl, ?_⟩
    rw [HBv.out]
    have HB3 := zA (below_step HB2.out hb)
    have BF := zA (blk_below BF2.out hb)
    have z3 := bk3 BF.out
    have hh2 : w3.cell? ⟨gw, 0, none⟩ = some (.string w0d) ∧ w3.cell? ⟨gp, 0, none⟩ = some (.bool s.code) := ⟨(hb.cell (zE _ _ hHeld.1)).trans hHeld.1, (hb.cell (zE _ _ hHeld.2)).trans hHeld.2⟩
    clear hb hHeld
    refine hK.out _ _ hh2 (fun hHeld => ?_)
    clear hK K hh2
    refine norm_ (a' := ?_) ?_ ?_
    rotate_left
    ·show Act.put _ (some 39) _ = _
     simp only [Act.put, List.setIfInBounds_toArray, List.set_cons_zero, List.set_cons_succ, i64_w, i32_w]
     rfl
    refine pu_ (i := 8) (N := some 31) (bA 14 2559) ?_
    refine pu_ (i := 9) (N := some 40) (bA 14 3071) ?_
    refine pu_ (i := 10) (N := some 41) (bA 14 4095) ?_
    refine last_ (i := 12) (N := none) (bA 14 8191) rfl rfl (one_of HT_.out (by kernel_rfl)) (by decide) (fun K hK => ?_)
    refine skip_ (w1 := ?_) (by rfl) rfl ?_ ?_
    rotate_left
    ·first | (go_simp; done) | (go_simp; rfl)
    refine hK.out _ _ ?_
    clear hK K
    refine pu_ (i := 13) (N := some 6) (bA 14 16383) ?_
    refine done_ (done_of HT_.out (by kernel_rfl)) ?_
    go_wp2_with fail
    go_meet
    case rel => exact ⟨gf, rfl, rfl, ⟨blk_put (blk_put (blk_put BF.out 0 _ rfl) 1 _ rfl) 2 _ rfl⟩, ⟨((HB3.out.setCell (p := ⟨gf, 0, none⟩) HGf.out _).setCell (p := ⟨gf, 1, none⟩) HGf.out _).setCell (p := ⟨gf, 2, none⟩) HGf.out _⟩, HGf⟩
  case rest =>
   obtain ⟨gf, rfl, rfl, BF, HBc, HGf⟩ := hcut
   have z3 := bk3 BF.out
   have hkc := blk_below HK.out HBc.out
   have z6 := bk6 hkc
   clear hx00 hz0
   cases is with
   | false =>
    have HR3 := zA (show R = (80, s) from by rw [HR2.out, HBy.out]; rfl)
    go_wp2_with fail
    go_ret
    exact ⟨by rw [HR3.out]; rfl, fun h => by rw [HR3.out] at h; exact absurd (show (80 : Int) = 0 from h) (by decide), KeptD.of_below HBc.out hDw, below_step HB.out HBc.out⟩
   | true =>
   have HR3 : Aside0 (R = if s.blocks = [] then (80, s) else if openF fs = false ∧ rest.length ≠ fs.size ∨ openF fs = true ∧ rest.length + 1 < fs.size then (80, s) else if (fillR rest fs.data.toList 0 (insOp o)).1 = 0 then (0, { s with blocks := s.blocks.set (s.blocks.length - 1) (s.blocks.getD (s.blocks.length - 1) [] ++ [(fillR rest fs.data.toList 0 (insOp o)).2]) }) else ((fillR rest fs.data.toList 0 (insOp o)).1, s)) := ⟨by rw [HR2.out, HBy.out]; rfl⟩
   clear HR2 HBv
   by_cases c3 : s.blocks = []
   ·have HR4 := zA (show R = (80, s) from by rw [HR3.out, zC c3])
    have hl0 : (s.blocks.length : Int) - 1 < 0 := by rw [c3]; decide
    have hl1 := zF hl0
    clear c3
    go_wp2_with fail
    go_ret
    exact ⟨by rw [HR4.out]; rfl, fun h => by rw [HR4.out] at h; exact absurd (show (80 : Int) = 0 from h) (by decide), KeptD.of_below HBc.out hDw, below_step HB.out HBc.out⟩
   obtain ⟨hfs3, hfsl, hfsw⟩ := byOf_fs (HBy.out.trans (zC rfl))
   have HFw := zA (hfsw rfl)
   clear hfsw
   have hfsz : fs.size ≤ 9223372036854775807 := by omega
   have hlp : 0 < s.blocks.length := List.length_pos_iff.2 c3
   rw [zD c3] at HR3
   have hl0 : ¬ (s.blocks.length : Int) - 1 < 0 := by omega
   have hl1 := zG hl0
   clear c3
   obtain ⟨b, hbo⟩ : ∃ b, b = openF fs := ⟨_, rfl⟩
   have HBo := zA hbo
   clear hbo
   go_upto_region 10 with (go_at_call 66; refine (Any.strings_HasSuffix Tryz.lays100 fs (⟨#[76]⟩ : ByteArray) _ ?hsz).mono ?_; (case hsz => exact hfsz); rintro e w' ⟨rfl, rfl⟩; rw [show Lib.hasSuffix fs.data.toList (⟨#[76]⟩ : ByteArray).data.toList = b from HBo.out.symm])
   go_cut [79] (fun v79 wq => v79 = .bool (decide (b = false ∧ rest.length ≠ fs.size ∨ b = true ∧ rest.length + 1 < fs.size)) ∧ w' = wq)
   case first =>
    clear z6
    cases b with
    | false =>
     by_cases e1 : rest.length = fs.size
     ·obtain ⟨e2, e3⟩ := qe e1
      obtain ⟨e4, e5⟩ := qe (show (rest.length : Int) = (fs.size : Int) by omega)
      have hd := zG (show ¬ (false = false ∧ rest.length ≠ fs.size ∨ false = true ∧ rest.length + 1 < fs.size) from fun h => by rcases h with h | h; exact h.2 e1; cases h.1)
      have HD := zA hd
      clear hd e1
      go_wp2_with fail
      go_meet
      case rel => exact ⟨by rw [HD.out], rfl⟩
     ·obtain ⟨e2, e3⟩ := qn e1
      obtain ⟨e4, e5⟩ := qn (show ¬ (rest.length : Int) = (fs.size : Int) by omega)
      have hd := zF (show (false = false ∧ rest.length ≠ fs.size ∨ false = true ∧ rest.length + 1 < fs.size) from .inl ⟨rfl, e1⟩)
      have HD := zA hd
      clear hd e1
      go_wp2_with fail
      go_meet
      case rel => exact ⟨by rw [HD.out], rfl⟩
    | true =>
     by_cases e1 : rest.length + 1 < fs.size
     ·have e2 := zF (show (rest.length : Int) < (fs.size : Int) - 1 by omega)
      have e3 := zF e1
      have e4 := zF (show (rest.length : Int) + 1 < (fs.size : Int) by omega)
      have hd := zF (show (true = false ∧ rest.length ≠ fs.size ∨ true = true ∧ rest.length + 1 < fs.size) from .inr ⟨rfl, e1⟩)
      have HD := zA hd
      clear hd e1
      go_wp2_with fail
      go_meet
      case rel => exact ⟨by rw [HD.out], rfl⟩
     ·have e2 := zG (show ¬ (rest.length : Int) < (fs.size : Int) - 1 by omega)
      have e3 := zG e1
      have e4 := zG (show ¬ (rest.length : Int) + 1 < (fs.size : Int) by omega)
      have hd := zG (show ¬ (true = false ∧ rest.length ≠ fs.size ∨ true = true ∧ rest.length + 1 < fs.size) from fun h => by rcases h with h | h; cases h.1; exact e1 h.2)
      have HD := zA hd
      clear hd e1
      go_wp2_with fail
      go_meet
      case rel => exact ⟨by rw [HD.out], rfl⟩
   case rest =>
   obtain ⟨rfl, hwq⟩ := hcut
   subst hwq
   rw [← HBo.out] at HR3
   by_cases c4 : b = false ∧ rest.length ≠ fs.size ∨ b = true ∧ rest.length + 1 < fs.size
   ·have HR4 := zA (show R = (80, s) from by rw [HR3.out, zC c4])
    rw [zF c4]
    clear c4
    go_wp2_with fail
    go_ret
    exact ⟨by rw [HR4.out]; rfl, fun h => by rw [HR4.out] at h; exact absurd (show (80 : Int) = 0 from h) (by decide), KeptD.of_below HBc.out hDw, below_step HB.out HBc.out⟩
   rw [zD c4] at HR3
   rw [zG c4]
   have HC4 := zA c4
   clear c4
   have hu43 := Tryz.underlying44
   go_upto_region 13 with ((with_reducible refine gate_dst (N := 10) rfl ?_); refine box_event (by rfl) (N := 10) (by rfl) (cs := #[.int .i64 0, .int .i64 0, .int .i64 0, .int .i64 0, .string (⟨#[]⟩ : ByteArray), .slice none 0 0]) (t := 44) ?hr ?_; (case hr => go_simp <;> rfl); intro gx hg w4 hbox hb4; have BX := zA hbox; have HGx := zA hg; have HB4 := zA hb4; have z7 := bk6 hbox; have BF4 := zA (blk_below BF.out hb4); clear hg hbox hb4)
   have hwn : wants fs.data.toList ≤ rest.length := wants_open (by rw [← HBo.out]; exact HC4.out)
   have hr1 : 1 ≤ rest.length := Nat.le_trans HFw.out hwn
   have BX5 := zA (blk_put (blk_put (blk_put (blk_put (blk_put (blk_put BX.out 0 (.int .i64 o) rfl) 1 (.int .i64 0) rfl) 2 (.int .i64 0) rfl) 3 (.int .i64 0) rfl) 4 (.string (⟨#[]⟩ : ByteArray)) rfl) 5 (.slice none 0 0) rfl)
   have hgx : w'.heap.size ≤ gx := by rw [HGx.out]; exact Nat.le_refl _
   have HB5 := zA (((((((HB4.out.setCell (p := ⟨gx, 0, none⟩) hgx (.int .i64 o)).setCell (p := ⟨gx, 1, none⟩) hgx (.int .i64 0)).setCell (p := ⟨gx, 2, none⟩) hgx (.int .i64 0)).setCell (p := ⟨gx, 3, none⟩) hgx (.int .i64 0)).setCell (p := ⟨gx, 4, none⟩) hgx (.string (⟨#[]⟩ : ByteArray))).setCell (p := ⟨gx, 5, none⟩) hgx (.slice none 0 0)))
   clear z7 BX z3 HB4 BF4
   generalize ((((((w4.setCell ⟨gx, 0, none⟩ (.int .i64 o)).setCell ⟨gx, 1, none⟩ (.int .i64 0)).setCell ⟨gx, 2, none⟩ (.int .i64 0)).setCell ⟨gx, 3, none⟩ (.int .i64 0)).setCell ⟨gx, 4, none⟩ (.string (⟨#[]⟩ : ByteArray))).setCell ⟨gx, 5, none⟩ (.slice none 0 0)) = w5 at BX5 HB5 ⊢
   have BF5 := zA (blk_below BF.out HB5.out)
   have HB6 := zA (below_drew HB5.out)
   have BX6 := zA (blk_drew BX5.out)
   have hrz : (rest.length = 0) = False := eq_false (by omega)
   have hr1i := eq_true (show (1 : Int) ≤ (rest.length : Int) + 1 by omega)
   refine start_ (n := 5) (S := fun w' => w'.cell? ⟨gf, 0, none⟩ = some (.int .i64 o) ∧ w'.cell? ⟨gf, 1, none⟩ = some (.string wd) ∧ w'.cell? ⟨gf, 2, none⟩ = some (.string fs)) (ds := []) (bA 5 0) (by kernel_rfl) rfl rfl ⟨(blk_cell BF5.out 0).trans rfl, (blk_cell BF5.out 1).trans rfl, (blk_cell BF5.out 2).trans rfl⟩ (fun hHeld => ?_); refine with_tabW parser_line.tab13 parser_line.bits13 (fun HT_ HW_ => ?_)
   generalize w5.drew = w6 at HB6 BX6 hHeld ⊢
   refine pu_ (i := 1) (N := some 84) (bA 5 2) ?_
   refine pu_ (i := 2) (N := some 85) (bA 5 6) ?_
   refine tk_ (i := 0) (N := some 83) (bA 5 7) ?_
   refine one_ (i := 3) (N := some 86) (bA 5 15) rfl rfl (one_of HT_.out (by kernel_rfl)) (by decide) (fun K hK => ?_)
   obtain ⟨F, hF⟩ : ∃ F, F = fillR rest fs.data.toList 0 (insOp o) := ⟨_, rfl⟩
   rw [← hF] at HR3
   have hsmall : (0 : Nat) + 10 * rest.length ≤ 10000000 := by omega
   have HLw := zA (HLd.out.below (below_step HB.out HBc.out))
   have hw1 := WordsAt.tail HW.out
   have hfc := fill_calls HLw.out HB6.out gx gw (insOp o) ⟨hgx, .slice none 0 0, BX6.out, Kd.R_nil _ _ _ _ _⟩ (blk_lt BX6.out) o wd fs rest rest.length (WordsAt.low hw1 (by obtain ⟨_, hk, _⟩ := hw1; exact blk_lt hk) HBc.out) hfsl hwn (by omega) (fun t ht => by have := HWs.out t (List.mem_cons_of_mem _ ht); omega) (by omega) hsmall (Nat.le_refl _)
   rw [← hF] at hfc
   clear hF
   refine goes_ Tryz.func67 (by kernel_rfl) rfl #[.pointer (some ⟨gx, 0, none⟩), .agg #[.int .i64 o, .string wd, .string fs], .slice (some ⟨gw, 1, none⟩) rest.length rest.length] (by rfl) rfl rfl qL ?_
   refine hfc.mono ?_
   clear hfc hw1
   rintro e w7 ⟨rfl, hfx, hb7⟩
   refine ⟨_, rfl, ?_⟩
   have HFx := zA hfx
   have HB7 := zA hb7
   have BF7 := zA (blk_below BF.out hb7)
   clear hb7 hfx hHeld BF5 HB6 BX6 HB5 BX5
   refine hK.out _ _ ⟨(blk_cell BF7.out 0).trans rfl, (blk_cell BF7.out 1).trans rfl, (blk_cell BF7.out 2).trans rfl⟩ (fun hHeld => ?_)
   clear hK K
   refine norm_ (a' := ?_) ?_ ?_
   rotate_left
   ·show Act.put _ (some 86) _ = _
    simp only [Act.put, List.setIfInBounds_toArray, List.set_cons_zero, List.set_cons_succ, i64_w, i32_w]
    rfl
   refine pu_ (i := 4) (N := some 11) (bA 5 31) ?_
   refine done_ (done_of HT_.out (by kernel_rfl)) ?_
   clear HT_ HW_ hHeld hrz hr1i hr1 hwn hsmall
   by_cases c5 : F.1 = 0
   case neg =>
    have HR4 := zA (show R = (F.1, s) from by rw [HR3.out, zD c5])
    obtain ⟨c6, c7⟩ := qn c5
    have HC5 := zA c5
    clear c5
    go_wp2_with fail
    go_ret
    exact ⟨by rw [HR4.out]; rfl, fun h => by rw [HR4.out] at h; exact absurd (show F.1 = 0 from h) HC5.out, (KeptD.of_below HBc.out hDw).trans (KeptD.of_below HB7.out (Nat.le_trans hDw HBc.out.size)), below_step (below_step HB.out HBc.out) HB7.out⟩
   have HR4 := zA (show R = (0, { s with blocks := s.blocks.set (s.blocks.length - 1) (s.blocks.getD (s.blocks.length - 1) [] ++ [F.2]) }) from by rw [HR3.out, zC c5])
   have HX := zA (HFx.out c5)
   obtain ⟨c6, c7⟩ := qe c5
   clear c5
   go_upto_region 16 with fail
   -- the last block takes the instruction in
   obtain ⟨gb, cb2, eb, hgb, -, -⟩ := Kd.S_form HSb.out hlp
   injection eb with e1 e2 e3
   subst e1
   subst e3
   have HSc := Kd.S_below HSb.out HBc.out
   have HSo := zA (Kd.S_old HSc HB7.out)
   have HK7 := zA (blk_below (blk_below HK.out HBc.out) HB7.out)
   have HR7 := zA (Kd.R_below (Kd.R_below HRh.out HBc.out) HB7.out)
   clear HSc
   have hi0 : (0 : Int) ≤ (s.blocks.length : Int) - 1 := by omega
   have hi1 : (s.blocks.length : Int) - 1 < (s.blocks.length : Int) := by omega
   obtain ⟨oki, cv, hcl, hM, hcc, hfz, hoki, hH⟩ := Kd.S_elem HSo.out [] ((s.blocks.length : Int) - 1) hi0 hi1
   obtain ⟨vk, rfl, hrk⟩ := hM
   have hto : ((s.blocks.length : Int) - 1).toNat = s.blocks.length - 1 := by omega
   have hvk : w7.cell? ⟨gb, ((s.blocks.length : Int) - 1).toNat * 1 + 0, none⟩ = some vk := hcc 0 vk rfl
   have hfk : w7.frozen? ⟨gb, ((s.blocks.length : Int) - 1).toNat * 1 + 0, none⟩ = false := hfz 0
   rw [Nat.mul_one, Nat.add_zero, hto] at hvk hfk
   rw [hto] at hrk
   obtain ⟨hgx2, v5, hkx, hr5⟩ := HX.out
   obtain ⟨xk, hxk⟩ : ∃ xk, xk = s.blocks.getD (s.blocks.length - 1) [] := ⟨_, rfl⟩
   rw [← hxk] at hrk
   have hxl : xk.length ≤ 100000 := by
    rw [hxk, List.getD_eq_getElem?_getD, List.getElem?_eq_getElem (by omega)]
    exact HBB.out _ (List.getElem_mem _)
   obtain ⟨Ak, ck, ek⟩ := Kd.R_slice hrk
   subst ek
   obtain ⟨A5, c5, e5⟩ := Kd.R_slice hr5
   subst e5
   have HH := zA (Kd.H_drew hH)
   have HRk := zA (Kd.R_drew hrk)
   have HR5 := zA (Kd.R_drew hr5)
   have HOk := zA hoki
   have HXk := zA hxk
   have HKx := zA (blk_drew hkx)
   have HTo := zA hto
   have HK8 := zA (blk_drew HK7.out)
   have HR8 := zA (Kd.R_drew HR7.out)
   have HB8 := zA (below_drew HB7.out)
   have hl2 := eq_true (show (1 : Int) ≤ (s.blocks.length : Int) by omega)
   have hvk8 : w7.drew.cell? ⟨gb, s.blocks.length - 1, none⟩ = some (.slice Ak xk.length ck) := hvk
   have hfk8 : w7.drew.frozen? ⟨gb, s.blocks.length - 1, none⟩ = false := hfk
   clear hcl hcc hfz hoki hH hrk hr5 hkx hvk hfk hto hxk HK7 HR7
   refine start_ (n := 17) (S := fun w' => w'.cell? ⟨gp, 5, none⟩ = some (.slice (some ⟨gb, 0, none⟩) s.blocks.length cb) ∧ w'.cell? ⟨gb, s.blocks.length - 1, none⟩ = some (.slice Ak xk.length ck) ∧ w'.cell? ⟨gx, 0, none⟩ = some (.int .i64 F.2.f0) ∧ w'.cell? ⟨gx, 1, none⟩ = some (.int .i64 F.2.f1) ∧ w'.cell? ⟨gx, 2, none⟩ = some (.int .i64 F.2.f2) ∧ w'.cell? ⟨gx, 3, none⟩ = some (.int .i64 F.2.f3) ∧ w'.cell? ⟨gx, 4, none⟩ = some (.string F.2.f4) ∧ w'.cell? ⟨gx, 5, none⟩ = some (.slice A5 F.2.f5.length c5)) (ds := [16]) (bA 17 0) (by kernel_rfl) rfl rfl ⟨(blk_cell HK8.out 5).trans rfl, hvk8, (blk_cell HKx.out 0).trans rfl, (blk_cell HKx.out 1).trans rfl, (blk_cell HKx.out 2).trans rfl, (blk_cell HKx.out 3).trans rfl, (blk_cell HKx.out 4).trans rfl, (blk_cell HKx.out 5).trans rfl⟩ (fun hHeld => ?_); refine with_tabW parser_line.tab16 parser_line.bits16 (fun HT_ HW_ => ?_)
   have HFk := zA hfk8
   have HVk := zA hvk8
   clear hfk8 hvk8
   generalize w7.drew = w8 at HH HRk HR5 HKx HK8 HR8 HB8 HFk HVk hHeld ⊢
   refine pu_ (i := 0) (N := some 90) (bA 17 1) ?_
   refine pu_ (i := 1) (N := some 91) (bA 17 3) ?_
   refine pu_ (i := 2) (N := some 92) (bA 17 7) ?_
   refine pu_ (i := 4) (N := some 94) (bA 17 23) ?_
   refine pu_ (i := 5) (N := some 95) (bA 17 55) ?_
   refine pu_ (i := 6) (N := some 96) (bA 17 119) ?_
   refine pu_ (i := 7) (N := some 97) (bA 17 247) ?_
   refine pu_ (i := 9) (N := some 99) (bA 17 759) ?_
   refine tk_ (i := 3) (N := some 93) (bA 17 767) ?_
   refine tk_ (i := 8) (N := some 98) (bA 17 1023) ?_
   refine pu_ (i := 10) (N := some 100) (bA 17 2047) ?_
   refine tk_ (i := 11) (N := some 101) (bA 17 4095) ?_
   refine tk_ (i := 12) (N := some 102) (bA 17 8191) ?_
   refine one_ (i := 13) (N := some 103) (bA 17 16383) rfl rfl (one_of HT_.out (by kernel_rfl)) (by decide) (fun K hK => ?_)
   refine value_ (v := .slice (some ⟨w8.heap.size, 0, none⟩) 1 1) (w1 := w8.alloc (.cells #[.int .i64 F.2.f0, .int .i64 F.2.f1, .int .i64 F.2.f2, .int .i64 F.2.f3, .string F.2.f4, .slice A5 F.2.f5.length c5] 44)) rfl rfl (by first | (go_simp; done) | (go_simp; with_reducible rfl)) ?_
   have hba := below_alloc (Below.refl w8.heap.size w8) (.cells #[.int .i64 F.2.f0, .int .i64 F.2.f1, .int .i64 F.2.f2, .int .i64 F.2.f3, .string F.2.f4, .slice A5 F.2.f5.length c5] 44)
   refine hK.out _ _ ⟨(hba.cell (zE _ _ hHeld.1)).trans hHeld.1, (hba.cell (zE _ _ hHeld.2.1)).trans hHeld.2.1, (hba.cell (zE _ _ hHeld.2.2.1)).trans hHeld.2.2.1, (hba.cell (zE _ _ hHeld.2.2.2.1)).trans hHeld.2.2.2.1, (hba.cell (zE _ _ hHeld.2.2.2.2.1)).trans hHeld.2.2.2.2.1, (hba.cell (zE _ _ hHeld.2.2.2.2.2.1)).trans hHeld.2.2.2.2.2.1, (hba.cell (zE _ _ hHeld.2.2.2.2.2.2.1)).trans hHeld.2.2.2.2.2.2.1, (hba.cell (zE _ _ hHeld.2.2.2.2.2.2.2)).trans hHeld.2.2.2.2.2.2.2⟩ (fun hHeld2 => ?_)
   clear hK K hHeld hba
   refine norm_ (a' := ?_) ?_ ?_
   rotate_left
   ·show Act.put _ (some 103) _ = _
    simp only [Act.put, List.setIfInBounds_toArray, List.set_cons_zero, List.set_cons_succ, i64_w, i32_w]
    rfl
   have hDw8 : D ≤ w8.heap.size := Nat.le_trans hDw (Nat.le_trans HBc.out.size HB8.out.size)
   refine one_ (i := 14) (N := some 104) (bA 17 32767) rfl rfl (one_of HT_.out (by kernel_rfl)) (by decide) (fun K hK => ?_)
   refine Kd.R_append_step kIns (w0 := w8) D (by rfl) (.tmp 101) (.tmp 103) 41 44 (.agg #[(.int .i64 0), (.int .i64 0), (.int .i64 0), (.int .i64 0), (.string ⟨#[]⟩), (.slice none 0 0)]) 72 rfl Tryz.underlying41 infoIns rfl (by decide) (by omega) (.slice Ak xk.length ck) xk F.2 [.int .i64 F.2.f0, .int .i64 F.2.f1, .int .i64 F.2.f2, .int .i64 F.2.f3, .string F.2.f4, .slice A5 F.2.f5.length c5] (fun q => oki q ∨ w'.heap.size ≤ q) (fun q => w'.heap.size ≤ q) rfl rfl ?hp ?hokp ?hfresh ?HO (Below.refl _ _) hDw8 (by omega) ?_
   case hp => exact kIns_mkM w8 D _ F.2 (Kd.R_lower (Kd.R_mono (Kd.R_bound HR5.out) (fun q hq => hq.2.1)) (Nat.le_trans hDw HBc.out.size))
   case hokp => exact fun q hq => ⟨.inr hq, fun e => by have := (HOk.out q (HRk.out.1 q e.symm)).1.2; omega⟩
   case hfresh => exact fun q hq => .inr (Nat.le_trans HB8.out.size hq)
   case HO => exact Kd.R_mono HRk.out (fun q hq => .inl hq)
   intro v104 w9 ho hb9 hg9 _
   obtain ⟨A9, c9, e9⟩ := Kd.R_slice ho
   subst e9
   rw [show (xk ++ [F.2]).length = xk.length + 1 by simp] at ho ⊢
   have hkb : w9.heap[gb]? = w8.heap[gb]? := hg9.block gb (zE _ _ HVk.out) (fun e => (HOk.out gb (HRk.out.1 gb e.symm)).2 rfl)
   have hkg : w9.heap[gx]? = w8.heap[gx]? := hg9.block gx (blk_lt HKx.out) (fun e => by have := (HOk.out gx (HRk.out.1 gx e.symm)).1.2; omega)
   obtain ⟨csb, hcsb⟩ := Kd.S_typed HSb.out gb (by simp [Value.ownBlock])
   have HCb := zA (hkb.trans (blk_below (blk_below hcsb HBc.out) HB8.out))
   clear hcsb
   have hv9 : w9.cell? ⟨gb, s.blocks.length - 1, none⟩ = some (.slice Ak xk.length ck) := (World.cell?_of_block (w := w8) hkb).trans HVk.out
   have hf9 : w9.frozen? ⟨gb, s.blocks.length - 1, none⟩ = false := (World.frozen?_of_block (w := w8) hkb).trans HFk.out
   have hkp9 := (hb9.block gp lt).trans HK8.out
   have hkx9 := hkg.trans HKx.out
   have HK9 := zA hkp9
   have HR9 := zA (show Kd.R (Kd.int .i64) 3 w9 D (fun _ => True) vh s.head from Kd.R_over' HR8.out (fun k hk => Kd.R_typed HRk.out k hk) (by decide) hg9)
   have HB9 := zA hb9
   have HRn := zA ho
   have HH9 := zA (Kd.H_grown HH.out hg9 (fun k hk => HRk.out.1 k hk))
   clear ho hb9 hkb hkg hg9 hHeld2
   refine hK.out _ _ ⟨(blk_cell hkp9 5).trans rfl, hv9, (blk_cell hkx9 0).trans rfl, (blk_cell hkx9 1).trans rfl, (blk_cell hkx9 2).trans rfl, (blk_cell hkx9 3).trans rfl, (blk_cell hkx9 4).trans rfl, (blk_cell hkx9 5).trans rfl⟩ (fun hHeld => ?_)
   clear hK K hkp9 hkx9
   refine norm_ (a' := ?_) ?_ ?_
   rotate_left
   ·show Act.put _ (some 104) _ = _
    simp only [Act.put, List.setIfInBounds_toArray, List.set_cons_zero, List.set_cons_succ, i64_w, i32_w]
    rfl
   refine pu_ (i := 15) (N := some 105) (bA 17 65535) ?_
   refine last_ (i := 16) (N := none) (bA 17 131071) rfl rfl (one_of HT_.out (by kernel_rfl)) (by decide) (fun K hK => ?_)
   refine skip_ (w1 := ?_) (by rfl) rfl ?_ ?_
   rotate_left
   ·first | (go_simp; done) | (go_simp; rfl)
   refine hK.out _ _ ?_
   clear hK K hv9 hf9 hHeld
   refine done_ (done_of HT_.out (by kernel_rfl)) ?_
   go_wp2_with fail
   go_ret
   have hgbD : D ≤ gb := hgb
   have hgb' : gb < w'.heap.size := by
    have := Kd.S_lt HSb.out gb (by simp [Value.ownBlock])
    exact Nat.lt_of_lt_of_le this HBc.out.size
   obtain ⟨hS9, hg10⟩ := Kd.S_seg (d := Kd.slice 44 kIns) (ok := fun _ => True) (okg := fun q => w'.heap.size ≤ q) (okp := fun q => oki q ∨ w'.heap.size ≤ q) (Kd.H_mono HH9.out (fun k hk => ⟨trivial, by omega⟩)) hi0 hi1 (seg := [.slice A9 (xk.length + 1) c9]) (j := 0) (Nat.le_refl 1) (x' := xk ++ [F.2]) ⟨_, rfl, HRn.out⟩ (fun k hk => hk) (fun k hk => ⟨trivial, by omega⟩)
   have hsz : (Kd.slice 44 kIns).sz = 1 := rfl
   rw [hsz, Nat.mul_one, Nat.add_zero, HTo.out] at hS9
   have hS10 : Kd.S (Kd.slice 44 kIns) 41 (w9.setCell ⟨gb, s.blocks.length - 1, none⟩ (.slice A9 (xk.length + 1) c9)) D (fun _ => True) (.slice (some ⟨gb, 0, none⟩) s.blocks.length cb) (s.blocks.set (s.blocks.length - 1) (xk ++ [F.2])) := by simpa only [World.setCells] using hS9
   have hgpb : gb ≠ gp := by omega
   have HKp : KeptD gp D w (w9.setCell ⟨gb, s.blocks.length - 1, none⟩ (.slice A9 (xk.length + 1) c9)) := ((((KeptD.of_below HBc.out hDw).trans (KeptD.of_below HB8.out (Nat.le_trans hDw HBc.out.size))).trans (KeptD.of_below HB9.out (Nat.le_refl D)))).trans (KeptD.of_below ((Below.refl D w9).setCell (p := ⟨gb, s.blocks.length - 1, none⟩) hgbD _) (Nat.le_refl D))
   refine ⟨by rw [HR4.out]; rfl, fun _ => ?_, HKp, ?_⟩
   ·rw [HR4.out]
    refine ⟨lt, vh, .slice (some ⟨gb, 0, none⟩) s.blocks.length cb, blk_far HK9.out (p := ⟨gb, s.blocks.length - 1, none⟩) (Ne.symm hgpb) _, ?_, ?_⟩
    ·exact Kd.R_set HR9.out HCb.out (by decide) _ _
    ·show Kd.S _ _ _ _ _ _ (s.blocks.set (s.blocks.length - 1) (s.blocks.getD (s.blocks.length - 1) [] ++ [F.2]))
     rw [← HXk.out]
     exact hS10
   ·exact ((below_step (below_step HB.out HBc.out) HB8.out).trans (HB9.out.mono (Nat.le_trans hD (Nat.le_of_lt lt)))).setCell (p := ⟨gb, s.blocks.length - 1, none⟩) (by show _ ≤ gb; omega) _
def topP (s : PS) (ws : List ByteArray) : Int × PS :=
 match ws with
 | w0 :: w1 :: rest => if w0.toList = s.first.toList ∧ ((rest.length + 2 : Nat) : Int) = s.heads + 2 ∧ nameOk w1 = true then (match rest.mapM numOf with | some l => (0, { s with name := w1, head := l }) | none => (81, s)) else (80, s)
 | _ => (80, s)
def parser_top.T1 : Bool × List (List Nat × List Nat) := (true, [([], []), ([0], [0]), ([1], [1]), ([], []), ([3], [3]), ([4], [4]), ([5], [5]), ([2, 6], [2, 6]), ([7], [7]), ([8], [8]), ([9, 8], [8, 9]), ([8], [8]), ([11, 8], [8, 11]), ([12, 8], [8, 12]), ([13, 8], [8, 13]), ([14, 8], [8, 14]), ([10, 15, 8], [8, 10, 15]), ([8, 16], [8, 16]), ([17, 8], [17]), ([18], [18]), ([19, 18], [18, 19]), ([20, 18], [18, 20]), ([21, 18, 18], [18, 21]), ([22, 18], [18, 22]), ([18, 23], [18, 23])])
def parser_top.B1 : List Nat := [0, 1, 3, 0, 8, 24, 56, 127, 255, 511, 1023, 511, 2559, 6655, 14847, 31231, 65535, 131071, 262143, 524287, 1048575, 2097151, 4194303, 8388607, 16777215]
theorem parser_top.tab1 : rtab .any (opsOf Tryz.f49 1) = parser_top.T1 := by kernel_rfl
theorem parser_top.bits1 : waitsOk parser_top.T1.2 parser_top.B1 = true := by kernel_rfl
def badTop (s : PS) (w0 : ByteArray) (rest : List ByteArray) : Bool := !(w0.toList == s.first.toList && decide ((rest.length : Int) + 1 = s.heads + 2) && (match rest with | w1 :: _ => nameOk w1 | [] => false))
set_option maxHeartbeats 8000000 in
set_option maxRecDepth 100000 in
theorem top_calls {w0 w : World} (hL : LaidW w0) (hB : Below w0.heap.size w0 w) (gp gw D : Nat) (hD : w0.heap.size ≤ gp) (s : PS) (lt : gp < D) (hs : w.heap[gp]? = some (.cells #[.bool s.code, .string s.first, .int .i64 s.heads, .string s.name, .slice none 0 0, .slice none 0 0] 63 (0, 0))) (hh : s.head = []) (hbk : s.blocks = []) (hhd : 1 ≤ s.heads ∧ s.heads ≤ 100) (hDw : D ≤ w.heap.size) (ws : List ByteArray) (hw : WordsAt gw 0 ws w) (h0 : ws ≠ []) (hwl : ws.length ≤ 95000) (hws : ∀ t ∈ ws, t.size ≤ 95000) :
 Calls Tryz.prog 49 #[.pointer (some ⟨gp, 0, none⟩), .slice (some ⟨gw, 0, none⟩) ws.length ws.length] w fun e w' => e = .returned (.int .i64 (topP s ws).1) ∧ ((topP s ws).1 = 0 → PsAt D gp (topP s ws).2 w') ∧ KeptD gp D w w' ∧ Below w0.heap.size w0 w' := by
 obtain ⟨w0d, rest, rfl⟩ : ∃ a l, ws = a :: l := by
  cases ws with
  | nil => exact absurd rfl h0
  | cons a l => exact ⟨a, l, rfl⟩
 have hx0 : w.cell? ⟨gw, 0, none⟩ = some (.string w0d) := WordsAt.cell hw (i := 0) (t := w0d) rfl
 have HLd := zA hL
 have HB := zA hB
 have HK := zA hs
 have HW := zA hw
 have HWs := zA hws
 have hlen : (w0d :: rest).length = rest.length + 1 := rfl
 rw [hlen] at hwl ⊢
 have z6 := bk6 hs
 clear hL hB hs hw hws hlen h0
 go_enter Tryz.func49, Tryz.ntmps49
 go_upto_region 1 with fail
 go_cut [33] (fun v33 wc => v33 = .bool (badTop s w0d rest) ∧ Aside0 (Below w.heap.size w wc))
 case first =>
  by_cases c1 : w0d.toList = s.first.toList
  case neg =>
   obtain ⟨c1a, c1b⟩ := qn c1
   have HD := zA (show badTop s w0d rest = true by unfold badTop; rw [c1a]; rfl)
   clear c1
   refine start_ (n := 25) (S := fun w' => w'.cell? ⟨gw, 0, none⟩ = some (.string w0d) ∧ w'.cell? ⟨gp, 1, none⟩ = some (.string s.first) ∧ w'.cell? ⟨gp, 2, none⟩ = some (.int .i64 s.heads)) (ds := []) (bA 25 0) (by kernel_rfl) rfl rfl ⟨hx0, z6.2.1, z6.2.2.1⟩ (fun hHeld => ?_); refine with_tabW parser_top.tab1 parser_top.bits1 (fun HT_ HW_ => ?_)
   have HBd := zA (below_drew (Below.refl w.heap.size w))
   generalize w.drew = w1 at HBd hHeld ⊢
   refine pu_ (i := 0) (N := some 9) (bA 25 1) ?_
   refine pu_ (i := 1) (N := some 10) (bA 25 3) ?_
   refine pu_ (i := 3) (N := some 12) (bA 25 11) ?_
   refine pu_ (i := 4) (N := some 13) (bA 25 27) ?_
   refine pu_ (i := 5) (N := some 14) (bA 25 59) ?_
   refine tk_ (i := 2) (N := some 11) (bA 25 63) ?_
   refine tk_ (i := 6) (N := some 15) (bA 25 127) ?_
   refine pu_ (i := 7) (N := some 16) (bA 25 255) ?_
   refine pu_ (i := 8) (N := some 17) (bA 25 511) ?_
   refine pu_ (i := 9) (N := some 18) (v := undef) (bA 25 1023) ?_ (hy := Or.inr ⟨by rfl, rfl⟩)
   refine pu_ (i := 10) (N := some 19) (v := undef) (bA 25 2047) ?_ (hy := Or.inr ⟨by rfl, rfl⟩)
   refine pu_ (i := 11) (N := some 20) (v := undef) (bA 25 4095) ?_ (hy := Or.inr ⟨by rfl, rfl⟩)
   refine pu_ (i := 12) (N := some 21) (v := undef) (bA 25 8191) ?_ (hy := Or.inr ⟨by rfl, rfl⟩)
   refine pu_ (i := 13) (N := some 22) (v := undef) (bA 25 16383) ?_ (hy := Or.inr ⟨by rfl, rfl⟩)
   refine pu_ (i := 14) (N := some 23) (v := undef) (bA 25 32767) ?_ (hy := Or.inr ⟨by rfl, rfl⟩)
   refine pu_ (i := 15) (N := some 24) (v := undef) (bA 25 65535) ?_ (hy := Or.inr ⟨by rfl, rfl⟩)
   refine pu_ (i := 16) (N := some 25) (v := undef) (bA 25 131071) ?_ (hy := Or.inr ⟨by rfl, rfl⟩)
   refine pu_ (i := 17) (N := some 26) (bA 25 262143) ?_
   refine pu_ (i := 18) (N := some 27) (bA 25 524287) ?_
   refine pu_ (i := 19) (N := some 28) (v := undef) (bA 25 1048575) ?_ (hy := Or.inr ⟨by rfl, rfl⟩)
   refine pu_ (i := 20) (N := some 29) (v := undef) (bA 25 2097151) ?_ (hy := Or.inr ⟨by rfl, rfl⟩)
   refine pu_ (i := 21) (N := some 30) (v := undef) (bA 25 4194303) ?_ (hy := Or.inr ⟨by rfl, rfl⟩)
   refine pu_ (i := 22) (N := some 31) (v := undef) (bA 25 8388607) ?_ (hy := Or.inr ⟨by rfl, rfl⟩)
   refine pu_ (i := 23) (N := some 32) (v := undef) (bA 25 16777215) ?_ (hy := Or.inr ⟨by rfl, rfl⟩)
   refine pu_ (i := 24) (N := some 33) (bA 25 33554431) ?_
   refine done_ (done_of HT_.out (by kernel_rfl)) ?_
   go_wp2_with fail
   go_meet
   case rel => exact ⟨by rw [HD.out], HBd⟩
  obtain ⟨c1a, c1b⟩ := qe c1
  by_cases c2 : (rest.length : Int) + 1 = s.heads + 2
  case neg =>
   obtain ⟨c2a, c2b⟩ := qn c2
   have HD := zA (show badTop s w0d rest = true by unfold badTop; rw [c1a, zG c2]; rfl)
   have hh3 : wrap64 (s.heads + 2) = s.heads + 2 := by unfold wrap64; omega
   clear c1 c2
   refine start_ (n := 25) (S := fun w' => w'.cell? ⟨gw, 0, none⟩ = some (.string w0d) ∧ w'.cell? ⟨gp, 1, none⟩ = some (.string s.first) ∧ w'.cell? ⟨gp, 2, none⟩ = some (.int .i64 s.heads)) (ds := []) (bA 25 0) (by kernel_rfl) rfl rfl ⟨hx0, z6.2.1, z6.2.2.1⟩ (fun hHeld => ?_); refine with_tabW parser_top.tab1 parser_top.bits1 (fun HT_ HW_ => ?_)
   have HBd := zA (below_drew (Below.refl w.heap.size w))
   generalize w.drew = w1 at HBd hHeld ⊢
   refine pu_ (i := 0) (N := some 9) (bA 25 1) ?_
   refine pu_ (i := 1) (N := some 10) (bA 25 3) ?_
   refine pu_ (i := 3) (N := some 12) (bA 25 11) ?_
   refine pu_ (i := 4) (N := some 13) (bA 25 27) ?_
   refine pu_ (i := 5) (N := some 14) (bA 25 59) ?_
   refine tk_ (i := 2) (N := some 11) (bA 25 63) ?_
   refine tk_ (i := 6) (N := some 15) (bA 25 127) ?_
   refine pu_ (i := 7) (N := some 16) (bA 25 255) ?_
   refine pu_ (i := 8) (N := some 17) (bA 25 511) ?_
   refine pu_ (i := 9) (N := some 18) (bA 25 1023) ?_
   refine pu_ (i := 10) (N := some 19) (bA 25 2047) ?_
   refine pu_ (i := 11) (N := some 20) (bA 25 4095) ?_
   refine pu_ (i := 12) (N := some 21) (bA 25 8191) ?_
   refine pu_ (i := 13) (N := some 22) (bA 25 16383) ?_
   refine tk_ (i := 14) (N := some 23) (bA 25 32767) ?_
   refine pu_ (i := 15) (N := some 24) (bA 25 65535) ?_
   refine pu_ (i := 16) (N := some 25) (bA 25 131071) ?_
   refine pu_ (i := 17) (N := some 26) (bA 25 262143) ?_
   refine pu_ (i := 18) (N := some 27) (bA 25 524287) ?_
   refine pu_ (i := 19) (N := some 28) (v := undef) (bA 25 1048575) ?_ (hy := Or.inr ⟨by rfl, rfl⟩)
   refine pu_ (i := 20) (N := some 29) (v := undef) (bA 25 2097151) ?_ (hy := Or.inr ⟨by rfl, rfl⟩)
   refine pu_ (i := 21) (N := some 30) (v := undef) (bA 25 4194303) ?_ (hy := Or.inr ⟨by rfl, rfl⟩)
   refine pu_ (i := 22) (N := some 31) (v := undef) (bA 25 8388607) ?_ (hy := Or.inr ⟨by rfl, rfl⟩)
   refine pu_ (i := 23) (N := some 32) (v := undef) (bA 25 16777215) ?_ (hy := Or.inr ⟨by rfl, rfl⟩)
   refine pu_ (i := 24) (N := some 33) (bA 25 33554431) ?_
   refine done_ (done_of HT_.out (by kernel_rfl)) ?_
   go_wp2_with fail
   go_meet
   case rel => exact ⟨by rw [HD.out], HBd⟩
  obtain ⟨w1d, r, rfl⟩ : ∃ w1d r, rest = w1d :: r := by
   cases rest with
   | nil => exact absurd c2 (by simp; omega)
   | cons a l => exact ⟨a, l, rfl⟩
  have hx1 : w.cell? ⟨gw, 1, none⟩ = some (.string w1d) := WordsAt.cell HW.out (i := 1) (t := w1d) rfl
  rw [List.length_cons] at *
  obtain ⟨b, hb⟩ : ∃ b, b = nameOk w1d := ⟨_, rfl⟩
  have HNm := zA (show ir_Name.f w1d = some b by rw [name_eq, hb])
  have HD := zA (show badTop s w0d (w1d :: r) = !b by unfold badTop; rw [c1a, zF (by rw [List.length_cons]; omega), hb]; rfl)
  clear hb
  obtain ⟨c2a, c2b⟩ := qe (show (r.length : Int) + 1 + 1 = s.heads + 2 by simpa using c2)
  have hh3 : wrap64 (s.heads + 2) = s.heads + 2 := by unfold wrap64; omega
  have hr1 := eq_true (show (1 : Int) < (r.length : Int) + 1 + 1 by omega)
  have hr0 := eq_true (show (0 : Int) < (r.length : Int) + 1 + 1 by omega)
  clear c1 c2
  refine start_ (n := 25) (S := fun w' => w'.cell? ⟨gw, 0, none⟩ = some (.string w0d) ∧ w'.cell? ⟨gp, 1, none⟩ = some (.string s.first) ∧ w'.cell? ⟨gp, 2, none⟩ = some (.int .i64 s.heads) ∧ w'.cell? ⟨gw, 1, none⟩ = some (.string w1d)) (ds := []) (bA 25 0) (by kernel_rfl) rfl rfl ⟨hx0, z6.2.1, z6.2.2.1, hx1⟩ (fun hHeld => ?_); refine with_tabW parser_top.tab1 parser_top.bits1 (fun HT_ HW_ => ?_)
  have HBd := zA (below_drew (Below.refl w.heap.size w))
  generalize w.drew = w1 at HBd hHeld ⊢
  refine pu_ (i := 0) (N := some 9) (bA 25 1) ?_
  refine pu_ (i := 1) (N := some 10) (bA 25 3) ?_
  refine pu_ (i := 3) (N := some 12) (bA 25 11) ?_
  refine pu_ (i := 4) (N := some 13) (bA 25 27) ?_
  refine pu_ (i := 5) (N := some 14) (bA 25 59) ?_
  refine tk_ (i := 2) (N := some 11) (bA 25 63) ?_
  refine tk_ (i := 6) (N := some 15) (bA 25 127) ?_
  refine pu_ (i := 7) (N := some 16) (bA 25 255) ?_
  refine pu_ (i := 8) (N := some 17) (bA 25 511) ?_
  refine pu_ (i := 9) (N := some 18) (bA 25 1023) ?_
  refine pu_ (i := 10) (N := some 19) (bA 25 2047) ?_
  refine pu_ (i := 11) (N := some 20) (bA 25 4095) ?_
  refine pu_ (i := 12) (N := some 21) (bA 25 8191) ?_
  refine pu_ (i := 13) (N := some 22) (bA 25 16383) ?_
  refine tk_ (i := 14) (N := some 23) (bA 25 32767) ?_
  refine pu_ (i := 15) (N := some 24) (bA 25 65535) ?_
  refine pu_ (i := 16) (N := some 25) (bA 25 131071) ?_
  refine pu_ (i := 17) (N := some 26) (bA 25 262143) ?_
  refine pu_ (i := 18) (N := some 27) (bA 25 524287) ?_
  refine pu_ (i := 19) (N := some 28) (bA 25 1048575) ?_
  refine pu_ (i := 20) (N := some 29) (bA 25 2097151) ?_
  refine tk_ (i := 21) (N := some 30) (bA 25 4194303) ?_
  refine one_ (i := 22) (N := some 31) (bA 25 8388607) rfl rfl (one_of HT_.out (by kernel_rfl)) (by decide) (fun K hK => ?_)
  refine goes_ Tryz.func30 (by kernel_rfl) rfl #[.string w1d] (by rfl) rfl rfl qL ?_
  refine (ir_Name.calls w1d b _ HNm.out).mono ?_
  rintro e w2 ⟨rfl, hb⟩
  refine ⟨_, rfl, ?_⟩
  have HB2 := zA (below_step HBd.out hb)
  have hh2 : w2.cell? ⟨gw, 0, none⟩ = some (.string w0d) ∧ w2.cell? ⟨gp, 1, none⟩ = some (.string s.first) ∧ w2.cell? ⟨gp, 2, none⟩ = some (.int .i64 s.heads) ∧ w2.cell? ⟨gw, 1, none⟩ = some (.string w1d) := ⟨(hb.cell (zE _ _ hHeld.1)).trans hHeld.1, (hb.cell (zE _ _ hHeld.2.1)).trans hHeld.2.1, (hb.cell (zE _ _ hHeld.2.2.1)).trans hHeld.2.2.1, (hb.cell (zE _ _ hHeld.2.2.2)).trans hHeld.2.2.2⟩
  clear hb hHeld
  refine hK.out _ _ hh2 (fun hHeld => ?_)
  clear hK K hh2
  refine norm_ (a' := ?_) ?_ ?_
  rotate_left
  ·show Act.put _ (some 31) _ = _
   simp only [Act.put, List.setIfInBounds_toArray, List.set_cons_zero, List.set_cons_succ, i64_w, i32_w]
   rfl
  refine pu_ (i := 23) (N := some 32) (bA 25 16777215) ?_
  refine pu_ (i := 24) (N := some 33) (bA 25 33554431) ?_
  refine done_ (done_of HT_.out (by kernel_rfl)) ?_
  go_wp2_with fail
  go_meet
  case rel => exact ⟨by rw [HD.out], HB2⟩
 case rest =>
  obtain ⟨rfl, HBc⟩ := hcut
  have HKc := zA (blk_below HK.out HBc.out)
  have HWc := zA (WordsAt.low HW.out (by obtain ⟨_, hk, _⟩ := HW.out; exact blk_lt hk) HBc.out)
  clear z6 hx0
  by_cases c1 : badTop s w0d rest = true
  ·have hR : topP s (w0d :: rest) = (80, s) := by
    unfold badTop at c1
    cases rest with
    | nil => rfl
    | cons w1d r =>
     unfold topP
     dsimp only
     rw [zD]
     rintro ⟨h1, h2, h3⟩
     have e2 : decide ((((w1d :: r).length : Nat) : Int) + 1 = s.heads + 2) = true := zF (by rw [List.length_cons]; omega)
     dsimp only at c1
     rw [h1, e2, h3] at c1
     simp at c1
   have HR := zA hR
   clear hR
   rw [c1]
   clear c1
   go_wp2_with fail
   go_ret
   exact ⟨by rw [HR.out]; rfl, fun h => by rw [HR.out] at h; exact absurd (show (80 : Int) = 0 from h) (by decide), KeptD.of_below HBc.out hDw, below_step HB.out HBc.out⟩
  have c2 : badTop s w0d rest = false := by simpa using c1
  rw [c2]
  have hc : w0d.toList = s.first.toList ∧ (rest.length : Int) + 1 = s.heads + 2 ∧ ∃ w1d r, rest = w1d :: r ∧ nameOk w1d = true := by
   unfold badTop at c2
   simp only [Bool.not_eq_false', Bool.and_eq_true, beq_iff_eq, decide_eq_true_eq] at c2
   obtain ⟨⟨h1, h2⟩, h3⟩ := c2
   refine ⟨h1, h2, ?_⟩
   cases rest with
   | nil => cases h3
   | cons a l => exact ⟨a, l, rfl, h3⟩
  obtain ⟨h1, h2, w1d, r, rfl, h3⟩ := hc
  have HR : Aside0 (topP s (w0d :: w1d :: r) = match r.mapM numOf with | some l => (0, { s with name := w1d, head := l }) | none => (81, s)) := ⟨by
   unfold topP
   dsimp only
   rw [zC ⟨h1, by rw [List.length_cons] at h2; omega, h3⟩]⟩
  have hr1 : 1 ≤ r.length := by rw [List.length_cons] at h2; omega
  clear h1 h2 h3 c1 c2
  rw [List.length_cons] at *
  have hx1 : wc.cell? ⟨gw, 1, none⟩ = some (.string w1d) := WordsAt.cell HWc.out (i := 1) (t := w1d) rfl
  have HW2 := zA (WordsAt.tail (WordsAt.tail HWc.out))
  have z6 := bk6 HKc.out
  have hrz : (r.length = 0) = False := eq_false (by omega)
  have hr2 := eq_true (show (2 : Int) ≤ (r.length : Int) + 1 + 1 by omega)
  have hr3 := eq_true (show (1 : Int) < (r.length : Int) + 1 + 1 by omega)
  go_wp2_with fail
  have HK1 := zA (show (wc.setCell ⟨gp, 3, none⟩ (.string w1d)).heap[gp]? = some (.cells #[.bool s.code, .string s.first, .int .i64 s.heads, .string w1d, .slice none 0 0, .slice none 0 0] 63 (0, 0)) from blk_put HKc.out 3 _ rfl)
  have HKp := zA ((KeptD.of_below (gp := gp) HBc.out hDw).set 3 (.string w1d))
  have HB1 := zA ((below_step HB.out HBc.out).setCell (p := ⟨gp, 3, none⟩) hD (.string w1d))
  have HWr := zA (show WordsAt gw 2 r (wc.setCell ⟨gp, 3, none⟩ (.string w1d)) by
   obtain ⟨cs, hk, hcs⟩ := HW2.out
   refine ⟨cs, (heap_setCell_other _ _ _ _ (fun e => ?_)).trans hk, hcs⟩
   subst e
   have := HKc.out.symm.trans hk
   simp at this)
  have hDc : D ≤ (wc.setCell ⟨gp, 3, none⟩ (.string w1d)).heap.size := Nat.le_trans hDw HKp.out.1
  generalize wc.setCell ⟨gp, 3, none⟩ (.string w1d) = w4 at HK1 HKp HB1 HWr hDc ⊢
  have HGw := zA (show ∃ cs : Array Value, w4.heap[gw]? = some (.cells cs 9 (0, 0)) ∧ ∀ (i : Nat) t, r[i]? = some t → cs[2 + i]? = some (.string t) from HWr.out)
  clear z6 hx1 hrz hr2 hr3 HKc HWc HW2 HBc
  go_loopg [43] r.length (fun kq v43 w' => ∃ (j : Nat) (l : List Int) (vh : Value), v43 = .int .i64 (j : Int) ∧ Aside0 (kq + j = r.length) ∧ Aside0 (w'.heap[gp]? = some (.cells #[.bool s.code, .string s.first, .int .i64 s.heads, .string w1d, vh, .slice none 0 0] 63 (0, 0))) ∧ Aside0 (Kd.R (Kd.int .i64) 3 w' D (fun _ => True) vh l) ∧ Aside0 (WordsAt gw 2 r w') ∧ Aside0 (KeptD gp D w w') ∧ Aside0 (Below w0.heap.size w0 w') ∧ Aside0 (r.mapM numOf = ((r.drop j).mapM numOf).map (l ++ ·)) ∧ Aside0 (l.length = j))
  case atStart => exact ⟨0, [], .slice none 0 0, by first | rfl | simp, ⟨by omega⟩, HK1, ⟨Kd.R_nil _ _ _ _ _⟩, HWr, HKp, HB1, ⟨by simp⟩, ⟨rfl⟩⟩
  case round =>
   clear HK1 HKp HB1 HWr HGw
   obtain ⟨j, l, vh, rfl, HJ, HK1, HRw, HWr, HKp, HB1, HM, HL⟩ := hrel
   have hDr : D ≤ wr.heap.size := Nat.le_trans hDw HKp.out.1
   cases gk with
   | zero =>
    have hj : j = r.length := by have := HJ.out; omega
    have d1b := zG (show ¬ ((j : Int) < (r.length : Int)) by omega)
    have d1c := zG (show ¬ (j < r.length) by omega)
    have HR2 := zA (show topP s (w0d :: w1d :: r) = (0, { s with name := w1d, head := l }) from by
     rw [HR.out, HM.out, hj, List.drop_length]
     simp)
    go_wp2_with fail
    go_ret
    refine ⟨by rw [HR2.out]; rfl, fun _ => ?_, HKp.out, HB1.out⟩
    rw [HR2.out]
    exact ⟨lt, vh, .slice none 0 0, HK1.out, HRw.out, by show Kd.S _ _ _ _ _ _ s.blocks; rw [hbk]; exact Kd.S_nil _ _ _ _ _⟩
   | succ k2 =>
    have hj : j < r.length := by have := HJ.out; omega
    have d1b := zF (show ((j : Int) < (r.length : Int)) by omega)
    have d1c := zF hj
    obtain ⟨t, ht⟩ : ∃ t, r[j]? = some t := ⟨_, List.getElem?_eq_getElem hj⟩
    have hts := HWs.out t (List.mem_cons_of_mem _ (List.mem_cons_of_mem _ (List.mem_of_getElem? ht)))
    have hx1 := WordsAt.cell HWr.out ht
    have HMM := zA (HM.out.trans (congrArg (Option.map (l ++ ·)) (mapM_at ht)))
    have HLr := zA (HLd.out.below HB1.out)
    clear ht
    cases hnm : numOf t with
    | none =>
     have HNm := zA hnm
     have HR1 := zA (show topP s (w0d :: w1d :: r) = (81, s) by rw [HR.out, HMM.out, hnm]; rfl)
     clear hnm
     go_wp2_with (go_at_call 64; refine (textnumber_calls t wr HLr.out (by omega)).mono ?_; rintro e w5 ⟨n, rfl, _, hb⟩; rw [HNm.out]; have HB5 := zA hb; clear hb hx1)
     go_ret
     exact ⟨by rw [HR1.out]; rfl, fun h => by rw [HR1.out] at h; exact absurd (show (81 : Int) = 0 from h) (by decide), HKp.out.trans (KeptD.of_below HB5.out hDr), below_step HB1.out HB5.out⟩
    | some v =>
     have HNm := zA hnm
     have HM2 : Aside0 (r.mapM numOf = ((r.drop (j + 1)).mapM numOf).map ((l ++ [v]) ++ ·)) := ⟨by
      rw [HMM.out, hnm]
      cases (r.drop (j + 1)).mapM numOf <;> simp⟩
     clear hnm
     have hll : l.length ≤ 95000 := by have := HL.out; omega
     have HE := zA (show (l ++ [v]).length = l.length + 1 from by simp)
     go_wp2_with (first
      | (go_at_call 64; refine (textnumber_calls t wr HLr.out (by omega)).mono ?_; rintro e w5 ⟨n, rfl, hv, hb⟩; obtain rfl := hv v HNm.out; rw [HNm.out]; have HB5 := zA hb; have hk5 := blk_below HK1.out hb; have z5 := bk6 hk5; have HK5 := zA hk5; have HR5 := zA (Kd.R_below HRw.out hb); clear hb hx1 hk5 hv)
      | ((with_reducible refine gate_builtin (b := .append) (xs := #[.tmp 58, .tmp 60]) rfl ?_); at_builtin; (refine Kd.R_append (Kd.int .i64) (w0 := w5) D rfl (.tmp 58) (.tmp 60) 42 3 (.int .i64 0) 8 rfl Tryz.underlying42 info3 rfl (by decide) (by omega) vh l n [.int .i64 n] (fun _ => True) (fun _ => False) rfl rfl ?aP (fun _ hk => hk.elim) ?aF ?aO ?aB ?aS ?aL ?_; (case aP => exact rfl); (case aF => exact fun _ _ => trivial); (case aO => exact HR5.out); (case aB => exact Below.refl _ _); (case aS => exact Nat.le_trans hDr HB5.out.size); (case aL => omega); intro v1 w6 ho3 hb3 hg3 _; obtain ⟨A1, c1, rfl⟩ := Kd.R_slice ho3; rw [HE.out] at ho3; have hk6 := (hb3.block gp lt).trans HK5.out; have z6 := bk6 hk6; have HK6 := zA hk6; have HR6 := zA ho3; have HB6 := zA hb3; have HW6 := zA (show WordsAt gw 2 r w6 by obtain ⟨cs, hk, hcs⟩ := HWr.out; exact ⟨cs, (hg3.block gw (blk_lt (blk_below hk HB5.out)) (fun e => by obtain ⟨c2, h2⟩ := Kd.R_typed HR5.out gw e.symm; have := (blk_below hk HB5.out).symm.trans h2; simp at this)).trans (blk_below hk HB5.out), hcs⟩); clear ho3 hb3 hg3 z5 hk6)))
     have HNe := zA (show gw ≠ gp by intro e; subst e; obtain ⟨cs, hk, _⟩ := HW6.out; have := HK6.out.symm.trans hk; simp at this)
     go_roundg k2
     case measure => have := HJ.out; omega
     case rel => exact ⟨j + 1, l ++ [n], _, by go_num, ⟨by have := HJ.out; omega⟩, ⟨blk_put HK6.out 4 _ rfl⟩, ⟨Kd.R_set HR6.out HK6.out (by decide) 4 _⟩, ⟨by obtain ⟨cs, hk, hcs⟩ := HW6.out; exact ⟨cs, (heap_setCell_other _ _ _ _ HNe.out).trans hk, hcs⟩⟩, ⟨((HKp.out.trans (KeptD.of_below HB5.out hDr)).trans (KeptD.of_below HB6.out (Nat.le_refl D))).set 4 _⟩, ⟨((below_step HB1.out HB5.out).trans (HB6.out.mono (Nat.le_trans hD (Nat.le_of_lt lt)))).setCell (p := ⟨gp, 4, none⟩) hD _⟩, HM2, ⟨by rw [List.length_append, HL.out]; rfl⟩⟩
end Go.Proofs.YtniknpjeknmpjaaGreatDoor.Q
namespace Go.Proofs.YtniknpjeknmpjaaGreatDoor.Q
open Go.RowKit Go.Shelf Go.Proofs.YtniknpjeknmpjaaGreatDoor.Plain Go.Proofs.YtniknpjeknmpjaaGreatDoor.PlainName Go.Proofs.YtniknpjeknmpjaaGreatDoorW.PrintWords Go.Proofs.YtniknpjeknmpjaaGreatDoorW.PrintLast Go.Proofs.YtniknpjeknmpjaaGreatDoorW.PrintMore
set_option linter.unusedVariables false
set_option linter.unusedSimpArgs false
attribute [local go_sem] Oper.semAt_some
def wholeB (l : ByteArray) : Bool := Lib.hasSuffix l.data.toList [10]
def trimB (l : ByteArray) : ByteArray := ⟨(Lib.trimSuffix l.data.toList [10]).toArray⟩
def stepP (n : Nat) (st : PS) (l : ByteArray) : Int × PS := if wholeB l = false then (80, st) else if n = 0 then topP st (wordsOf (trimB l)) else lineP st (wordsOf (trimB l))
def parseR : Nat → Nat → PS → ByteArray → Int × Int × PS
 | 0, _, st, _ => (0, 0, st)
 | k + 1, n, st, s => if s.size = 0 then (0, 0, st) else
  if (stepP n st (cutB s).1).1 = 0 then parseR k (n + 1) (stepP n st (cutB s).1).2 (cutB s).2 else ((n + 1 : Nat), (stepP n st (cutB s).1).1, st)
def TakenAt (D gp n : Nat) (st : PS) (W : World) : Prop :=
 if n = 0 then gp < D ∧ W.heap[gp]? = some (.cells #[.bool st.code, .string st.first, .int .i64 st.heads, .string st.name, .slice none 0 0, .slice none 0 0] 63 (0, 0)) ∧ st.head = [] ∧ st.blocks = [] else PsAt D gp st W
structure PB (gp g2 g4 g5 g6 B D : Nat) (w0 : World) (c n : Nat) (st : PS) (sB : ByteArray) (W : World) : Prop where
 b2 : W.heap[g2]? = some (.cells #[.pointer (some ⟨gp, 0, none⟩)] 61 (0, 0))
 b4 : W.heap[g4]? = some (.cells #[.int .i64 0] 3 (0, 0))
 b5 : W.heap[g5]? = some (.cells #[.int .i64 0] 26 (0, 0))
 b6 : W.heap[g6]? = some (.cells #[.int .i64 (c : Int)] 3 (0, 0))
 bB : W.heap[B]? = some (.cells #[.string sB] 9 (0, 0))
 tk : TakenAt D gp n st W
 hD : D ≤ W.heap.size
 bl : Below w0.heap.size w0 W
 hh : 1 ≤ st.heads ∧ st.heads ≤ 100
 hb : st.blocks.length ≤ n
 hbb : ∀ b ∈ st.blocks, b.length ≤ n
structure Ord (gp g2 g4 g5 g6 B D : Nat) (w0 : World) : Prop where
 o0 : w0.heap.size ≤ gp
 o1 : gp < g2
 o2 : g2 < g4
 o3 : g4 < g5
 o4 : g5 < g6
 o5 : g6 < B
 o6 : B + 1 < D
theorem TakenAt.move {D gp n : Nat} {st : PS} {W W' : World} (h : TakenAt D gp n st W) (hsz : W.heap.size ≤ W'.heap.size) (hm : ∀ k, k = gp ∨ D ≤ k → k < W.heap.size → W'.heap[k]? = W.heap[k]?) : TakenAt D gp n st W' := by
 unfold TakenAt at *
 split at h
 ·next h0 => rw [zC h0]; exact ⟨h.1, (hm gp (.inl rfl) (blk_lt h.2.1)).trans h.2.1, h.2.2⟩
 ·next h0 =>
  rw [zD h0]
  obtain ⟨lt, vh, vb, hk, hr, hs⟩ := h
  exact ⟨lt, vh, vb, (hm gp (.inl rfl) (blk_lt hk)).trans hk, Kd.R_mono (Kd.R_step (Kd.R_bound hr) (fun k hk hl => hm k (.inr hk.2.1) hl)) (fun k hk => hk.1), Kd.S_mono (Kd.S_step (Kd.S_bound hs) (fun k hk hl => hm k (.inr hk.2.1) hl)) (fun k hk => hk.1)⟩
section
variable {gp g2 g4 g5 g6 B D c n : Nat} {w0 W W' : World} {st : PS} {sB : ByteArray}
theorem PB.put (h : PB gp g2 g4 g5 g6 B D w0 c n st sB W) (ho : Ord gp g2 g4 g5 g6 B D w0) {j : Nat} {o : Obj} (h1 : B < j) (h2 : j < D) : PB gp g2 g4 g5 g6 B D w0 c n st sB (W.putObj j o) := by
 have hne : ∀ k, k ≠ j → (W.putObj j o).heap[k]? = W.heap[k]? := fun k hk => World.putObj_heap_other hk
 have := ho.o1; have := ho.o2; have := ho.o3; have := ho.o4; have := ho.o5; have := ho.o0
 have hsz : (W.putObj j o).heap.size = W.heap.size := by simp [World.putObj]
 exact ⟨(hne _ (by omega)).trans h.b2, (hne _ (by omega)).trans h.b4, (hne _ (by omega)).trans h.b5, (hne _ (by omega)).trans h.b6, (hne _ (by omega)).trans h.bB, h.tk.move (Nat.le_of_eq hsz.symm) (fun k hk _ => hne k (by omega)), by rw [hsz]; exact h.hD,
  h.bl.trans ((Below.refl _ W).grown (grownBy_putObj' W j o) h.bl.size (fun k e => by cases e; omega)), h.hh, h.hb, h.hbb⟩
theorem PB.drew (h : PB gp g2 g4 g5 g6 B D w0 c n st sB W) : PB gp g2 g4 g5 g6 B D w0 c n st sB W.drew :=
 ⟨h.b2, h.b4, h.b5, h.b6, h.bB, h.tk.move (Nat.le_refl _) (fun _ _ _ => rfl), h.hD, below_drew h.bl, h.hh, h.hb, h.hbb⟩
theorem PB.setB (h : PB gp g2 g4 g5 g6 B D w0 c n st sB W) (ho : Ord gp g2 g4 g5 g6 B D w0) (s' : ByteArray) : PB gp g2 g4 g5 g6 B D w0 c n st s' (W.setCell ⟨B, 0, none⟩ (.string s')) := by
 have hne : ∀ k, k ≠ B → (W.setCell ⟨B, 0, none⟩ (.string s')).heap[k]? = W.heap[k]? := fun k hk => heap_setCell_other _ _ _ _ hk
 have := ho.o1; have := ho.o2; have := ho.o3; have := ho.o4; have := ho.o5; have := ho.o0; have := ho.o6
 have hsz : (W.setCell ⟨B, 0, none⟩ (.string s')).heap.size = W.heap.size := by simp [World.setCell]
 exact ⟨(hne _ (by omega)).trans h.b2, (hne _ (by omega)).trans h.b4, (hne _ (by omega)).trans h.b5, (hne _ (by omega)).trans h.b6, blk_put h.bB 0 _ rfl, h.tk.move (Nat.le_of_eq hsz.symm) (fun k hk _ => hne k (by omega)), by rw [hsz]; exact h.hD, h.bl.setCell (p := ⟨B, 0, none⟩) (by show _ ≤ B; omega) _, h.hh, h.hb, h.hbb⟩
theorem PB.below (h : PB gp g2 g4 g5 g6 B D w0 c n st sB W) (hb : Below W.heap.size W W') : PB gp g2 g4 g5 g6 B D w0 c n st sB W' :=
 ⟨blk_below h.b2 hb, blk_below h.b4 hb, blk_below h.b5 hb, blk_below h.b6 hb, blk_below h.bB hb, h.tk.move hb.size (fun k _ hl => hb.block k hl), Nat.le_trans h.hD hb.size, below_step h.bl hb, h.hh, h.hb, h.hbb⟩
theorem PB.inc (h : PB gp g2 g4 g5 g6 B D w0 c n st sB W) (ho : Ord gp g2 g4 g5 g6 B D w0) (c' : Nat) (x : Int) (hx : x = (c' : Int)) : PB gp g2 g4 g5 g6 B D w0 c' n st sB (W.setCell ⟨g6, 0, none⟩ (.int .i64 x)) := by
 subst hx
 have hne : ∀ k, k ≠ g6 → (W.setCell ⟨g6, 0, none⟩ (.int .i64 (c' : Int))).heap[k]? = W.heap[k]? := fun k hk => heap_setCell_other _ _ _ _ hk
 have := ho.o1; have := ho.o2; have := ho.o3; have := ho.o4; have := ho.o5; have := ho.o0; have := ho.o6
 have hsz : (W.setCell ⟨g6, 0, none⟩ (.int .i64 (c' : Int))).heap.size = W.heap.size := by simp [World.setCell]
 exact ⟨(hne _ (by omega)).trans h.b2, (hne _ (by omega)).trans h.b4, (hne _ (by omega)).trans h.b5, blk_put h.b6 0 _ rfl, (hne _ (by omega)).trans h.bB, h.tk.move (Nat.le_of_eq hsz.symm) (fun k hk _ => hne k (by omega)), by rw [hsz]; exact h.hD, h.bl.setCell (p := ⟨g6, 0, none⟩) (by show _ ≤ g6; omega) _, h.hh, h.hb, h.hbb⟩
theorem PB.took (h : PB gp g2 g4 g5 g6 B D w0 c n st sB W) (ho : Ord gp g2 g4 g5 g6 B D w0) {st2 : PS} (hk : KeptD gp D W W') (hbl : Below w0.heap.size w0 W') (hp : PsAt D gp st2 W') (k1 : st2.heads = st.heads) (k2 : st2.blocks.length ≤ n + 1) (k3 : ∀ b ∈ st2.blocks, b.length ≤ n + 1) : PB gp g2 g4 g5 g6 B D w0 c (n + 1) st2 sB W' := by
 have := ho.o1; have := ho.o2; have := ho.o3; have := ho.o4; have := ho.o5; have := ho.o0; have := ho.o6
 have mv : ∀ {k : Nat} {o : Obj}, k < D → k ≠ gp → W.heap[k]? = some o → W'.heap[k]? = some o := fun h1 h2 h3 => (hk.2 _ h1 h2 (blk_lt h3)).trans h3
 exact ⟨mv (by omega) (by omega) h.b2, mv (by omega) (by omega) h.b4, mv (by omega) (by omega) h.b5, mv (by omega) (by omega) h.b6, mv (by omega) (by omega) h.bB, by unfold TakenAt; rw [zD (Nat.succ_ne_zero n)]; exact hp, Nat.le_trans h.hD hk.1, hbl, by rw [k1]; exact h.hh, k2, k3⟩
theorem PB.stop (b4 : W.heap[g4]? = some (.cells #[.int .i64 0] 3 (0, 0))) (b5 : W.heap[g5]? = some (.cells #[.int .i64 0] 26 (0, 0))) (hbl : Below w0.heap.size w0 W) (ho : Ord gp g2 g4 g5 g6 B D w0) (x y : Int) :
 ((W.setCell ⟨g4, 0, none⟩ (.int .i64 x)).setCell ⟨g5, 0, none⟩ (.int .i64 y)).heap[g4]? = some (.cells #[.int .i64 x] 3 (0, 0)) ∧ ((W.setCell ⟨g4, 0, none⟩ (.int .i64 x)).setCell ⟨g5, 0, none⟩ (.int .i64 y)).heap[g5]? = some (.cells #[.int .i64 y] 26 (0, 0)) ∧ Below w0.heap.size w0 ((W.setCell ⟨g4, 0, none⟩ (.int .i64 x)).setCell ⟨g5, 0, none⟩ (.int .i64 y)) ∧ ∀ k, k ≠ g4 → k ≠ g5 → ((W.setCell ⟨g4, 0, none⟩ (.int .i64 x)).setCell ⟨g5, 0, none⟩ (.int .i64 y)).heap[k]? = W.heap[k]? := by
 have := ho.o1; have := ho.o2; have := ho.o3; have := ho.o0
 refine ⟨(heap_setCell_other _ _ _ _ (by show g4 ≠ g5; omega)).trans (blk_put b4 0 _ rfl), ?_, ?_, fun k h1 h2 => (heap_setCell_other _ _ _ _ h2).trans (heap_setCell_other _ _ _ _ h1)⟩
 ·exact blk_put (cs := #[.int .i64 0]) ((heap_setCell_other W ⟨g4, 0, none⟩ _ _ (by show g5 ≠ g4; omega)).trans b5) 0 _ rfl
 ·exact (hbl.setCell (p := ⟨g4, 0, none⟩) (by show _ ≤ g4; omega) _).setCell (p := ⟨g5, 0, none⟩) (by show _ ≤ g5; omega) _
theorem PB.ps (h : PB gp g2 g4 g5 g6 B D w0 c n st sB W) (hn : n ≠ 0) : PsAt D gp st W := by have := h.tk; unfold TakenAt at this; rwa [zD hn] at this
theorem PB.fresh (h : PB gp g2 g4 g5 g6 B D w0 c n st sB W) (hn : n = 0) : gp < D ∧ W.heap[gp]? = some (.cells #[.bool st.code, .string st.first, .int .i64 st.heads, .string st.name, .slice none 0 0, .slice none 0 0] 63 (0, 0)) ∧ st.head = [] ∧ st.blocks = [] := by have := h.tk; unfold TakenAt at this; rwa [zC hn] at this
end
theorem PsAt.move {D gp : Nat} {st : PS} {W W' : World} (h : PsAt D gp st W) (hm : ∀ k, k = gp ∨ D ≤ k → k < W.heap.size → W'.heap[k]? = W.heap[k]?) : PsAt D gp st W' := by
 obtain ⟨lt, vh, vb, hk, hr, hs⟩ := h
 exact ⟨lt, vh, vb, (hm gp (.inl rfl) (blk_lt hk)).trans hk, Kd.R_mono (Kd.R_step (Kd.R_bound hr) (fun k hk hl => hm k (.inr hk.2.1) hl)) (fun k hk => hk.1), Kd.S_mono (Kd.S_step (Kd.S_bound hs) (fun k hk hl => hm k (.inr hk.2.1) hl)) (fun k hk => hk.1)⟩
theorem cut_at (l : ByteArray) (w : World) (h : l.size ≤ 90000) : Calls Tryz.prog 47 #[.string l, .string ⟨#[10]⟩] w fun e w' => e = .returned (.tuple #[.string (trimB l), .bool (wholeB l)]) ∧ w' = w := Any.strings_CutSuffix Tryz.lays104 l ⟨#[10]⟩ w (by omega)
theorem trimB_le (l : ByteArray) : (trimB l).size ≤ l.size := by
 have h : (trimB l).data.toList.length ≤ l.data.toList.length := by
  show (Lib.trimSuffix l.data.toList [10]).toArray.toList.length ≤ _
  unfold Lib.trimSuffix
  split
  ·simp
  ·simp
 simpa using h
theorem cutB_le (s : ByteArray) : (cutB s).1.size ≤ s.size := by
 unfold cutB
 split
 ·simp only [ByteArray.size_extract]; omega
 ·exact Nat.le_refl _
theorem wordsOf_ne (s : ByteArray) : wordsOf s ≠ [] := fun h => by have := wordsOf_len s; rw [h] at this; cases this
theorem splitB_lenle (s : ByteArray) : (wordsOf s).length ≤ s.size + 1 := by
 rw [wordsOf_len]
 exact Nat.succ_le_succ (Lib.countB_le blank1 (by decide) s.size s (Nat.le_refl _))
def parseAll (st : PS) (s : ByteArray) : Int × Int × PS := if s.size = 0 then (1, 80, st) else parseR (s.size + 1) 0 st s
set_option maxHeartbeats 1000000 in
theorem lines_calls (s : ByteArray) (w : World) : Calls Tryz.prog 46 #[.string s] w fun e w' => e = .returned (.func (.func 60) #[] #[.pointer (some ⟨w.heap.size, 0, none⟩)]) ∧ w' = w.alloc (.cells #[.string s] 9 (0, 0)) := by
 have hmf : ∀ (fn : Fn) (first cap : Array Value) (w : World), (Instr.makeFunc fn first cap).run Tryz.prog w = .ok (.func fn first cap) w := fun _ _ _ _ => rfl
 go_enter Tryz.func46, Tryz.ntmps46
 go_wp2
 go_ret
 exact ⟨rfl, rfl⟩
theorem parse_results {tmps : Array Value} {g4 g5 : Nat} {x y : Int} {W : World} (h4 : tmps[4]? = some (.pointer (some ⟨g4, 0, none⟩))) (h5 : tmps[5]? = some (.pointer (some ⟨g5, 0, none⟩))) (c4 : W.heap[g4]? = some (.cells #[.int .i64 x] 3 (0, 0))) (c5 : W.heap[g5]? = some (.cells #[.int .i64 y] 26 (0, 0))) :
 (results Tryz.f25 tmps).run Tryz.prog W = .ok (.tuple #[.int .i64 x, .int .i64 y]) W := by
 have l4 : W.cell? ⟨g4, 0, none⟩ = some (.int .i64 x) := blk_cell c4 0
 have l5 : W.cell? ⟨g5, 0, none⟩ = some (.int .i64 y) := blk_cell c5 0
 simp [results, Tryz.f25, go_sem, h4, h5, l4, l5]
theorem topP_keep (s : PS) (ws : List ByteArray) : (topP s ws).2.heads = s.heads ∧ (topP s ws).2.blocks = s.blocks := by
 unfold topP
 repeat' split
 all_goals exact ⟨rfl, rfl⟩
theorem lineP_keep (s : PS) (ws : List ByteArray) {n : Nat} (hb : s.blocks.length ≤ n) (hbb : ∀ b ∈ s.blocks, b.length ≤ n) : (lineP s ws).2.heads = s.heads ∧ (lineP s ws).2.blocks.length ≤ n + 1 ∧ ∀ b ∈ (lineP s ws).2.blocks, b.length ≤ n + 1 := by
 have same : s.heads = s.heads ∧ s.blocks.length ≤ n + 1 ∧ ∀ b ∈ s.blocks, b.length ≤ n + 1 := ⟨rfl, by omega, fun b h => by have := hbb b h; omega⟩
 unfold lineP
 split
 ·exact same
 ·split
  ·refine ⟨rfl, by simp; omega, fun b h => ?_⟩
   rcases List.mem_append.1 h with h | h
   ·exact same.2.2 b h
   ·rw [List.mem_singleton.1 h]; simp
  ·split
   ·exact same
   ·split
    ·exact same
    ·split
     ·exact same
     ·split
      ·refine ⟨rfl, by simp; omega, fun b h => ?_⟩
       rcases List.mem_or_eq_of_mem_set h with h | h
       ·exact same.2.2 b h
       ·rw [h, List.length_append]
        have : (s.blocks.getD (s.blocks.length - 1) []).length ≤ n := by
         by_cases hl : s.blocks.length - 1 < s.blocks.length
         ·rw [List.getD_eq_getElem?_getD, List.getElem?_eq_getElem hl]; exact hbb _ (List.getElem_mem hl)
         ·rw [List.getD_eq_getElem?_getD, List.getElem?_eq_none (by omega)]; simp
        simp only [List.length_cons, List.length_nil]; omega
      ·exact same
theorem stepP_keep (n : Nat) (s : PS) (l : ByteArray) (hb : s.blocks.length ≤ n) (hbb : ∀ b ∈ s.blocks, b.length ≤ n) : (stepP n s l).2.heads = s.heads ∧ (stepP n s l).2.blocks.length ≤ n + 1 ∧ ∀ b ∈ (stepP n s l).2.blocks, b.length ≤ n + 1 := by
 unfold stepP
 split
 ·exact ⟨rfl, Nat.le_succ_of_le hb, fun b h => by have := hbb b h; omega⟩
 ·split
  ·obtain ⟨h1, h2⟩ := topP_keep s (wordsOf (trimB l)); rw [h2]; exact ⟨h1, Nat.le_succ_of_le hb, fun b h => by have := hbb b h; omega⟩
  ·exact lineP_keep s _ hb hbb
theorem zip1 (t : Array Value) (p : Tmp) (v : Value) : ((#[p] : Array Tmp).zip #[v]).foldl (fun t (p, v) => t.setIfInBounds p v) t = t.setIfInBounds p v := by simp
theorem eqne (E : Int) : (E = 0 ∧ True) ∨ (¬ E = 0 ∧ (E == 0) = false ∧ (E != 0) = true ∧ decide (E = 0) = false) := by
 by_cases h : E = 0
 ·exact .inl ⟨h, trivial⟩
 ·exact .inr ⟨h, by simpa using h, by simpa using h, zG h⟩
theorem new_at {w : World} {o : Obj} {k : Nat} (h : k = w.heap.size) : (w.alloc o).heap[k]? = some o := by rw [h]; exact World.alloc_heap_new w o
theorem old_at {w : World} {o : Obj} {k : Nat} {x : Obj} (h : w.heap[k]? = some x) : (w.alloc o).heap[k]? = some x := (Below.heap_alloc _ _ _ (blk_lt h)).trans h
theorem leaves_ret {tmps : Array Value} {R : Ending → World → Prop} {g4 g5 : Nat} {x y : Int} {W : World} (h4 : tmps[4]? = some (.pointer (some ⟨g4, 0, none⟩))) (h5 : tmps[5]? = some (.pointer (some ⟨g5, 0, none⟩))) (c4 : W.heap[g4]? = some (.cells #[.int .i64 x] 3 (0, 0))) (c5 : W.heap[g5]? = some (.cells #[.int .i64 y] 26 (0, 0))) (hR : R (.returned (.tuple #[.int .i64 x, .int .i64 y])) W) :
 bodyPostM Fence.wide 5 Tryz.prog Tryz.f25 R .ret { tmps := tmps, defers := [] } W := ⟨_, parse_results h4 h5 c4 c5, hR⟩
theorem leaves_mark {e : Exit} (he : e = .ret ∨ e = .normal) {tmps : Array Value} {R : Ending → World → Prop} {g4 g5 r : Nat} {x y : Int} {W : World} (hr : W.heap[r]? = some (.deferred (some []))) (h4 : tmps[4]? = some (.pointer (some ⟨g4, 0, none⟩))) (h5 : tmps[5]? = some (.pointer (some ⟨g5, 0, none⟩))) (c4 : W.heap[g4]? = some (.cells #[.int .i64 x] 3 (0, 0))) (c5 : W.heap[g5]? = some (.cells #[.int .i64 y] 26 (0, 0))) (hR : R (.returned (.tuple #[.int .i64 x, .int .i64 y])) (W.putObj r (.deferred none))) :
 bodyPostM Fence.wide 5 Tryz.prog Tryz.f25 R e { tmps := tmps, defers := [{ target := .collected r, args := #[] }] } W := by
 have h1 : g4 ≠ r := fun e => by rw [e, hr] at c4; cases c4
 have h2 : g5 ≠ r := fun e => by rw [e, hr] at c5; cases c5
 have := parse_results (W := W.putObj r (.deferred none)) h4 h5 ((World.putObj_heap_other h1).trans c4) ((World.putObj_heap_other h2).trans c5)
 rcases he with rfl | rfl
 ·exact ⟨by simp, .inl ⟨r, _, rfl, run_takeDeferred hr, _, this, hR⟩⟩
 ·exact ⟨by simp, .inl ⟨r, _, rfl, run_takeDeferred hr, _, this, hR⟩⟩
set_option maxHeartbeats 8000000 in
set_option maxRecDepth 100000 in
theorem parse_calls {w0 w : World} (hL : LaidW w0) (hB : Below w0.heap.size w0 w) (gp : Nat) (hgp : w0.heap.size ≤ gp) (st : PS) (hs : w.heap[gp]? = some (.cells #[.bool st.code, .string st.first, .int .i64 st.heads, .string st.name, .slice none 0 0, .slice none 0 0] 63 (0, 0))) (hh : st.head = []) (hbk : st.blocks = []) (hhd : 1 ≤ st.heads ∧ st.heads ≤ 100) (s : ByteArray) (hsz : s.size ≤ 90000) :
 Calls Tryz.prog 25 #[.pointer (some ⟨gp, 0, none⟩), .string s] w fun e w' => e = .returned (.tuple #[.int .i64 (parseAll st s).1, .int .i64 (parseAll st s).2.1]) ∧ ((parseAll st s).2.1 = 0 → ∃ D, w.heap.size ≤ D ∧ PsAt D gp (parseAll st s).2.2 w') ∧ Below w0.heap.size w0 w' := by
 have HLd := zA hL
 have HB := zA hB
 have HK := zA hs
 clear hL hB hs
 obtain ⟨R, hR⟩ : ∃ R, R = parseAll st s := ⟨_, rfl⟩
 rw [← hR]
 have HR := zA hR
 clear hR
 refine (callsIn_wide (n := 5)).1 ?_
 refine callsIn_of_wp_marks Tryz.func25 rfl trivial ?_ rfl
 simp only [Tryz.ntmps25, List.size_toArray, List.length_cons, List.length_nil, Nat.reduceAdd, Nat.reduceSub, Array.replicate_succ, Array.replicate_zero, List.push_toArray, List.append_toArray, List.nil_append, List.cons_append]
 by_cases c1 : s.toList = []
 ·obtain ⟨c1a, c1b⟩ := qe c1
  gi_wp2
  have hR : R = (1, 80, st) := by
   have h1 := toList_data s
   rw [c1] at h1
   have h2 : s.data.toList.length = s.size := by simp
   have hz : s.size = 0 := by rw [← h2, ← h1]; rfl
   rw [HR.out]; unfold parseAll
   rw [zC hz]
  rw [hR]
  refine leaves_ret rfl rfl (x := 1) (y := 80) (old_at (new_at (by simp))) (new_at (by simp)) ⟨rfl, fun h => absurd (show (80 : Int) = 0 from h) (by decide), below_alloc (below_alloc (below_alloc HB.out _) _) _⟩
 ·obtain ⟨c1a, c1b⟩ := qn c1
  have hz0 : s.size ≠ 0 := fun h => c1 (by rw [toList_data]; exact List.eq_nil_of_length_eq_zero (by simpa using h))
  gi_wp2_with (refine ⟨trivial, ?_⟩; gi_at_call 46; refine (callsIn_wide.2 (lines_calls s _)).mono ?_; rintro e w' ⟨rfl, rfl⟩)
  obtain ⟨gA, hgA⟩ : ∃ x, x = w.heap.size := ⟨_, rfl⟩
  obtain ⟨W5, hW5⟩ : ∃ W5, W5 = (((((w.alloc (Obj.cells #[Value.pointer (some { block := gp, off := 0 })] 61)).alloc (Obj.cells #[Value.int IntKind.i64 0] 3)).alloc (Obj.cells #[Value.int IntKind.i64 0] 26)).alloc (Obj.cells #[Value.int IntKind.i64 0] 3)).alloc (Obj.cells #[Value.string s] 9)) := ⟨_, rfl⟩
  rw [← hW5, ← hgA]
  have hsz5 : W5.heap.size = gA + 5 := by rw [hW5, hgA]; simp
  have hPB : ∀ o1 o2, PB gp gA (gA + 1) (gA + 2) (gA + 3) (gA + 4) (gA + 7) w0 0 0 st s ((W5.alloc o1).alloc o2) := by
   intro o1 o2
   rw [hW5]
   subst hgA
   refine ⟨old_at (old_at (old_at (old_at (old_at (old_at (new_at rfl)))))), old_at (old_at (old_at (old_at (old_at (new_at (by simp)))))), old_at (old_at (old_at (old_at (new_at (by simp))))), old_at (old_at (old_at (new_at (by simp)))), old_at (old_at (new_at (by simp))), ?_, by simp, ?_, hhd, by rw [hbk]; exact Nat.le_refl _, by rw [hbk]; intro b hb; cases hb⟩
   ·unfold TakenAt
    rw [zC rfl]
    exact ⟨by have := blk_lt HK.out; omega, old_at (old_at (old_at (old_at (old_at (old_at (old_at HK.out)))))), hh, hbk⟩
   ·exact below_alloc (below_alloc (below_alloc (below_alloc (below_alloc (below_alloc (below_alloc HB.out _) _) _) _) _) _) _
  have hord : Ord gp gA (gA + 1) (gA + 2) (gA + 3) (gA + 4) (gA + 7) w0 := ⟨hgp, by rw [hgA]; exact blk_lt HK.out, by omega, by omega, by omega, by omega, by omega⟩
  have HPB := zA hPB
  have HgA := zA hgA
  have HS5 := zA hsz5
  have HO := zA hord
  clear hPB hW5 hgA
  refine wpIn_lines (B := gA + 4) (by omega) rfl rfl
   (fun s' W => ∃ n st' k, PB gp gA (gA + 1) (gA + 2) (gA + 3) (gA + 4) (gA + 7) w0 n n st' s' W ∧ (n = 0 → s'.size ≠ 0) ∧ R = parseR (k + 1) n st' s' ∧ s'.size ≤ k ∧ n + s'.size ≤ 90000)
   (fun s' W => s'.size ≠ 0 ∧ ∃ n st' k, PB gp gA (gA + 1) (gA + 2) (gA + 3) (gA + 4) (gA + 7) w0 n n st' (cutB s').2 W ∧ R = parseR (k + 1) n st' s' ∧ s'.size ≤ k ∧ n + s'.size ≤ 90000)
   (fun c W => c = .ret ∧ R.2.1 ≠ 0 ∧ W.heap[gA + 1]? = some (.cells #[.int .i64 R.1] 3 (0, 0)) ∧ W.heap[gA + 2]? = some (.cells #[.int .i64 R.2.1] 26 (0, 0)) ∧ Below w0.heap.size w0 W)
   ?_ (by rw [hsz5]; omega) ?_ ?_ ?_ ?_ ?_ s ?_ (fun x => { tmps := #[Value.pointer (some { block := gp, off := 0 }), Value.string s, Value.pointer (some { block := gA, off := 0 }), undef, Value.pointer (some { block := gA + 1, off := 0 }), Value.pointer (some { block := gA + 2, off := 0 }), Value.pointer (some { block := gA + 3, off := 0 }), Value.string x, undef, undef, undef, undef, Value.string s, Value.bool false, Value.string s, Value.func (Fn.func 60) #[] #[Value.pointer (some { block := gA + 4, off := 0 })], Value.string x, undef, undef, undef, undef, undef, undef, undef, undef, undef, undef, undef, undef, undef, undef, undef, undef, undef, undef, undef, undef, undef, undef, undef, undef], defers := [] }) ?_ ?_ ?_ ?_
  ·rintro s' W ⟨n, st', k, h, hn, hr, h1, h2⟩
   exact ⟨blk_cell h.bB 0, blk_frozen h.bB 0, by omega⟩
  ·rintro s' W ⟨n, st', k, h, hn, hr, h1, h2⟩
   exact ⟨n, st', k, h.drew, hn, hr, h1, h2⟩
  ·rintro s' W ⟨n, st', k, h, hn, hr, h1, h2⟩ hz
   exact ⟨hz, n, st', k, h.setB hord _, hr, h1, h2⟩
  ·rintro s' W j o hj1 hj2 ⟨n, st', k, h, hn, hr, h1, h2⟩
   exact ⟨n, st', k, h.put hord (by omega) (by omega), hn, hr, h1, h2⟩
  ·rintro s' W j o hj1 hj2 ⟨hz, n, st', k, h, hr, h1, h2⟩
   exact ⟨hz, n, st', k, h.put hord (by omega) (by omega), hr, h1, h2⟩
  ·rintro c W j o hj1 hj2 ⟨rfl, h1, h2, h3, h4⟩
   refine ⟨rfl, h1, (World.putObj_heap_other (by omega)).trans h2, (World.putObj_heap_other (by omega)).trans h3, ?_⟩
   have := hord.o0; have := hord.o1
   exact h4.trans ((Below.refl _ W).grown (grownBy_putObj' W j o) h4.size (fun k e => by cases e; omega))
  ·intro o1 o2
   refine ⟨0, st, s.size, HPB.out o1 o2, fun _ => hz0, ?_, Nat.le_refl _, by omega⟩
   rw [HR.out]; unfold parseAll; rw [zD hz0]
  ·clear hsz5 hord
   intro l x W K hk
   rw [zip1]
   simp only [List.setIfInBounds_toArray, List.set_cons_succ, List.set_cons_zero]
   gi_wp2
   exact hk
  ·clear hsz5 hord
   rintro l s' W ⟨hz, n, st', k, h, hr, h1, h2⟩
   obtain ⟨L, hL⟩ : ∃ L, L = (cutB s').1 := ⟨_, rfl⟩
   have hLs : L.size ≤ 90000 := by rw [hL]; have := cutB_le s'; omega
   have htl := Nat.le_trans (trimB_le L) hLs
   have hws := splitB_lenle (trimB L)
   have HWS := zA (wordsOf_small (trimB L))
   obtain ⟨k', rfl⟩ : ∃ k', k = k' + 1 := ⟨k - 1, by omega⟩
   have hcl := cutB_less hz
   have hrr : R = if (stepP n st' L).1 = 0 then parseR (k' + 1) (n + 1) (stepP n st' L).2 (cutB s').2 else (((n + 1 : Nat) : Int), (stepP n st' L).1, st') := by rw [hr, hL]; conv => lhs; unfold parseR; rw [zD hz]
   obtain ⟨sk1, sk2, sk3⟩ := stepP_keep n st' L h.hb h.hbb
   have HR2 := zA hrr
   have HSK := zA (And.intro sk1 (And.intro sk2 sk3))
   have hstn : n + 1 ≤ 90000 := by omega
   clear hr hrr sk1 sk2 sk3
   rw [← hL]
   have HL := zA hL
   clear hL
   have HI := zA (h.inc HO.out (n + 1) ((n : Int) + 1) (by omega))
   have HS1 := zA (show ∀ k, k ≠ gA + 3 → (W.setCell ⟨gA + 3, 0, none⟩ (.int .i64 ((n : Int) + 1))).heap[k]? = W.heap[k]? from fun k hk => heap_setCell_other _ _ _ _ hk)
   have z2 := bk1 h.b2
   have z4 := bk1 h.b4
   have z5 := bk1 h.b5
   have z6 := bk1 h.b6
   have HPBn := zA h
   clear h hcl
   cases cw : wholeB L with
   | false =>
    gi_wp2_with (refine ⟨trivial, ?_⟩; gi_at_call 47; refine (CallsIn.inRound l (callsIn_wide.2 (cut_at L _ hLs))).mono ?_; rintro e w' ⟨rfl, rfl⟩; rw [cw])
    have hst : stepP n st' L = (80, st') := by unfold stepP; rw [zC cw]
    have hRR : R = (((n + 1 : Nat) : Int), 80, st') := by rw [HR2.out, hst]; exact zD (show ¬ (80 : Int) = 0 by decide)
    have HX := zA (And.intro HI.out.b4 (And.intro HI.out.b5 HI.out.bl))
    have HXS := zA (fun k (h1 : gA + 5 ≤ k) (h2 : k ≤ gA + 6) => HS1.out k (by omega))
    have hs5 := HS5.out
    obtain ⟨s1, s2, s3, s4⟩ := PB.stop HX.out.1 HX.out.2.1 HX.out.2.2 HO.out ((n : Int) + 1) 80
    refine ⟨⟨?_, ?_⟩, rfl, by rw [hRR]; exact (by decide : ¬ (80 : Int) = 0), by rw [hRR]; exact s1, by rw [hRR]; exact s2, s3⟩
    ·exact (s4 _ (by omega) (by omega)).trans (HXS.out _ (by omega) (by omega))
    ·exact (s4 _ (by omega) (by omega)).trans (HXS.out _ (by omega) (by omega))
   | true =>
    have cwn : wholeB L ≠ false := by rw [cw]; decide
    by_cases cn : n = 0
    ·have hS : stepP n st' L = topP st' (wordsOf (trimB L)) := by unfold stepP; rw [zD cwn, zC cn]
     have HST := zA hS
     clear hS
     have CN := zA cn
     have n1a := zF (show (n : Int) + 1 = 1 by omega)
     have n1b := (show ((n : Int) + 1 == 1) = true by rw [cn]; rfl)
     clear cn
     gi_wp2_with (first
      | (refine ⟨trivial, ?_⟩; gi_at_call 47; refine (CallsIn.inRound l (callsIn_wide.2 (cut_at L _ hLs))).mono ?_; rintro e w' ⟨rfl, rfl⟩; rw [cw])
      | (refine ⟨trivial, ?_⟩; gi_at_call 48; refine (CallsIn.inRound l (callsIn_wide.2 (split_at (trimB L) _ (by omega)))).mono ?_; rintro e w1 ⟨gw, rfl, hk, hb, hgw⟩
         have HIb := zA (HI.out.below hb)
         have HXb := zA (show ∀ k, gA + 5 ≤ k → k ≤ gA + 6 → w1.heap[k]? = W.heap[k]? from fun k h1 h2 => (hb.block k (by have := HPBn.out.hD; simp [World.setCell]; omega)).trans (HS1.out k (by omega)))
         have HW := zA (show WordsAt gw 0 (wordsOf (trimB L)) w1 from ⟨_, hk, fun i t ht => by simp [ht]⟩)
         have y2 := bk1 HIb.out.b2
         have y4 := bk1 HIb.out.b4
         have y5 := bk1 HIb.out.b5
         have y6 := bk1 HIb.out.b6
         clear hk hb hgw)
      | (refine ⟨trivial, ?_⟩; gi_at_call 49; refine (CallsIn.inRound l (callsIn_wide.2 (top_calls HLd.out HIb.out.bl gp gw (gA + 7) hgp st' (HIb.out.fresh CN.out).1 (HIb.out.fresh CN.out).2.1 (HIb.out.fresh CN.out).2.2.1 (HIb.out.fresh CN.out).2.2.2 HIb.out.hh HIb.out.hD _ HW.out (wordsOf_ne _) (by omega) (fun t ht => Nat.le_trans (HWS.out t ht) (by omega))))).mono ?_; rintro e w2 ⟨rfl, hps, hkd, hbl⟩
         obtain ⟨E, hE⟩ : ∃ E, E = (topP st' (wordsOf (trimB L))).1 := ⟨_, rfl⟩
         have hpos := HO.out
         have y4' := bk1 ((hkd.2 _ (by omega) (by have := hpos.o1; omega) (blk_lt HIb.out.b4)).trans HIb.out.b4)
         have y5' := bk1 ((hkd.2 _ (by omega) (by have := hpos.o1; omega) (blk_lt HIb.out.b5)).trans HIb.out.b5)
         have y6' := bk1 ((hkd.2 _ (by omega) (by have := hpos.o1; omega) (blk_lt HIb.out.b6)).trans HIb.out.b6)
         have HX := zA (show _ ∧ _ ∧ _ from ⟨(hkd.2 _ (by omega) (by have := hpos.o1; omega) (blk_lt HIb.out.b4)).trans HIb.out.b4, (hkd.2 _ (by omega) (by have := hpos.o1; omega) (blk_lt HIb.out.b5)).trans HIb.out.b5, hbl⟩)
         have HXS := zA (show ∀ k, gA + 5 ≤ k → k ≤ gA + 6 → w2.heap[k]? = W.heap[k]? from fun k h1 h2 => (hkd.2 k (by omega) (by have := hpos.o1; omega) (by have := HIb.out.hD; omega)).trans (HXb.out k h1 h2))
         have HPS := zA hps
         have HKD := zA hkd
         rw [← hE]
         have HE := zA hE
         clear hE hps hkd hbl hpos
         rcases eqne E with ⟨e0, e0a⟩ | ⟨e0, e0a, e0b, e0c⟩))
     ·obtain ⟨q1, q2, q3⟩ := HSK.out
      rw [HST.out] at q1 q2 q3
      have hRR : R = parseR (k' + 1) (n + 1) (topP st' (wordsOf (trimB L))).2 (cutB s').2 := by rw [HR2.out, HST.out]; exact zC (HE.out.symm.trans e0)
      have hs5 := HS5.out
      refine ⟨⟨HXS.out _ (by omega) (by omega), HXS.out _ (by omega) (by omega)⟩, n + 1, _, k', HIb.out.took HO.out HKD.out HX.out.2.2 (HPS.out (HE.out.symm.trans e0)) q1 q2 q3, fun h => absurd h (Nat.succ_ne_zero n), hRR, ?_, ?_⟩
      ·have := cutB_less hz; omega
      ·have := cutB_less hz; omega
     ·have hRR : R = (((n + 1 : Nat) : Int), E, st') := by rw [HR2.out, HST.out, ← HE.out]; exact zD e0
      have hs5 := HS5.out
      obtain ⟨s1, s2, s3, s4⟩ := PB.stop HX.out.1 HX.out.2.1 HX.out.2.2 HO.out ((n : Int) + 1) E
      refine ⟨⟨?_, ?_⟩, rfl, by rw [hRR]; exact e0, by rw [hRR]; exact s1, by rw [hRR]; exact s2, s3⟩
      ·exact (s4 _ (by omega) (by omega)).trans (HXS.out _ (by omega) (by omega))
      ·exact (s4 _ (by omega) (by omega)).trans (HXS.out _ (by omega) (by omega))
    ·have hS : stepP n st' L = lineP st' (wordsOf (trimB L)) := by unfold stepP; rw [zD cwn, zD cn]
     have HST := zA hS
     clear hS
     have n1a := zG (show ¬ (n : Int) + 1 = 1 by omega)
     have n1b := (show ((n : Int) + 1 == 1) = false by simp; omega)
     gi_wp2_with (first
      | (refine ⟨trivial, ?_⟩; gi_at_call 47; refine (CallsIn.inRound l (callsIn_wide.2 (cut_at L _ hLs))).mono ?_; rintro e w' ⟨rfl, rfl⟩; rw [cw])
      | (refine ⟨trivial, ?_⟩; gi_at_call 48; refine (CallsIn.inRound l (callsIn_wide.2 (split_at (trimB L) _ (by omega)))).mono ?_; rintro e w1 ⟨gw, rfl, hk, hb, hgw⟩
         have HIb := zA (HI.out.below hb)
         have HXb := zA (show ∀ k, gA + 5 ≤ k → k ≤ gA + 6 → w1.heap[k]? = W.heap[k]? from fun k h1 h2 => (hb.block k (by have := HPBn.out.hD; simp [World.setCell]; omega)).trans (HS1.out k (by omega)))
         have HW := zA (show WordsAt gw 0 (wordsOf (trimB L)) w1 from ⟨_, hk, fun i t ht => by simp [ht]⟩)
         have y2 := bk1 HIb.out.b2
         have y4 := bk1 HIb.out.b4
         have y5 := bk1 HIb.out.b5
         have y6 := bk1 HIb.out.b6
         clear hk hb hgw)
      | (refine ⟨trivial, ?_⟩; gi_at_call 50; refine (CallsIn.inRound l (callsIn_wide.2 (line_calls2 HLd.out HIb.out.bl gp gw (gA + 7) hgp st' (HIb.out.ps cn) HIb.out.hD _ HW.out (wordsOf_ne _) (by omega) (fun t ht => Nat.le_trans (HWS.out t ht) (by omega)) (by have := HIb.out.hb; omega) (fun b hb => by have := HIb.out.hbb b hb; omega)))).mono ?_; rintro e w2 ⟨rfl, hps, hkd, hbl⟩
         obtain ⟨E, hE⟩ : ∃ E, E = (lineP st' (wordsOf (trimB L))).1 := ⟨_, rfl⟩
         have hpos := HO.out
         have y4' := bk1 ((hkd.2 _ (by omega) (by have := hpos.o1; omega) (blk_lt HIb.out.b4)).trans HIb.out.b4)
         have y5' := bk1 ((hkd.2 _ (by omega) (by have := hpos.o1; omega) (blk_lt HIb.out.b5)).trans HIb.out.b5)
         have y6' := bk1 ((hkd.2 _ (by omega) (by have := hpos.o1; omega) (blk_lt HIb.out.b6)).trans HIb.out.b6)
         have HX := zA (show _ ∧ _ ∧ _ from ⟨(hkd.2 _ (by omega) (by have := hpos.o1; omega) (blk_lt HIb.out.b4)).trans HIb.out.b4, (hkd.2 _ (by omega) (by have := hpos.o1; omega) (blk_lt HIb.out.b5)).trans HIb.out.b5, hbl⟩)
         have HXS := zA (show ∀ k, gA + 5 ≤ k → k ≤ gA + 6 → w2.heap[k]? = W.heap[k]? from fun k h1 h2 => (hkd.2 k (by omega) (by have := hpos.o1; omega) (by have := HIb.out.hD; omega)).trans (HXb.out k h1 h2))
         have HPS := zA hps
         have HKD := zA hkd
         rw [← hE]
         have HE := zA hE
         clear hE hps hkd hbl hpos
         rcases eqne E with ⟨e0, e0a⟩ | ⟨e0, e0a, e0b, e0c⟩))
     ·obtain ⟨q1, q2, q3⟩ := HSK.out
      rw [HST.out] at q1 q2 q3
      have hRR : R = parseR (k' + 1) (n + 1) (lineP st' (wordsOf (trimB L))).2 (cutB s').2 := by rw [HR2.out, HST.out]; exact zC (HE.out.symm.trans e0)
      have hs5 := HS5.out
      refine ⟨⟨HXS.out _ (by omega) (by omega), HXS.out _ (by omega) (by omega)⟩, n + 1, _, k', HIb.out.took HO.out HKD.out HX.out.2.2 (HPS.out (HE.out.symm.trans e0)) q1 q2 q3, fun h => absurd h (Nat.succ_ne_zero n), hRR, ?_, ?_⟩
      ·have := cutB_less hz; omega
      ·have := cutB_less hz; omega
     ·have hRR : R = (((n + 1 : Nat) : Int), E, st') := by rw [HR2.out, HST.out, ← HE.out]; exact zD e0
      have hs5 := HS5.out
      obtain ⟨s1, s2, s3, s4⟩ := PB.stop HX.out.1 HX.out.2.1 HX.out.2.2 HO.out ((n : Int) + 1) E
      refine ⟨⟨?_, ?_⟩, rfl, by rw [hRR]; exact e0, by rw [hRR]; exact s1, by rw [hRR]; exact s2, s3⟩
      ·exact (s4 _ (by omega) (by omega)).trans (HXS.out _ (by omega) (by omega))
      ·exact (s4 _ (by omega) (by omega)).trans (HXS.out _ (by omega) (by omega))
  ·clear hsz5 hord
   rintro s' W hz ⟨n, st', k, h, hn, hr, h1, h2⟩ hd
   refine ‹∀ (a : Act) (w : World), _ → _› _ _ ?_
   have hn0 : n ≠ 0 := fun e => hn e hz
   have HS := zA (PB.stop h.b4 h.b5 h.bl HO.out 0 0)
   have HPS := zA (h.ps hn0)
   have hRn := zA (show R = (0, 0, st') by rw [hr]; unfold parseR; rw [zC hz])
   have z4 := bk1 h.b4
   have z5 := bk1 h.b5
   have HD := zA hd
   clear h hr hd
   gi_wp2
   obtain ⟨s1, s2, s3, s4⟩ := HS.out
   rw [hRn.out]
   have hs5 := HS5.out
   have := HO.out.o0; have := HO.out.o1
   refine leaves_mark (.inl rfl) ((s4 _ (by omega) (by omega)).trans HD.out) rfl rfl s1 s2 ⟨rfl, fun _ => ⟨gA + 7, by rw [HgA.out]; omega, HPS.out.move ?_⟩, ?_⟩
   ·intro k hk hl
    exact (World.putObj_heap_other (by omega)).trans (s4 k (by omega) (by omega))
   ·exact s3.trans ((Below.refl _ _).grown (grownBy_putObj' _ _ _) s3.size (fun k e => by cases e; omega))
  ·clear hsz5 hord
   rintro c W ⟨rfl, h1, h2, h3, h4⟩ hd
   gi_wp2
   refine leaves_mark (.inl rfl) hd rfl rfl h2 h3 ⟨rfl, fun h => absurd h h1, ?_⟩
   have := HO.out.o0; have := HO.out.o1; have := HS5.out
   exact h4.trans ((Below.refl _ W).grown (grownBy_putObj' W _ _) h4.size (fun k e => by cases e; omega))
theorem mapM_len {α β : Type} {g : α → Option β} : ∀ {l : List α} {r : List β}, l.mapM g = some r → r.length = l.length
 | [], r, h => by simp at h; subst h; rfl
 | a :: l, r, h => by
  rw [List.mapM_cons] at h
  simp only [Option.pure_def, Option.bind_eq_bind, Option.bind_eq_some_iff] at h
  obtain ⟨x, hx, y, hy, h⟩ := h
  injection h with h
  subst h
  simp [mapM_len hy]
theorem lineP_head (s : PS) (ws : List ByteArray) : (lineP s ws).2.head = s.head := by
 unfold lineP
 repeat' split
 all_goals rfl
theorem lineP_heads (s : PS) (ws : List ByteArray) : (lineP s ws).2.heads = s.heads := by
 unfold lineP
 repeat' split
 all_goals rfl
theorem topP_head {s : PS} {ws : List ByteArray} (h : (topP s ws).1 = 0) : ((topP s ws).2.head.length : Int) = s.heads := by
 unfold topP at h ⊢
 split at h
 ·next w0 w1 rest =>
  split at h
  ·next hc =>
   rw [zC hc]
   split at h
   ·next l hl =>
    have := mapM_len hl
    dsimp only
    omega
   ·exact absurd (show (81 : Int) = 0 from h) (by decide)
  ·exact absurd (show (80 : Int) = 0 from h) (by decide)
 ·exact absurd (show (80 : Int) = 0 from h) (by decide)
theorem stepP_heads (n : Nat) (s : PS) (l : ByteArray) : (stepP n s l).2.heads = s.heads := by
 unfold stepP
 split
 ·rfl
 ·split
  ·exact (topP_keep s _).1
  ·exact lineP_heads s _
theorem parseR_head : ∀ (k n : Nat) (st : PS) (s : ByteArray), n ≠ 0 → (st.head.length : Int) = st.heads → ((parseR k n st s).2.2.head.length : Int) = st.heads
 | 0, n, st, s, hn, h => h
 | k + 1, n, st, s, hn, h => by
  unfold parseR
  split
  ·exact h
  ·split
   ·have e : (stepP n st (cutB s).1).2.head = st.head := by
     unfold stepP
     split
     ·rfl
     ·exact lineP_head _ _
    rw [← stepP_heads n st (cutB s).1]
    exact parseR_head k (n + 1) _ _ (Nat.succ_ne_zero n) (by rw [e, stepP_heads]; exact h)
   ·exact h
theorem parseAll_head {st : PS} {s : ByteArray} (h : (parseAll st s).2.1 = 0) : ((parseAll st s).2.2.head.length : Int) = st.heads := by
 unfold parseAll at h ⊢
 split at h
 ·exact absurd (show (80 : Int) = 0 from h) (by decide)
 ·next hs =>
  rw [zD hs]
  unfold parseR at h ⊢
  rw [zD hs] at h ⊢
  split at h
  ·next h0 =>
   rw [zC h0]
   have e : stepP 0 st (cutB s).1 = topP st (wordsOf (trimB (cutB s).1)) := by
    unfold stepP at h0 ⊢
    split at h0
    ·exact absurd (show (80 : Int) = 0 from h0) (by decide)
    ·next hw => rw [zD hw, zC rfl]
   rw [← stepP_heads 0 st (cutB s).1]
   refine parseR_head _ 1 _ _ (by decide) ?_
   rw [stepP_heads, e]
   rw [e] at h0
   exact topP_head h0
  ·next h0 => exact absurd h h0
-- code
theorem box5 {w : World} {g : Nat} {t : TypeId} {a b c d e : Value} (hb : w.heap[g]? = some (.cells #[a, b, c, d, e] t (0, 0))) (a' b' c' d' e' : Value) :
 (((((w.setCell ⟨g, 0, none⟩ a').setCell ⟨g, 1, none⟩ b').setCell ⟨g, 2, none⟩ c').setCell ⟨g, 3, none⟩ d').setCell ⟨g, 4, none⟩ e').heap[g]? = some (.cells #[a', b', c', d', e'] t (0, 0)) ∧ (∀ k, k ≠ g → (((((w.setCell ⟨g, 0, none⟩ a').setCell ⟨g, 1, none⟩ b').setCell ⟨g, 2, none⟩ c').setCell ⟨g, 3, none⟩ d').setCell ⟨g, 4, none⟩ e').heap[k]? = w.heap[k]?) ∧ (((((w.setCell ⟨g, 0, none⟩ a').setCell ⟨g, 1, none⟩ b').setCell ⟨g, 2, none⟩ c').setCell ⟨g, 3, none⟩ d').setCell ⟨g, 4, none⟩ e').heap.size = w.heap.size := by
 refine ⟨blk_put (cs := #[a', b', c', d', e]) (blk_put (cs := #[a', b', c', d, e]) (blk_put (cs := #[a', b', c, d, e]) (blk_put (cs := #[a', b, c, d, e]) (blk_put hb 0 _ rfl) 1 _ rfl) 2 _ rfl) 3 _ rfl) 4 _ rfl, fun k hk => ?_, by simp [World.setCell]⟩
 exact (heap_setCell_other _ _ _ _ hk).trans ((heap_setCell_other _ _ _ _ hk).trans ((heap_setCell_other _ _ _ _ hk).trans ((heap_setCell_other _ _ _ _ hk).trans (heap_setCell_other _ _ _ _ hk))))
theorem box5_below {w0 w : World} {g : Nat} (hb : Below w0.heap.size w0 w) (hg : w0.heap.size ≤ g) (a' b' c' d' e' : Value) : Below w0.heap.size w0 (((((w.setCell ⟨g, 0, none⟩ a').setCell ⟨g, 1, none⟩ b').setCell ⟨g, 2, none⟩ c').setCell ⟨g, 3, none⟩ d').setCell ⟨g, 4, none⟩ e') :=
 ((((hb.setCell (p := ⟨g, 0, none⟩) hg a').setCell (p := ⟨g, 1, none⟩) hg b').setCell (p := ⟨g, 2, none⟩) hg c').setCell (p := ⟨g, 3, none⟩) hg d').setCell (p := ⟨g, 4, none⟩) hg e'
def psCode : PS := ⟨true, ⟨#[99, 111, 100, 101]⟩, 3, ⟨#[]⟩, [], []⟩
def text_ParseCode.f (a0 : ByteArray) : Option (ByteArray × Int × Int × Int × List (List SIns) × Int × Int) :=
 if a0.size ≤ 90000 then
  if (parseAll psCode a0).2.1 = 0 then some ((parseAll psCode a0).2.2.name, (parseAll psCode a0).2.2.head.getD 0 0, (parseAll psCode a0).2.2.head.getD 1 0, (parseAll psCode a0).2.2.head.getD 2 0, (parseAll psCode a0).2.2.blocks, 0, 0)
  else some (⟨#[]⟩, 0, 0, 0, [], (parseAll psCode a0).1, (parseAll psCode a0).2.1)
 else none
def text_ParseCode.T5 : Bool × List (List Nat × List Nat) := (true, [([], []), ([0], [0]), ([1], [1]), ([2], [2]), ([], []), ([4], [4]), ([5], [5]), ([6], [6]), ([7], [7]), ([8], [8]), ([], []), ([10], [10]), ([11], [11]), ([12], [12]), ([13], [13]), ([14], [14]), ([], []), ([16], [16]), ([17], [17]), ([18], [18]), ([19], [19]), ([20], [20]), ([], []), ([22], [22]), ([23], [23]), ([24], [24]), ([3, 9, 15, 21, 25], [3, 9, 15, 21, 25]), ([26, 0, 1, 2, 3, 4, 5, 6, 7, 8, 9, 10, 11, 12, 13, 14, 15, 16, 17, 18, 19, 20, 21, 22, 23, 24, 25, 26], [26]), ([27, 0, 1, 2, 3, 4, 5, 6, 7, 8, 9, 10, 11, 12, 13, 14, 15, 16, 17, 18, 19, 20, 21, 22, 23, 24, 25, 26, 27], []), ([28, 0, 1, 2, 3, 4, 5, 6, 7, 8, 9, 10, 11, 12, 13, 14, 15, 16, 17, 18, 19, 20, 21, 22, 23, 24, 25, 26, 27, 28], [])])
def text_ParseCode.B5 : List Nat := [0, 1, 3, 7, 0, 16, 48, 112, 240, 496, 0, 1024, 3072, 7168, 15360, 31744, 0, 65536, 196608, 458752, 983040, 2031616, 0, 4194304, 12582912, 29360128, 67108863, 134217727, 268435455, 536870911]
theorem text_ParseCode.tab5 : rtab .any (opsOf Tryz.f14 5) = text_ParseCode.T5 := by kernel_rfl
theorem text_ParseCode.bits5 : waitsOk text_ParseCode.T5.2 text_ParseCode.B5 = true := by kernel_rfl
set_option maxHeartbeats 8000000 in
set_option maxRecDepth 100000 in
theorem text_ParseCode.calls (a0 : ByteArray) (r1 : ByteArray) (r2 r3 r4 : Int) (r5 : List (List SIns)) (r6 r7 : Int) (w : World) (h : text_ParseCode.f a0 = some (r1, r2, r3, r4, r5, r6, r7)) (hL : LaidW w) :
 Calls Tryz.prog 14 #[.string a0] w fun e w' => ∃ v : Value, e = .returned (.tuple #[.agg #[.string r1, .int .i64 r2, .int .i64 r3, .int .i64 r4, v], .int .i64 r6, .int .i64 r7]) ∧ Kd.R (Kd.slice 44 kIns) 41 w' w.heap.size (fun _ => True) v r5 ∧ Below w.heap.size w w' := by
 unfold text_ParseCode.f at h
 by_cases hsz : a0.size ≤ 90000
 case neg => rw [zD hsz] at h; cases h
 rw [zC hsz] at h
 have HLd := zA hL
 have H := zA h
 clear hL h
 go_enter Tryz.func14, Tryz.ntmps14
 go_wp2_with fail
 go_at_call 25
 refine (parse_calls (w0 := w.alloc (.cells #[.string ⟨#[]⟩, .int .i64 0, .int .i64 0, .int .i64 0, .slice none 0 0] 35 (0, 0))) (LaidW.below HLd.out (below_alloc (Below.refl _ _) _)) (below_alloc (Below.refl _ _) _) (w.heap.size + 1) (by simp) psCode (new_at (by simp)) rfl rfl ⟨(by show (1:Int) ≤ 3; decide), (by show (3:Int) ≤ 100; decide)⟩ a0 (by omega)).mono ?_
 rintro e w2 ⟨rfl, hps, hbl⟩
 have z2 := bk5 ((hbl.block _ (by simp)).trans (World.alloc_heap_new w _))
 have HPS := zA hps
 have HBL := zA hbl
 clear hps hbl
 obtain ⟨E, hE⟩ : ∃ E, E = (parseAll psCode a0).2.1 := ⟨_, rfl⟩
 rw [← hE]
 have HE := zA hE
 clear hE
 rcases eqne E with ⟨e0, e0a⟩ | ⟨e0, e0a, e0b, e0c⟩
 ·go_upto_region 5 with fail
  have hE0 := HE.out.symm.trans e0
  obtain ⟨D, hD, lt, vh, vb, hk, hr, hs⟩ := HPS.out hE0
  have hhd : ((parseAll psCode a0).2.2.head.length : Int) = 3 := parseAll_head hE0
  obtain ⟨st2, hst2⟩ : ∃ st2, st2 = (parseAll psCode a0).2.2 := ⟨_, rfl⟩
  rw [← hst2] at hk hr hs hhd
  have hH := H.out
  rw [zC hE0, ← hst2] at hH
  have HH := zA hH
  clear hst2 hH
  have HSR := zA (Kd.S_R hs)
  have hl2 : st2.head.length = 3 := by omega
  obtain ⟨ad, ch, rfl⟩ := Kd.R_slice1 hr (by omega)
  obtain ⟨_, hlc, hC⟩ := Kd.R_reads' hr
  obtain ⟨ad0, q0, hx0⟩ := Kd.at_int hC 0 (by decide) (by omega)
  obtain ⟨ad1, q1, hx1⟩ := Kd.at_int hC 1 (by decide) (by omega)
  obtain ⟨ad2, q2, hx2⟩ := Kd.at_int hC 2 (by decide) (by omega)
  cases q0
  cases q1
  cases q2
  rw [hl2] at hk hlc
  have hx0 : w2.cell? ad = some (.int .i64 (rd st2.head 0)) := hx0
  have hx1 : w2.cell? { block := ad.block, off := ad.off + 1 } = some (.int .i64 (rd st2.head 1)) := hx1
  have hx2 : w2.cell? { block := ad.block, off := ad.off + 2 } = some (.int .i64 (rd st2.head 2)) := hx2
  obtain ⟨Ab, cb, rfl⟩ := Kd.R_slice (Kd.S_R hs)
  have hbd : D ≤ ad.block := Kd.R_base hr _ rfl
  have HK2 := zA hk
  have z6 := bk6 hk
  obtain ⟨_, _, _, z63, z64, z65, _⟩ := z6
  refine start_ (n := 30) (S := fun w' => w'.cell? ⟨w.heap.size + 1, 3, none⟩ = some (.string st2.name) ∧ w'.cell? ⟨w.heap.size + 1, 4, none⟩ = some (.slice (some ad) 3 ch) ∧ w'.cell? ⟨w.heap.size + 1, 5, none⟩ = some (.slice Ab st2.blocks.length cb) ∧ w'.cell? ad = some (.int .i64 (rd st2.head 0)) ∧ w'.cell? { block := ad.block, off := ad.off + 1 } = some (.int .i64 (rd st2.head 1)) ∧ w'.cell? { block := ad.block, off := ad.off + 2 } = some (.int .i64 (rd st2.head 2))) (ds := []) (bA 30 0) (by kernel_rfl) rfl rfl ⟨z63, z64, z65, hx0, hx1, hx2⟩ (fun hHeld => ?_); refine with_tabW text_ParseCode.tab5 text_ParseCode.bits5 (fun HT_ HW_ => ?_)
  refine pu_ (i := 0) (N := some 21) (bA 30 1) ?_
  refine pu_ (i := 1) (N := some 22) (bA 30 3) ?_
  refine pu_ (i := 2) (N := some 23) (bA 30 7) ?_
  refine pu_ (i := 4) (N := some 25) (bA 30 23) ?_
  refine pu_ (i := 5) (N := some 26) (bA 30 55) ?_
  refine pu_ (i := 6) (N := some 27) (bA 30 119) ?_
  refine pu_ (i := 10) (N := some 31) (bA 30 1143) ?_
  refine pu_ (i := 11) (N := some 32) (bA 30 3191) ?_
  refine pu_ (i := 12) (N := some 33) (bA 30 7287) ?_
  refine pu_ (i := 16) (N := some 37) (bA 30 72823) ?_
  refine pu_ (i := 17) (N := some 38) (bA 30 203895) ?_
  refine pu_ (i := 18) (N := some 39) (bA 30 466039) ?_
  refine pu_ (i := 22) (N := some 43) (bA 30 4660343) ?_
  refine pu_ (i := 23) (N := some 44) (bA 30 13048951) ?_
  refine pu_ (i := 24) (N := some 45) (bA 30 29826167) ?_
  refine tk_ (i := 3) (N := some 24) (bA 30 29826175) ?_
  refine tk_ (i := 7) (N := some 28) (bA 30 29826303) ?_
  refine pu_ (i := 8) (N := some 29) (bA 30 29826559) ?_
  refine tk_ (i := 9) (N := some 30) (bA 30 29827071) ?_
  refine tk_ (i := 13) (N := some 34) (bA 30 29835263) ?_
  refine pu_ (i := 14) (N := some 35) (bA 30 29851647) ?_
  refine tk_ (i := 15) (N := some 36) (bA 30 29884415) ?_
  refine tk_ (i := 19) (N := some 40) (bA 30 30408703) ?_
  refine pu_ (i := 20) (N := some 41) (bA 30 31457279) ?_
  refine tk_ (i := 21) (N := some 42) (bA 30 33554431) ?_
  refine tk_ (i := 25) (N := some 46) (bA 30 67108863) ?_
  refine pu_ (i := 26) (N := some 47) (bA 30 134217727) ?_
  have z2d : w2.drew.heap[w.heap.size]? = some (.cells #[.string ⟨#[]⟩, .int .i64 0, .int .i64 0, .int .i64 0, .slice none 0 0] 35 (0, 0)) := (HBL.out.block _ (by simp)).trans (World.alloc_heap_new w _)
  have HZ2 := zA z2d
  replace z2d := bk5 z2d
  refine one_ (i := 27) (N := none) (bA 30 268435455) rfl rfl (one_of HT_.out (by kernel_rfl)) (by decide) (fun K hK => ?_)
  refine skip_ (w1 := ?_) (by rfl) rfl ?_ ?_
  rotate_left
  ·first | (go_simp; done) | (go_simp; rfl)
  obtain ⟨hq1, hq2, hq3⟩ := box5 (w := w2) HZ2.out (.string st2.name) (.int .i64 (rd st2.head 0)) (.int .i64 (rd st2.head 1)) (.int .i64 (rd st2.head 2)) (.slice Ab st2.blocks.length cb)
  have HBl := zA (below_drew (box5_below (below_step (below_alloc (Below.refl w.heap.size w) (.cells #[.string ⟨#[]⟩, .int .i64 0, .int .i64 0, .int .i64 0, .slice none 0 0] 35 (0, 0))) HBL.out) (Nat.le_refl w.heap.size) (.string st2.name) (.int .i64 (rd st2.head 0)) (.int .i64 (rd st2.head 1)) (.int .i64 (rd st2.head 2)) (.slice Ab st2.blocks.length cb)))
  have HSR2 := zA (Kd.R_drew (Kd.R_step (Kd.R_bound HSR.out) (fun k hk hl => hq2 k (by have := hk.2.1; simp at hD; omega))))
  have ho : ∀ (W : World) (p : Addr), (∀ k, k ≠ w.heap.size → W.heap[k]? = w2.heap[k]?) → p.block ≠ w.heap.size → W.drew.cell? p = w2.cell? p := fun W p h1 h2 => World.cell?_of_block (h1 _ h2)
  simp at hD
  refine hK.out _ _ ⟨(ho _ _ hq2 (by show w.heap.size + 1 ≠ _; omega)).trans z63, (ho _ _ hq2 (by show w.heap.size + 1 ≠ _; omega)).trans z64, (ho _ _ hq2 (by show w.heap.size + 1 ≠ _; omega)).trans z65, (ho _ _ hq2 (by omega)).trans hx0, (ho _ _ hq2 (by show ad.block ≠ _; omega)).trans hx1, (ho _ _ hq2 (by show ad.block ≠ _; omega)).trans hx2⟩ (fun hHeld => ?_)
  clear hK K ho hx0 hx1 hx2 z63 z64 z65 z2d
  generalize (((((w2.setCell ⟨w.heap.size, 0, none⟩ (.string st2.name)).setCell ⟨w.heap.size, 1, none⟩ (.int .i64 (rd st2.head 0))).setCell ⟨w.heap.size, 2, none⟩ (.int .i64 (rd st2.head 1))).setCell ⟨w.heap.size, 3, none⟩ (.int .i64 (rd st2.head 2))).setCell ⟨w.heap.size, 4, none⟩ (.slice Ab st2.blocks.length cb)) = W4 at hq1 hq2 hq3 HBl HSR2 hHeld ⊢
  have y4 := bk5 hq1
  refine pu_ (i := 28) (N := some 3) (bA 30 536870911) ?_
  refine pu_ (i := 29) (N := some 4) (bA 30 1073741823) ?_
  refine done_ (done_of HT_.out (by kernel_rfl)) ?_
  go_wp2_with fail
  refine bodyPost_ret (results_ctt rfl _ _ w.heap.size 35 #[.string st2.name, .int .i64 (rd st2.head 0), .int .i64 (rd st2.head 1), .int .i64 (rd st2.head 2), .slice Ab st2.blocks.length cb] (0, 0) _ rfl hq1 Tryz.underlying35 rfl (by kernel_rfl)) rfl ?_
  injection HH.out with he
  simp only [Prod.mk.injEq] at he
  obtain ⟨rfl, rfl, rfl, rfl, rfl, rfl, rfl⟩ := he
  exact ⟨_, rfl, Kd.R_mono (Kd.R_lower HSR2.out (by omega)) (fun _ _ => trivial), HBl.out⟩
 ·go_upto_region 5 with fail
  have hE0 : ¬ (parseAll psCode a0).2.1 = 0 := fun h => e0 (HE.out.trans h)
  have hH := H.out
  rw [zD hE0] at hH
  injection hH with he
  simp only [Prod.mk.injEq] at he
  obtain ⟨rfl, rfl, rfl, rfl, rfl, rfl, rfl⟩ := he
  have hz : w2.heap[w.heap.size]? = some (.cells #[.string ⟨#[]⟩, .int .i64 0, .int .i64 0, .int .i64 0, .slice none 0 0] 35 (0, 0)) := (HBL.out.block _ (by simp)).trans (World.alloc_heap_new w _)
  obtain ⟨hq1, hq2, hq3⟩ := box5 (w := w2) hz (.string ⟨#[]⟩) (.int .i64 0) (.int .i64 0) (.int .i64 0) (.slice none 0 0)
  have hb2 := box5_below (below_step (below_alloc (Below.refl w.heap.size w) _) HBL.out) (Nat.le_refl w.heap.size) (.string ⟨#[]⟩) (.int .i64 0) (.int .i64 0) (.int .i64 0) (.slice none 0 0)
  refine bodyPost_ret (results_ctt rfl _ _ w.heap.size 35 #[.string ⟨#[]⟩, .int .i64 0, .int .i64 0, .int .i64 0, .slice none 0 0] (0, 0) _ rfl hq1 Tryz.underlying35 rfl (by kernel_rfl)) rfl ?_
  refine ⟨_, ?_, Kd.R_nil _ _ _ _ _, hb2⟩
  rw [← HE.out]
  rfl
end Go.Proofs.YtniknpjeknmpjaaGreatDoor.Q
namespace Go.Proofs.YtniknpjeknmpjaaGreatDoor.Q
open Go.RowKit Go.Proofs.YtniknpjeknmpjaaGreatDoorW.PrintWords Go.Proofs.YtniknpjeknmpjaaGreatDoorW.PrintLast Go.Proofs.YtniknpjeknmpjaaGreatDoorW.PrintMore
attribute [local go_sem] max2_int min2_int max_two min_two max_three min_three max_four min_four
set_option linter.unusedVariables false
set_option linter.unusedSimpArgs false

mutual
def cubbylaw08_TextCodes.j0 : Nat → Bool → ByteArray → Int → Int → Int → List (List (SIns)) → Option (Bool)
 | 0, _, _, _, _, _, _ => none
 | k + 1, x20, x341000, x341001, x341002, x341003, x341004 => if x20 = true then (some true) else ((text_PrintCode.f x341000 x341001 x341002 x341003 x341004).bind fun bt342 => ((cubbyref08_PrintCode.f k x341000 x341001 x341002 x341003 x341004).bind fun bt344 => (if bt342.1.toList = bt344.1.toList then (cubbylaw08_TextCodes.j1 k bt342.1 bt342.2 (bt342.2 != bt344.2)) else (cubbylaw08_TextCodes.j1 k bt342.1 bt342.2 true))))
def cubbylaw08_TextCodes.j1 : Nat → ByteArray → Int → Bool → Option (Bool)
 | 0, _, _, _ => none
 | k + 1, x3, x4, x38 => if x38 = true then (some false) else (if x4 = 0 then ((text_ParseCode.f x3).bind fun bt346 => ((text_PrintCode.f bt346.1 bt346.2.1 bt346.2.2.1 bt346.2.2.2.1 bt346.2.2.2.2.1).bind fun bt356 => (if bt346.2.2.2.2.2.2 = 0 then (if bt346.2.2.2.2.2.1 = 0 then (if bt356.2 = 0 then (some (bt356.1.toList == x3.toList)) else (some false)) else (some false)) else (some false)))) else (some (x3.toList == ([] : List UInt8))))
end
def cubbylaw08_TextCodes.f (k : Nat) (a0_0 : ByteArray) (a0_1 : Int) (a0_2 : Int) (a0_3 : Int) (l0_4 : List (List (SIns))) : Option (Bool) := (cubbylaw08_heavy.f k l0_4).bind fun t341 => (if t341 = true then (cubbylaw08_TextCodes.j0 k true a0_0 a0_1 a0_2 a0_3 l0_4) else (cubbylaw08_TextCodes.j0 k (decide ((a0_0.size : Int) > 256)) a0_0 a0_1 a0_2 a0_3 l0_4))
set_option maxHeartbeats 8000000 in
set_option maxRecDepth 100000 in
theorem cubbylaw08_TextCodes.calls (k : Nat) (a0_0 : ByteArray) (a0_1 : Int) (a0_2 : Int) (a0_3 : Int) (A0_4 : Option Addr) (c0_4 : Nat) (l0_4 : List (List (SIns))) (r : Bool) (w : World) (hL : LaidW w) (hr : r = true) (hr0_4 : Kd.C (Kd.slice 44 kIns) w A0_4 l0_4.length l0_4) (hc0_4 : l0_4.length ≤ c0_4) (h : cubbylaw08_TextCodes.f k a0_0 a0_1 a0_2 a0_3 l0_4 = some r) :
 Calls Tryz.prog 4 #[.agg #[.string a0_0, .int .i64 a0_1, .int .i64 a0_2, .int .i64 a0_3, .slice A0_4 l0_4.length c0_4]] w fun e w' => e = .returned (.bool r) ∧ Below w.heap.size w w' := by
 have hu35 := Tryz.underlying35
 have HR0_4 := zA hr0_4
 have HC0_4 := zA hc0_4
 clear hr0_4 hc0_4
 have HB := zA (Below.refl w.heap.size w)
 have HLd := zA hL
 clear hL
 have HRt := zA hr
 clear hr
 have H := h; clear h; unfold cubbylaw08_TextCodes.f at H
 have HC2 := zA H
 clear H
 go_enter Tryz.func4, Tryz.ntmps4
 go_upto_region 1 with (first | ((with_reducible refine gate_dst (N := 1) rfl ?_); (try (refine gate_guard (by rfl) ?_; dsimp only)); refine box_event (by rfl) (N := 1) (by rfl) (cs := #[.string a0_0, .int .i64 a0_1, .int .i64 a0_2, .int .i64 a0_3, .slice A0_4 l0_4.length c0_4]) (t := 35) ?hr ?_; (case hr => go_simp <;> rfl); intro gb340 hg w3 hbox hb; have BK340 := zA (hbox); have GW340 := qG hg; have GE340 := GW340; replace HB := qH hb; clear hb hbox hg))
 (try simp only [Act.put, List.setIfInBounds_toArray, List.set_cons_zero, List.set_cons_succ])
 go_cut [20] (fun v20 wc => ∃ (kq : Nat) (x20_1 : Bool), v20 = .bool x20_1 ∧ Aside0 (cubbylaw08_TextCodes.j0 kq x20_1 a0_0 a0_1 a0_2 a0_3 l0_4 = some r) ∧ Aside0 (kq ≤ k) ∧ Aside0 (wc.heap[gb340]? = some (.cells #[.string a0_0, .int .i64 a0_1, .int .i64 a0_2, .int .i64 a0_3, (.slice A0_4 l0_4.length c0_4)] 35 (0, 0))) ∧ Aside0 (Below w.heap.size w wc))
 case first =>
  have H := HC2.out
  clear HC2
  replace H := qb H; obtain ⟨t341, A4, H⟩ := H
  by_cases c5 : t341 = true
  ·subst c5
   have H1 : (cubbylaw08_TextCodes.j0 k true a0_0 a0_1 a0_2 a0_3 l0_4) = some r := by rw [zC rfl] at H; exact H
   clear H
   have H := H1
   clear H1
   have H' := zA H
   clear H
   have z6_0 := bk5 BK340.out
   go_wp2_with (first | ((with_reducible refine gate_callee (f := 6) rfl ?_); refine goesL_ (some 14) rfl rfl Tryz.func6 (by kernel_rfl) rfl #[.slice A0_4 l0_4.length c0_4] rfl qL ?_; (with_reducible refine (cubbylaw08_heavy.calls k _ _ l0_4 true _ ?side1 ?side2 A4.out).mono ?_); (case side1 => exact qCB HR0_4.out); (case side2 => exact HC0_4.out); rintro e w7 ⟨rfl, hb⟩; refine ⟨_, rfl, ?_⟩; replace BK340 := qW BK340 hb; replace HB := qH hb; (try clear hb)))
   go_meet
   case rel => exact ⟨_, (true), qT, H', ⟨qO⟩, ⟨qK BK340.out⟩, ⟨qB⟩⟩
  ·replace c5 := Bool.eq_false_iff.mpr c5
   subst c5
   have H1 : (cubbylaw08_TextCodes.j0 k (decide ((a0_0.size : Int) > 256)) a0_0 a0_1 a0_2 a0_3 l0_4) = some r := by rw [zD (show ¬ (false = true) by decide)] at H; exact H
   clear H
   have H := H1
   clear H1
   have H' := zA H
   clear H
   have z8_0 := bk5 BK340.out
   go_wp2_with (first | ((with_reducible refine gate_callee (f := 6) rfl ?_); refine goesL_ (some 14) rfl rfl Tryz.func6 (by kernel_rfl) rfl #[.slice A0_4 l0_4.length c0_4] rfl qL ?_; (with_reducible refine (cubbylaw08_heavy.calls k _ _ l0_4 false _ ?side1 ?side2 A4.out).mono ?_); (case side1 => exact qCB HR0_4.out); (case side2 => exact HC0_4.out); rintro e w9 ⟨rfl, hb⟩; refine ⟨_, rfl, ?_⟩; replace BK340 := qW BK340 hb; replace HB := qH hb; (try clear hb); have z10_0 := bk5 BK340.out))
   go_meet
   case rel => exact ⟨_, (decide ((a0_0.size : Int) > 256)), qT, H', ⟨qO⟩, ⟨qK BK340.out⟩, ⟨qB⟩⟩
 case rest =>
  clear HC2
  try clear p2; try clear c4; try clear c5; try clear c6; try clear z10_0; try clear z6_0; try clear z8_0
  obtain ⟨kq, x20_1, rfl, HA, HJ1, BK340, HB⟩ := hcut
  cases kq with
  | zero => exact absurd HA.out (by simp [cubbylaw08_TextCodes.j0])
  | succ kj1 =>
   have H := HA.out
   clear HA
   simp only [cubbylaw08_TextCodes.j0] at H
   by_cases c11 : x20_1 = true
   ·subst c11
    have H1 : (some true) = some r := by rw [zC rfl] at H; exact H
    clear H
    have H := H1
    clear H1
    obtain rfl := zI H
    go_wp2
    go_ret
    exact ⟨qE, qB⟩
   ·replace c11 := Bool.eq_false_iff.mpr c11
    subst c11
    have H1 : ((text_PrintCode.f a0_0 a0_1 a0_2 a0_3 l0_4).bind fun bt342 => ((cubbyref08_PrintCode.f kj1 a0_0 a0_1 a0_2 a0_3 l0_4).bind fun bt344 => (if bt342.1.toList = bt344.1.toList then (cubbylaw08_TextCodes.j1 kj1 bt342.1 bt342.2 (bt342.2 != bt344.2)) else (cubbylaw08_TextCodes.j1 kj1 bt342.1 bt342.2 true)))) = some r := by rw [zD (show ¬ (false = true) by decide)] at H; exact H
    clear H
    have H := H1
    clear H1
    replace H := Option.bind_eq_some_iff.mp H
    obtain ⟨⟨t342, t343⟩, A120, H⟩ := H
    replace H : ((cubbyref08_PrintCode.f kj1 a0_0 a0_1 a0_2 a0_3 l0_4).bind fun bt344 => (if t342.toList = bt344.1.toList then (cubbylaw08_TextCodes.j1 kj1 t342 t343 (t343 != bt344.2)) else (cubbylaw08_TextCodes.j1 kj1 t342 t343 true))) = some r := H
    have A12 := zA A120
    clear A120
    replace H := Option.bind_eq_some_iff.mp H
    obtain ⟨⟨t344, t345⟩, A130, H⟩ := H
    replace H : (if t342.toList = t344.toList then (cubbylaw08_TextCodes.j1 kj1 t342 t343 (t343 != t345)) else (cubbylaw08_TextCodes.j1 kj1 t342 t343 true)) = some r := H
    have A13 := zA A130
    clear A130
    have HC14 := zA H
    clear H
    have z15_0 := bk5 BK340.out
    go_upto_region 5 with (first | ((with_reducible refine gate_callee (f := 12) rfl ?_); refine goesL_ (some 23) rfl rfl Tryz.func12 (by kernel_rfl) rfl #[.agg #[.string a0_0, .int .i64 a0_1, .int .i64 a0_2, .int .i64 a0_3, .slice A0_4 l0_4.length c0_4]] rfl qL ?_; (with_reducible refine (text_PrintCode.calls a0_0 a0_1 a0_2 a0_3 _ _ l0_4 t342 t343 _ ?side1 ?side2 A12.out (hL := ?side99)).mono ?_); (case side1 => exact qCB HR0_4.out); (case side2 => exact HC0_4.out); (case side99 => exact LaidW.below HLd.out qB); rintro e w16 ⟨rfl, hb⟩; refine ⟨_, rfl, ?_⟩; replace BK340 := qW BK340 hb; replace HB := qH hb; (try clear hb); have z17_0 := bk5 BK340.out) | ((with_reducible refine gate_callee (f := 13) rfl ?_); refine goesL_ (some 28) rfl rfl Tryz.func13 (by kernel_rfl) rfl #[.agg #[.string a0_0, .int .i64 a0_1, .int .i64 a0_2, .int .i64 a0_3, .slice A0_4 l0_4.length c0_4]] rfl qL ?_; (with_reducible refine (cubbyref08_PrintCode.calls kj1 a0_0 a0_1 a0_2 a0_3 _ _ l0_4 t344 t345 _ ?side1 ?side2 A13.out).mono ?_); (case side1 => exact qCB HR0_4.out); (case side2 => exact HC0_4.out); rintro e w18 ⟨rfl, hb⟩; refine ⟨_, rfl, ?_⟩; replace BK340 := qW BK340 hb; replace HB := qH hb; (try clear hb)))
    (try simp only [Act.put, List.setIfInBounds_toArray, List.set_cons_zero, List.set_cons_succ])
    go_cut [38] (fun v38 wc => ∃ (kq : Nat) (x38_13 : Bool), v38 = .bool x38_13 ∧ Aside0 (cubbylaw08_TextCodes.j1 kq t342 t343 x38_13 = some r) ∧ Aside0 (kq ≤ kj1) ∧ Aside0 (wc.heap[gb340]? = some (.cells #[.string a0_0, .int .i64 a0_1, .int .i64 a0_2, .int .i64 a0_3, (.slice A0_4 l0_4.length c0_4)] 35 (0, 0))) ∧ Aside0 (Below w.heap.size w wc))
    case first =>
     have H := HC14.out
     clear HC14
     by_cases c19 : t342.toList = t344.toList
     ·rw [zC c19] at H
      obtain ⟨c19b0, c19b1⟩ := qe c19; clear c19
      (first | rw [c19b0] | (simp only [i64_w, i32_w]; rw [c19b0]) | skip)
      have H' := zA H
      clear H
      go_wp2
      go_meet
      case rel => exact ⟨_, ((t343 != t345)), qT, H', ⟨by have := HJ1.out; first | omega | exact Nat.le_refl _⟩, ⟨qK BK340.out⟩, ⟨qB⟩⟩
     ·rw [zD c19] at H
      obtain ⟨c19b0, c19b1⟩ := qn c19
      (first | rw [c19b0] | (simp only [i64_w, i32_w]; rw [c19b0]) | skip)
      have H' := zA H
      clear H
      go_wp2
      go_meet
      case rel => exact ⟨_, (true), qT, H', ⟨by have := HJ1.out; first | omega | exact Nat.le_refl _⟩, ⟨qK BK340.out⟩, ⟨qB⟩⟩
    case rest =>
     clear HC14
     try clear c1; try clear p2; try clear c4; try clear c5; try clear c6; try clear c11; try clear c12; try clear c13; try clear c19; try clear c19b0 c19b1; try clear z10_0; try clear z15_0; try clear z17_0; try clear z6_0; try clear z8_0
     obtain ⟨kq, x38_13, rfl, HA, HJ13, BK340, HB⟩ := hcut
     cases kq with
     | zero => exact absurd HA.out (by simp [cubbylaw08_TextCodes.j1])
     | succ kj13 =>
      have H := HA.out
      clear HA
      simp only [cubbylaw08_TextCodes.j1] at H
      by_cases c20 : x38_13 = true
      ·subst c20
       have H1 : (some false) = some r := by rw [zC rfl] at H; exact H
       clear H
       have H := H1
       clear H1
       exact absurd ((zI H).trans HRt.out) (by decide)
      ·replace c20 := Bool.eq_false_iff.mpr c20
       subst c20
       have H1 : (if t343 = 0 then ((text_ParseCode.f t342).bind fun bt346 => ((text_PrintCode.f bt346.1 bt346.2.1 bt346.2.2.1 bt346.2.2.2.1 bt346.2.2.2.2.1).bind fun bt356 => (if bt346.2.2.2.2.2.2 = 0 then (if bt346.2.2.2.2.2.1 = 0 then (if bt356.2 = 0 then (some (bt356.1.toList == t342.toList)) else (some false)) else (some false)) else (some false)))) else (some (t342.toList == ([] : List UInt8)))) = some r := by rw [zD (show ¬ (false = true) by decide)] at H; exact H
       clear H
       have H := H1
       clear H1
       by_cases c21 : t343 = 0
       ·rw [zC c21] at H
        obtain ⟨c21b0, c21b1⟩ := qe c21; clear c21
        replace H := Option.bind_eq_some_iff.mp H
        obtain ⟨⟨t346, t347, t348, t349, t350, t353, t354⟩, A220, H⟩ := H
        replace H : ((text_PrintCode.f t346 t347 t348 t349 t350).bind fun bt356 => (if t354 = 0 then (if t353 = 0 then (if bt356.2 = 0 then (some (bt356.1.toList == t342.toList)) else (some false)) else (some false)) else (some false))) = some r := H
        have A22 := zA A220
        clear A220
        replace H := Option.bind_eq_some_iff.mp H
        obtain ⟨⟨t356, t357⟩, A230, H⟩ := H
        replace H : (if t354 = 0 then (if t353 = 0 then (if t357 = 0 then (some (t356.toList == t342.toList)) else (some false)) else (some false)) else (some false)) = some r := H
        have A23 := zA A230
        clear A230
        by_cases c24 : t354 = 0
        ·rw [zC c24] at H
         obtain ⟨c24b0, c24b1⟩ := qe c24; clear c24
         by_cases c25 : t353 = 0
         ·rw [zC c25] at H
          obtain ⟨c25b0, c25b1⟩ := qe c25; clear c25
          by_cases c26 : t357 = 0
          ·rw [zC c26] at H
           obtain ⟨c26b0, c26b1⟩ := qe c26; clear c26
           obtain rfl := zI H
           go_wp2_with (first | ((with_reducible refine gate_callee (f := 14) rfl ?_); refine goesL_ (some 45) rfl rfl Tryz.func14 (by kernel_rfl) rfl #[.string t342] rfl qL ?_; (with_reducible refine (text_ParseCode.calls t342 t346 t347 t348 t349 t350 t353 t354 _ A22.out (hL := ?side99)).mono ?_); (case side99 => exact LaidW.below HLd.out qB); rintro e w27 ⟨v351, rfl, ho0, hb⟩; refine ⟨_, rfl, ?_⟩; have HO352 := zA (Kd.R_lower ho0 (below_size qB)); replace BK340 := qW BK340 hb; replace HB := qH hb; (try clear hb); (try clear ho0)) | ((with_reducible refine gate_dst (N := 7) rfl ?_); (try (refine gate_guard (by rfl) ?_; dsimp only)); refine box_event (by rfl) (N := 7) (by rfl) (cs := #[.string (⟨#[]⟩ : ByteArray), .int .i64 0, .int .i64 0, .int .i64 0, .slice none 0 0]) (t := 35) ?hr ?_; (case hr => go_simp <;> rfl); intro gb355 hg w28 hbox hb; replace HO352 := zA (Kd.R_below (qR HO352.out) hb); have BK355 := zA (hbox); have GW355 := qG hg; have GE355 := GW355; replace HB := qH hb; have NB340_355 := zA ((by rw [hg]; exact Nat.ne_of_lt (blk_lt (g := gb340) (o := .cells #[.string a0_0, .int .i64 a0_1, .int .i64 a0_2, .int .i64 a0_3, .slice A0_4 l0_4.length c0_4] 35 (0, 0)) (qK BK340.out)) : gb340 ≠ gb355)); have NB355_340 := zA ((by rw [hg]; exact Nat.ne_of_gt (blk_lt (g := gb340) (o := .cells #[.string a0_0, .int .i64 a0_1, .int .i64 a0_2, .int .i64 a0_3, .slice A0_4 l0_4.length c0_4] 35 (0, 0)) (qK BK340.out)) : gb355 ≠ gb340)); replace BK340 := qW BK340 hb; clear hb hbox hg; have hnb29 := NB355_340.out; have hnc29 := NB340_355.out; have z30_0 := bk5 BK355.out; obtain ⟨Ao31, co31, eo31⟩ := Kd.R_slice HO352.out; subst eo31) | ((with_reducible refine gate_callee (f := 12) rfl ?_); refine goesL_ (some 51) rfl rfl Tryz.func12 (by kernel_rfl) rfl #[.agg #[.string t346, .int .i64 t347, .int .i64 t348, .int .i64 t349, .slice Ao31 t350.length co31]] rfl qL ?_; (with_reducible refine (text_PrintCode.calls t346 t347 t348 t349 _ _ t350 t356 t357 _ ?side1 ?side2 A23.out (hL := ?side99)).mono ?_); (case side1 => refine (Kd.R_reads' (e := 41) (base := w.heap.size) (ok := fun k_ => True) (n := t350.length) (c := co31) ?_).2.2; exact (by (with_reducible repeat (first | apply Kd.R_alloc | apply Kd.R_drewN | apply Kd.R_drew)); exact (Kd.R_mono (Kd.R_far (p := ⟨gb355, 4, none⟩) (Kd.R_far (p := ⟨gb355, 3, none⟩) (Kd.R_far (p := ⟨gb355, 2, none⟩) (Kd.R_far (p := ⟨gb355, 1, none⟩) (Kd.R_far (p := ⟨gb355, 0, none⟩) (Kd.R_types HO352.out BK355.out (by decide)) (fun _ hk => hk.2) (.string t346)) (fun _ hk => hk.2) (.int .i64 t347)) (fun _ hk => hk.2) (.int .i64 t348)) (fun _ hk => hk.2) (.int .i64 t349)) (fun _ hk => hk.2) (.slice Ao31 t350.length co31)) (fun _ h_ => h_.1)))); (case side2 => exact (Kd.R_reads' HO352.out).2.1); (case side99 => exact LaidW.below HLd.out qB); rintro e w32 ⟨rfl, hb⟩; refine ⟨_, rfl, ?_⟩; replace HO352 := zA (Kd.R_below (by (with_reducible repeat (first | apply Kd.R_alloc | apply Kd.R_drewN | apply Kd.R_drew)); exact (Kd.R_mono (Kd.R_far (p := ⟨gb355, 4, none⟩) (Kd.R_far (p := ⟨gb355, 3, none⟩) (Kd.R_far (p := ⟨gb355, 2, none⟩) (Kd.R_far (p := ⟨gb355, 1, none⟩) (Kd.R_far (p := ⟨gb355, 0, none⟩) (Kd.R_types HO352.out BK355.out (by decide)) (fun _ hk => hk.2) (.string t346)) (fun _ hk => hk.2) (.int .i64 t347)) (fun _ hk => hk.2) (.int .i64 t348)) (fun _ hk => hk.2) (.int .i64 t349)) (fun _ hk => hk.2) (.slice Ao31 t350.length co31)) (fun _ h_ => h_.1))) hb); replace BK340 := zA (blk_below (g := gb340) (o := .cells #[.string a0_0, .int .i64 a0_1, .int .i64 a0_2, .int .i64 a0_3, .slice A0_4 l0_4.length c0_4] 35 (0, 0)) (by (with_reducible repeat (first | refine blk_drewN ?_ _ | refine blk_drew ?_ | refine blk_alloc ?_ _)); refine blk_far ?_ NB340_355.out _; (with_reducible repeat (first | refine blk_drewN ?_ _ | refine blk_drew ?_ | refine blk_alloc ?_ _)); refine blk_far ?_ NB340_355.out _; (with_reducible repeat (first | refine blk_drewN ?_ _ | refine blk_drew ?_ | refine blk_alloc ?_ _)); refine blk_far ?_ NB340_355.out _; (with_reducible repeat (first | refine blk_drewN ?_ _ | refine blk_drew ?_ | refine blk_alloc ?_ _)); refine blk_far ?_ NB340_355.out _; (with_reducible repeat (first | refine blk_drewN ?_ _ | refine blk_drew ?_ | refine blk_alloc ?_ _)); refine blk_far ?_ NB340_355.out _; (with_reducible repeat (first | refine blk_drewN ?_ _ | refine blk_drew ?_ | refine blk_alloc ?_ _)); exact BK340.out) hb); replace BK355 := zA (blk_below (g := gb355) (o := .cells #[.string t346, .int .i64 t347, .int .i64 t348, .int .i64 t349, .slice Ao31 t350.length co31] 35 (0, 0)) (by (with_reducible repeat (first | refine blk_drewN ?_ _ | refine blk_drew ?_ | refine blk_alloc ?_ _)); refine blk_put (cs := #[.string t346, .int .i64 t347, .int .i64 t348, .int .i64 t349, .slice none 0 0]) ?_ 4 _ rfl; (with_reducible repeat (first | refine blk_drewN ?_ _ | refine blk_drew ?_ | refine blk_alloc ?_ _)); refine blk_put (cs := #[.string t346, .int .i64 t347, .int .i64 t348, .int .i64 0, .slice none 0 0]) ?_ 3 _ rfl; (with_reducible repeat (first | refine blk_drewN ?_ _ | refine blk_drew ?_ | refine blk_alloc ?_ _)); refine blk_put (cs := #[.string t346, .int .i64 t347, .int .i64 0, .int .i64 0, .slice none 0 0]) ?_ 2 _ rfl; (with_reducible repeat (first | refine blk_drewN ?_ _ | refine blk_drew ?_ | refine blk_alloc ?_ _)); refine blk_put (cs := #[.string t346, .int .i64 0, .int .i64 0, .int .i64 0, .slice none 0 0]) ?_ 1 _ rfl; (with_reducible repeat (first | refine blk_drewN ?_ _ | refine blk_drew ?_ | refine blk_alloc ?_ _)); refine blk_put (cs := #[.string (⟨#[]⟩ : ByteArray), .int .i64 0, .int .i64 0, .int .i64 0, .slice none 0 0]) ?_ 0 _ rfl; (with_reducible repeat (first | refine blk_drewN ?_ _ | refine blk_drew ?_ | refine blk_alloc ?_ _)); exact BK355.out) hb); replace HB := qH hb))
           go_ret
           exact ⟨qE, qB⟩
          ·rw [zD c26] at H
           obtain ⟨c26b0, c26b1⟩ := qn c26
           exact absurd ((zI H).trans HRt.out) (by decide)
         ·rw [zD c25] at H
          obtain ⟨c25b0, c25b1⟩ := qn c25
          exact absurd ((zI H).trans HRt.out) (by decide)
        ·rw [zD c24] at H
         obtain ⟨c24b0, c24b1⟩ := qn c24
         exact absurd ((zI H).trans HRt.out) (by decide)
       ·rw [zD c21] at H
        obtain ⟨c21b0, c21b1⟩ := qn c21
        obtain rfl := zI H
        go_wp2
        go_ret
        exact ⟨qE, qB⟩
end Go.Proofs.YtniknpjeknmpjaaGreatDoor.Q
namespace Go.Proofs.YtniknpjeknmpjaaGreatDoor.RTextCodes
open Go Go.RowKit Go.Proofs.YtniknpjeknmpjaaGreatDoorW.PrintWords Go.Proofs.YtniknpjeknmpjaaGreatDoor.Q
set_option linter.unusedVariables false
def GIns (x : SIns) : Prop := (Lit.int .i64 (x.f0)).wf = true ∧ (Lit.int .i64 (x.f1)).wf = true ∧ (Lit.int .i64 (x.f2)).wf = true ∧ (Lit.int .i64 (x.f3)).wf = true ∧ (x.f4).size ≤ 140737488351232 ∧ ((x.f5).length * 8 ≤ 140737488351232 ∧ (x.f5).length ≤ maxLen ∧ ∀ y1 ∈ (x.f5), (Lit.int .i64 (y1)).wf = true)
def TextCodes.Pure : Prop := ∀ (a0_0 : ByteArray) (a0_1 : Int) (a0_2 : Int) (a0_3 : Int) (l0_4 : List (List (SIns))), (a0_0).size ≤ 140737488351232 → (Lit.int .i64 (a0_1)).wf = true → (Lit.int .i64 (a0_2)).wf = true → (Lit.int .i64 (a0_3)).wf = true → ((l0_4).length * 24 ≤ 140737488351232 ∧ (l0_4).length ≤ maxLen ∧ ∀ y1 ∈ (l0_4), ((y1).length * 72 ≤ 140737488351232 ∧ (y1).length ≤ maxLen ∧ ∀ y2 ∈ (y1), GIns (y2))) → ∃ k, cubbylaw08_TextCodes.f k a0_0 a0_1 a0_2 a0_3 l0_4 = some true
end Go.Proofs.YtniknpjeknmpjaaGreatDoor.RTextCodes
namespace Go.Proofs.YtniknpjeknmpjaaGreatDoor.PlainNum
open Go Go.RowKit Go.Proofs.YtniknpjeknmpjaaGreatDoorW.PrintWords Go.Proofs.YtniknpjeknmpjaaGreatDoorW.PrintMore Go.Proofs.YtniknpjeknmpjaaGreatDoor.Q Go.Proofs.YtniknpjeknmpjaaGreatDoor.Plain
set_option linter.unusedVariables false
theorem dec_small {u : Nat} (h : u < 10) : Lib.decDigits u = [UInt8.ofNat (48 + u)] := Lib.decDigits_one h
theorem dec_big {u : Nat} (h : ¬ u < 10) : Lib.decDigits u = Lib.decDigits (u / 10) ++ [UInt8.ofNat (48 + u % 10)] := by rw [Lib.decDigits, dif_neg h]
theorem digit_nat {d : Nat} (h : d < 10) : (UInt8.ofNat (48 + d)).toNat = 48 + d := by simp; omega
theorem dec_mem : ∀ (u : Nat), ∀ b ∈ Lib.decDigits u, 48 ≤ b.toNat ∧ b.toNat ≤ 57 := by
 intro u
 induction u using Nat.strongRecOn with
 | _ u ih =>
  by_cases h : u < 10
  ·rw [dec_small h]; intro b hb; rw [List.mem_singleton.1 hb, digit_nat h]; omega
  ·rw [dec_big h]; intro b hb
   rcases List.mem_append.1 hb with hb | hb
   ·exact ih (u / 10) (by omega) b hb
   ·rw [List.mem_singleton.1 hb, digit_nat (by omega)]; omega
theorem dec_ne (u : Nat) : Lib.decDigits u ≠ [] := by
 by_cases h : u < 10
 ·rw [dec_small h]; simp
 ·rw [dec_big h]; simp
theorem dec_len : ∀ (k u : Nat), u < 10 ^ (k + 1) → (Lib.decDigits u).length ≤ k + 1
 | 0, u, h => by rw [dec_small (by simpa using h)]; simp
 | k + 1, u, h => by
  by_cases h1 : u < 10
  ·rw [dec_small h1]; simp
  ·have := dec_len k (u / 10) (by rw [Nat.pow_succ] at h; omega)
   rw [dec_big h1]; simp; omega
theorem from_snoc : ∀ (l : List UInt8) (acc n : Nat) (d : Nat), Lib.decFrom acc l = some n → d < 10 → Lib.decFrom acc (l ++ [UInt8.ofNat (48 + d)]) = some (n * 10 + d)
 | [], acc, n, d, h, hd => by
  simp only [Lib.decFrom, Option.some.injEq] at h
  subst h
  have : Lib.digitVal (UInt8.ofNat (48 + d)) = some d := by unfold Lib.digitVal; rw [digit_nat hd, zC (by omega)]; congr 1; omega
  simp only [List.nil_append, Lib.decFrom, this]
 | b :: l, acc, n, d, h, hd => by
  simp only [List.cons_append, Lib.decFrom] at h ⊢
  cases hv : Lib.digitVal b with
  | none => rw [hv] at h; simp at h
  | some v => rw [hv] at h; simp only at h ⊢; exact from_snoc l _ n d h hd
theorem dec_val : ∀ (u : Nat), Lib.decFrom 0 (Lib.decDigits u) = some u := by
 intro u
 induction u using Nat.strongRecOn with
 | _ u ih =>
  by_cases h : u < 10
  ·rw [dec_small h]; have := from_snoc [] 0 0 u rfl h; simpa using this
  ·rw [dec_big h, from_snoc _ 0 _ (u % 10) (ih (u / 10) (by omega)) (by omega)]; congr 1; omega
theorem dec_atoi {u : Nat} (h : u < 10000000000) : Lib.atoiAll (Lib.decDigits u) = .ok (u : Int) := by
 have hl := dec_len 9 u (by simpa using h)
 rw [Lib.atoiAll_short _ (by omega)]
 have hv := dec_val u
 have hm := dec_mem u
 cases hd : Lib.decDigits u with
 | nil => exact absurd hd (dec_ne u)
 | cons b r =>
  rw [hd] at hv hm
  have hb := hm b List.mem_cons_self
  have e1 : (b == 45) = false := by rw [beq_eq_false_iff_ne]; intro e; subst e; simp at hb
  have e2 : (b == 43) = false := by rw [beq_eq_false_iff_ne]; intro e; subst e; simp at hb
  unfold Lib.atoi
  simp only [e1, e2, Bool.false_eq_true, if_false, Lib.decNat, List.isEmpty_cons, hv, Option.map_some, Lib.NumEnd.ofOption]
def num (n : Int) : ByteArray := ⟨(Lib.decDigits n.toNat).toArray⟩
theorem num_list (n : Int) : (num n).data.toList = Lib.decDigits n.toNat := by simp [num]
theorem itoa_num {n : Int} (h : 0 ≤ n) : (⟨(Lib.itoa n).toArray⟩ : ByteArray) = num n := by
 unfold num Lib.itoa
 rw [zD (by omega)]
theorem numOf_num {n : Int} (h0 : 0 ≤ n) (h1 : n < 2147483648) : numOf (num n) = some n := by
 have h := dec_atoi (u := n.toNat) (by omega)
 rw [← num_list, Int.toNat_of_nonneg h0] at h
 rw [numOf_ok h, zC ⟨h0, h1, itoa_num h0⟩]
theorem numOf_some {t : ByteArray} {v : Int} (h : numOf t = some v) : 0 ≤ v ∧ v < 2147483648 ∧ t = num v := by
 unfold numOf at h
 split at h
 ·split at h
  ·rename_i hc
   obtain rfl := zI h
   exact ⟨hc.1, hc.2.1, by rw [← hc.2.2, itoa_num hc.1]⟩
  ·cases h
 ·cases h
theorem num_size {n : Int} (h1 : n < 2147483648) : (num n).size ≤ 10 := by
 have := dec_len 9 n.toNat (by have e10 : (10 : Nat) ^ (9 + 1) = 10000000000 := (by decide); omega)
 show (num n).data.size ≤ 10
 rw [← Array.length_toList, num_list]
 exact this
def tens : ByteArray := ⟨#[48, 49, 50, 51, 52, 53, 54, 55, 56, 57]⟩
theorem tens_at {d : Nat} (h : d < 10) : (tens.extract d (d + 1)).data.toList = [UInt8.ofNat (48 + d)] := by
 have : d = 0 ∨ d = 1 ∨ d = 2 ∨ d = 3 ∨ d = 4 ∨ d = 5 ∨ d = 6 ∨ d = 7 ∨ d = 8 ∨ d = 9 := by omega
 rcases this with rfl | rfl | rfl | rfl | rfl | rfl | rfl | rfl | rfl | rfl <;> rfl
theorem tens_size {d : Nat} (h : d < 10) : ((⟨#[48, 49, 50, 51, 52, 53, 54, 55, 56, 57]⟩ : ByteArray).extract d (d + 1)).size = 1 := by
 show (tens.extract d (d + 1)).data.size = 1
 rw [← Array.length_toList, tens_at h]; rfl
theorem ba_ext {a b : ByteArray} (h : a.data.toList = b.data.toList) : a = b := toList_inj.1 (by rw [toList_data, toList_data, h])
theorem bt_get {s : ByteArray} {j : Nat} (h : j < s.data.toList.length) : bt s (j : Int) = ((s.data.toList[j]).toNat : Int) := by
 have hs : j < s.size := by simpa using h
 unfold bt
 rw [dif_pos (by simpa using hs)]
 simp
 rfl
def wordsL : List UInt8 → List (List UInt8)
 | [] => [[]]
 | b :: l => if b = 32 then [] :: wordsL l else match wordsL l with
  | w :: r => (b :: w) :: r
  | [] => [[b]]
theorem wordsL_ne : ∀ l, wordsL l ≠ []
 | [] => by simp [wordsL]
 | b :: l => by
  unfold wordsL
  split
  ·simp
  ·split <;> simp
theorem wordsL_one : ∀ {a : List UInt8}, (32 : UInt8) ∉ a → wordsL a = [a]
 | [], _ => rfl
 | b :: a, h => by
  have h1 : ¬ b = 32 := fun e => h (by rw [e]; exact List.mem_cons_self)
  unfold wordsL
  rw [zD h1, wordsL_one (fun hm => h (List.mem_cons_of_mem _ hm))]
theorem wordsL_cons : ∀ {a : List UInt8} (b : List UInt8), (32 : UInt8) ∉ a → wordsL (a ++ 32 :: b) = a :: wordsL b
 | [], b, _ => by simp [wordsL]
 | c :: a, b, h => by
  have h1 : ¬ c = 32 := fun e => h (by rw [e]; exact List.mem_cons_self)
  simp only [List.cons_append, wordsL, zD h1, wordsL_cons b (fun hm => h (List.mem_cons_of_mem _ hm))]
def unw : List (List UInt8) → List UInt8
 | [] => []
 | [w] => w
 | w :: v :: r => w ++ 32 :: unw (v :: r)
theorem unw_words : ∀ l, unw (wordsL l) = l
 | [] => rfl
 | b :: l => by
  have ih := unw_words l
  have hne := wordsL_ne l
  unfold wordsL
  split
  ·rename_i h
   cases hw : wordsL l with
   | nil => exact absurd hw hne
   | cons w r => rw [hw] at ih; simp only [unw, List.nil_append, ih, h]
  ·cases hw : wordsL l with
   | nil => exact absurd hw hne
   | cons w r =>
    rw [hw] at ih
    cases r with
    | nil => simp only [unw] at ih ⊢; rw [ih]
    | cons v r => simp only [unw, List.cons_append] at ih ⊢; rw [ih]
def bytesOfL (ws : List ByteArray) : List (List UInt8) := ws.map fun w => w.data.toList
theorem bytes_inj {ws vs : List ByteArray} (h : bytesOfL ws = bytesOfL vs) : ws = vs := by
 exact (List.map_inj_right (f := fun w : ByteArray => w.data.toList) (fun x y hxy => ba_ext hxy)).1 h
theorem ex_list (s : ByteArray) (i j : Nat) : (s.extract i j).data.toList = (s.data.toList.drop i).take (j - i) := by
 rw [ByteArray.data_extract, Array.toList_extract]
 first | done | rfl | simp [List.extract]
theorem index_none : ∀ {l : List UInt8}, Lib.indexByte l 32 = -1 → (32 : UInt8) ∉ l
 | [], _ => by simp
 | b :: l, h => by
  unfold Lib.indexByte at h
  split at h
  ·simp at h
  ·rename_i hb
   have hge := Lib.indexByte_ge l 32
   split at h
   ·rename_i h2
    have := index_none (by simpa using h2)
    intro hm
    rcases List.mem_cons.1 hm with h3 | h3
    ·exact hb (by simp [h3])
    ·exact this h3
   ·rename_i h2
    have h3 : Lib.indexByte l 32 ≠ -1 := by simpa using h2
    omega
theorem index_some : ∀ {l : List UInt8} {i : Nat}, Lib.indexByte l 32 = (i : Int) → i < l.length ∧ l = l.take i ++ 32 :: l.drop (i + 1) ∧ (32 : UInt8) ∉ l.take i
 | [], i, h => by simp only [Lib.indexByte] at h; omega
 | b :: l, i, h => by
  unfold Lib.indexByte at h
  split at h
  ·rename_i hb
   obtain rfl : i = 0 := by omega
   have : b = 32 := by simpa using hb
   subst this
   simp
  ·rename_i hb
   have hge := Lib.indexByte_ge l 32
   split at h
   ·omega
   ·rename_i h2
    have h3 : Lib.indexByte l 32 ≠ -1 := by simpa using h2
    obtain ⟨q, hq⟩ : ∃ q : Nat, Lib.indexByte l 32 = q := ⟨(Lib.indexByte l 32).toNat, by omega⟩
    obtain rfl : i = q + 1 := by omega
    obtain ⟨h4, h5, h6⟩ := index_some hq
    refine ⟨by simp; omega, ?_, ?_⟩
    ·rw [List.take_succ_cons, List.drop_succ_cons, List.cons_append, ← h5]
    ·rw [List.take_succ_cons]
     intro hm
     rcases List.mem_cons.1 hm with h7 | h7
     ·exact hb (by simp [h7])
     ·exact h6 h7
theorem splitB_words : ∀ (k : Nat) (s : ByteArray), s.data.toList.count 32 ≤ k → bytesOfL (Lib.splitB blank1 0 k s) = wordsL s.data.toList
 | 0, s, h => by
  have hn : (32 : UInt8) ∉ s.data.toList := fun hm => by have := List.count_pos_iff.2 hm; omega
  rw [wordsL_one hn]; rfl
 | k + 1, s, h => by
  have hi : Lib.indexB s blank1 = Lib.indexByte s.data.toList 32 := by show Lib.index s.data.toList [32] = _; rw [Lib.index_one]
  unfold Lib.splitB
  rw [hi]
  have hge := Lib.indexByte_ge s.data.toList 32
  by_cases h1 : Lib.indexByte s.data.toList 32 = -1
  ·rw [zC (by rw [h1]; rfl), wordsL_one (index_none h1)]; rfl
  ·obtain ⟨i, hq⟩ : ∃ i : Nat, Lib.indexByte s.data.toList 32 = i := ⟨(Lib.indexByte s.data.toList 32).toNat, by omega⟩
   obtain ⟨h2, h3, h4⟩ := index_some hq
   rw [zD (by simpa using h1), hq, Int.toNat_natCast]
   have hsz : s.size = s.data.toList.length := by simp
   have e1 : (s.extract 0 (i + 0)).data.toList = s.data.toList.take i := by rw [ex_list]; simp
   have e2 : (s.extract (i + blank1.size) s.size).data.toList = s.data.toList.drop (i + 1) := by
    rw [ex_list, hsz]
    show (s.data.toList.drop (i + 1)).take _ = _
    have hb1 : blank1.size = 1 := rfl
    rw [List.take_of_length_le (by rw [List.length_drop, hb1]; omega)]
   have hc : (s.data.toList.drop (i + 1)).count 32 ≤ k := by
    have := congrArg (List.count 32) h3
    rw [List.count_append, List.count_cons_self] at this
    omega
   have ih := splitB_words k (s.extract (i + blank1.size) s.size) (by rw [e2]; exact hc)
   have hw := wordsL_cons (s.data.toList.drop (i + 1)) h4
   rw [← h3] at hw
   rw [hw, ← e2, ← ih]
   show (s.extract 0 (i + 0)).data.toList :: _ = _
   rw [e1]
   rfl
theorem wordsOf_bytes (s : ByteArray) : bytesOfL (wordsOf s) = wordsL s.data.toList := by
 refine splitB_words _ s ?_
 show _ ≤ Lib.count s.data.toList [32]
 rw [Lib.count_one]
 exact Nat.le_refl _
theorem wordsOf_of {s : ByteArray} {ws : List ByteArray} (h : bytesOfL ws = wordsL s.data.toList) : wordsOf s = ws := bytes_inj ((wordsOf_bytes s).trans h.symm)
end Go.Proofs.YtniknpjeknmpjaaGreatDoor.PlainNum
namespace Go.Proofs.YtniknpjeknmpjaaGreatDoor.PlainText
open Go Go.RowKit Go.Proofs.YtniknpjeknmpjaaGreatDoorW.PrintWords Go.Proofs.YtniknpjeknmpjaaGreatDoorW.PrintMore Go.Proofs.YtniknpjeknmpjaaGreatDoor.Q Go.Proofs.YtniknpjeknmpjaaGreatDoor.Plain
set_option linter.unusedVariables false
set_option linter.unusedSimpArgs false
def emp : ByteArray := ⟨#[]⟩
def wordR (op : Int) (code : Bool) : ByteArray := match text_of.f op code with
 | some (_, wd, _, true) => wd
 | _ => emp
def numsR (x : SIns) (code : Bool) : List Int :=
 if 3 ≤ x.f0 ∧ x.f0 ≤ 7 then [x.f1, x.f2, x.f3] else if x.f0 = 9 then [x.f2, x.f3] else if x.f0 = 10 ∨ x.f0 = 12 ∨ x.f0 = 14 then [x.f2] else if x.f0 = 13 then [x.f2, x.f3, x.f1] else if x.f0 = 11 then (if code = true then [x.f1, x.f2] else x.f1 :: x.f5) else [x.f1, x.f2]
theorem op_cases (op : Int) : op = 1 ∨ op = 2 ∨ op = 3 ∨ op = 4 ∨ op = 5 ∨ op = 6 ∨ op = 7 ∨ op = 8 ∨ op = 9 ∨ op = 10 ∨ op = 11 ∨ op = 12 ∨ op = 13 ∨ op = 14 ∨ op = 21 ∨ op = 22 ∨ op = 0 ∨ (op < 0 ∨ 14 < op) ∧ op ≠ 21 ∧ op ≠ 22 := by omega
theorem text_of_none {op : Int} {code : Bool} (h : op = 0 ∨ (op < 0 ∨ 14 < op) ∧ op ≠ 21 ∧ op ≠ 22) : text_of.f op code = some (0, emp, emp, false) := by
 unfold text_of.f
 rw [zD (by omega), zD (by omega), zD (by omega), zD (by omega), zD (by omega), zD (by omega), zD (by omega), zD (by omega), zD (by omega), zD (by omega), zD (by omega), zD (by omega), zD (by omega), zD (by omega), zD (by omega), zD (by omega)]
 rfl
theorem word_ev (op : Int) (code : Bool) : Ev (fun k => cubbyref08_word.f k op code) (wordR op code) := by
 refine ⟨3, fun k hk => ?_⟩
 obtain ⟨q, rfl⟩ : ∃ q, k = q + 3 := ⟨k - 3, by omega⟩
 rcases op_cases op with rfl | rfl | rfl | rfl | rfl | rfl | rfl | rfl | rfl | rfl | rfl | rfl | rfl | rfl | rfl | rfl | rfl | h
 all_goals first
  | (cases code <;> rfl)
  | skip
 have e : wordR op code = emp := by unfold wordR; rw [text_of_none (.inr h)]
 rw [e]
 unfold cubbyref08_word.f
 simp only [zJ]
 have h2 : (op == 21) = false := by simpa using h.2.1
 have go : cubbyref08_word.j0 (q + 3) op code ([(⟨#[]⟩ : ByteArray), (⟨#[99, 111, 110, 115, 116]⟩ : ByteArray), (⟨#[99, 111, 112, 121]⟩ : ByteArray), (⟨#[97, 100, 100]⟩ : ByteArray), (⟨#[115, 117, 98]⟩ : ByteArray), (⟨#[109, 117, 108]⟩ : ByteArray), (⟨#[108, 101, 115, 115]⟩ : ByteArray), (⟨#[100, 105, 118]⟩ : ByteArray), (⟨#[108, 111, 97, 100]⟩ : ByteArray), (⟨#[115, 116, 111, 114, 101]⟩ : ByteArray), (⟨#[111, 117, 116]⟩ : ByteArray), (⟨#[99, 97, 108, 108]⟩ : ByteArray), (⟨#[106, 117, 109, 112]⟩ : ByteArray), (⟨#[98, 114, 97, 110, 99, 104]⟩ : ByteArray), (⟨#[114, 101, 116]⟩ : ByteArray)] : List ByteArray) false = some emp := by
  simp only [cubbyref08_word.j0]
  rw [zD (by simp), h2]
  cases code with
  | false => simp only [cubbyref08_word.j1]; rw [zD (by simp), zD (by simp), zD (by simp)]; rfl
  | true => simp only [cubbyref08_word.j1, if_true, Bool.false_eq_true, if_false]; rw [zD h.2.2]; rfl
 by_cases h0 : op ≥ 0
 ·rw [zC h0, zG (by show ¬ op < 15; omega)]
  exact go
 ·rw [zD h0]
  exact go
theorem numbers_ev (x : SIns) (code : Bool) (h5 : x.f5.length ≤ 1000) : Ev (fun k => cubbyref08_numbers.f k x.f0 x.f1 x.f2 x.f3 x.f4 x.f5 code) (numsR x code) := by
 obtain ⟨x0, x1, x2, x3, x4, x5⟩ := x
 dsimp only at h5 ⊢
 refine ⟨3, fun k hk => ?_⟩
 obtain ⟨q, rfl⟩ : ∃ q, k = q + 3 := ⟨k - 3, by omega⟩
 have h6 : 1 + x5.length < 17592186044416 := by omega
 have hoth : (x0 < 3 ∨ x0 = 8 ∨ 14 < x0) → cubbyref08_numbers.f (q + 3) x0 x1 x2 x3 x4 x5 code = some (numsR ⟨x0, x1, x2, x3, x4, x5⟩ code) := fun h => by
  unfold numsR cubbyref08_numbers.f
  dsimp only
  simp only [zJ]
  rw [zD (by omega), zD (by omega), zD (by omega), zD (by omega), zD (by omega), zD (by omega), zD (by omega), zD (by omega), zD (by omega)]
  rw [show (x0 == 7) = false from by simpa using (by omega : ¬ x0 = 7)]
  simp only [cubbyref08_numbers.j0]
  rw [zD (by simp), zD (by omega), zD (by omega), zD (by omega), show (x0 == 14) = false from by simpa using (by omega : ¬ x0 = 14)]
  simp only [cubbyref08_numbers.j1]
  rw [zD (by simp), zD (by omega), zD (by omega)]
  rfl
 rcases op_cases x0 with rfl | rfl | rfl | rfl | rfl | rfl | rfl | rfl | rfl | rfl | rfl | rfl | rfl | rfl | rfl | rfl | rfl | h
 all_goals first
  | exact hoth (by omega)
  | rfl
  | skip
 cases code with
 | true => rfl
 | false =>
  have e : cubbyref08_numbers.f (q + 3) 11 x1 x2 x3 x4 x5 false = if 1 + x5.length < 17592186044416 then some (x1 :: x5) else none := rfl
  show cubbyref08_numbers.f (q + 3) 11 x1 x2 x3 x4 x5 false = _
  rw [e, zC h6]
  rfl
end Go.Proofs.YtniknpjeknmpjaaGreatDoor.PlainText
namespace Go.Proofs.YtniknpjeknmpjaaGreatDoor.PlainText
open Go Go.RowKit Go.Proofs.YtniknpjeknmpjaaGreatDoorW.PrintWords Go.Proofs.YtniknpjeknmpjaaGreatDoorW.PrintMore Go.Proofs.YtniknpjeknmpjaaGreatDoor.Q Go.Proofs.YtniknpjeknmpjaaGreatDoor.Plain Go.Proofs.YtniknpjeknmpjaaGreatDoor.PlainNum Go.Proofs.YtniknpjeknmpjaaGreatDoor.PlainName
set_option linter.unusedVariables false
set_option linter.unusedSimpArgs false
def zIns : SIns := ⟨0, 0, 0, 0, ⟨#[]⟩, []⟩
def insF (rest : List ByteArray) (op : Int) (fs : ByteArray) : Int × SIns :=
 if openF fs = false ∧ rest.length ≠ fs.size ∨ openF fs = true ∧ rest.length + 1 < fs.size then (80, zIns)
 else if (fillR rest fs.data.toList 0 (insOp op)).1 = 0 then (0, (fillR rest fs.data.toList 0 (insOp op)).2) else ((fillR rest fs.data.toList 0 (insOp op)).1, zIns)
theorem fillR_num {ws : List ByteArray} {c : UInt8} {r : List UInt8} {at_ : Nat} {x : SIns} {t : ByteArray} (h1 : ¬ c = 78) (h2 : ¬ c = 76) (h : ws[at_]? = some t) : fillR ws (c :: r) at_ x = match numOf t with | some n => fillR ws r (at_ + 1) (setF c n x) | none => (81, x) := by
 conv => lhs; unfold fillR
 rw [zD h1, zD h2, h]
 try rfl
theorem fillR_name {ws : List ByteArray} {r : List UInt8} {at_ : Nat} {x : SIns} {t : ByteArray} (h : ws[at_]? = some t) : fillR ws (78 :: r) at_ x = if nameOk t = true then fillR ws r (at_ + 1) { x with f4 := t } else (80, x) := by
 conv => lhs; unfold fillR
 rw [zC rfl, h]
 try rfl
theorem fillR_list {ws : List ByteArray} {at_ : Nat} {x : SIns} : fillR ws [76] at_ x = match (ws.drop at_).mapM numOf with | some l => (0, { x with f5 := x.f5 ++ l }) | none => (81, x) := by
 conv => lhs; unfold fillR
 rw [zD (by decide), zC rfl]
 try rfl
def opWord (l : List UInt8) : Int := if l = [99, 111, 110, 115, 116] then 1 else if l = [99, 111, 112, 121] then 2 else if l = [97, 100, 100] then 3 else if l = [115, 117, 98] then 4 else if l = [109, 117, 108] then 5 else if l = [108, 101, 115, 115] then 6 else if l = [100, 105, 118] then 7 else if l = [108, 111, 97, 100] then 8 else if l = [115, 116, 111, 114, 101] then 9 else if l = [111, 117, 116] then 10 else if l = [99, 97, 108, 108] then 11 else if l = [106, 117, 109, 112] then 12 else if l = [98, 114, 97, 110, 99, 104] then 13 else if l = [114, 101, 116] then 14 else if l = [102, 101, 116, 99, 104] then 21 else if l = [115, 97, 118, 101] then 22 else 0
theorem of_word {i o : Int} {code : Bool} {wd fs : ByteArray} (h : text_of.f i code = some (o, wd, fs, true)) : o = i ∧ opWord wd.data.toList = i ∧ wd.data.toList ≠ [] := by
 rcases op_cases i with rfl | rfl | rfl | rfl | rfl | rfl | rfl | rfl | rfl | rfl | rfl | rfl | rfl | rfl | rfl | rfl | rfl | ho
 case inr.inr.inr.inr.inr.inr.inr.inr.inr.inr.inr.inr.inr.inr.inr.inr.inr =>
  rw [text_of_none (.inr ho)] at h
  cases h
 all_goals
  cases code
  all_goals
   first
    | (cases h; done)
    | (injection h with h
       simp only [Prod.mk.injEq] at h
       obtain ⟨rfl, rfl, rfl, -⟩ := h
       exact ⟨rfl, by decide, by decide⟩)
theorem isBy_some {wd : ByteArray} {code : Bool} {i : Int} {r : Int × ByteArray × ByteArray} (h : isBy wd code i = some r) : r.1 = i ∧ i = opWord wd.data.toList ∧ wd.toList ≠ [] ∧ text_of.f i code = some (r.1, r.2.1, r.2.2, true) ∧ (wordR i code).toList = wd.toList := by
 obtain ⟨⟨o, w1, fs, is⟩, hof⟩ := text_of_total i code
 cases is with
 | false => rw [isBy_false hof] at h; cases h
 | true =>
  rw [isBy_true hof] at h
  split at h
  ·next hw =>
   injection h with h
   subst h
   obtain ⟨h1, h2, h3⟩ := of_word hof
   rw [toList_data, toList_data] at hw
   refine ⟨h1, by rw [← hw]; exact h2.symm, by rw [toList_data, ← hw]; exact h3, hof, ?_⟩
   unfold wordR
   rw [hof]
   simp only
   rw [toList_data, toList_data, hw]
  ·cases h
theorem byFrom_some {wd : ByteArray} {code : Bool} : ∀ {k : Nat} {i : Int} {r : Int × ByteArray × ByteArray}, byFrom wd code k i = some r → ∃ j, i ≤ j ∧ j < i + k ∧ isBy wd code j = some r
 | 0, i, r, h => by cases h
 | k + 1, i, r, h => by
  unfold byFrom at h
  split at h
  ·next r' hr =>
   injection h with h
   subst h
   exact ⟨i, by omega, by omega, hr⟩
  ·obtain ⟨j, h1, h2, h3⟩ := byFrom_some h
   exact ⟨j, by omega, by omega, h3⟩
end Go.Proofs.YtniknpjeknmpjaaGreatDoor.PlainText
namespace Go.Proofs.YtniknpjeknmpjaaGreatDoor.PlainNum
open Go Go.RowKit Go.Proofs.YtniknpjeknmpjaaGreatDoorW.PrintWords Go.Proofs.YtniknpjeknmpjaaGreatDoorW.PrintMore Go.Proofs.YtniknpjeknmpjaaGreatDoor.Q Go.Proofs.YtniknpjeknmpjaaGreatDoor.Plain
set_option linter.unusedVariables false
theorem digits_loop : ∀ (d : Nat) (n : Nat) (acc : ByteArray), n < 10 ^ (d + 1) → n ≤ 4611686018427387904 → acc.size + d ≤ 1000 → Ev (fun k => cubbyref08_Digits.l0 k (n : Int) acc) (⟨(Lib.decDigits n ++ acc.data.toList).toArray⟩ : ByteArray)
 | d, n, acc, hn, hb, ha => by
  by_cases h : n < 10
  ·refine ⟨1, fun k hk => ?_⟩
   obtain ⟨q, rfl⟩ : ∃ q, k = q + 1 := ⟨k - 1, by omega⟩
   simp only [cubbyref08_Digits.l0]
   have e1 : wrap64 ((n : Int) + 1) = ((n + 1 : Nat) : Int) := wrap_nat (by omega)
   rw [zD (by omega), zC (by omega), e1, zC (by omega), zC (by omega), Int.toNat_natCast, Int.toNat_natCast]
   have e2 := tens_size h
   rw [zC (by rw [e2]; omega)]
   congr 1
   refine ba_ext ?_
   rw [ByteArray.data_append, Array.toList_append, dec_small h]
   rw [show ((⟨#[48, 49, 50, 51, 52, 53, 54, 55, 56, 57]⟩ : ByteArray).extract n (n + 1)).data.toList = [UInt8.ofNat (48 + n)] from tens_at h]
  ·cases d with
   | zero => simp at hn; omega
   | succ d =>
    have hq : n / 10 < 10 ^ (d + 1) := by rw [Nat.pow_succ] at hn; omega
    have hm : n % 10 < 10 := by omega
    have e2 := tens_size hm
    have e0 : Int.tmod (n : Int) 10 = ((n % 10 : Nat) : Int) := by rw [Int.tmod_eq_emod_of_nonneg (by omega)]; omega
    have e1 : wrap64 (((n % 10 : Nat) : Int) + 1) = ((n % 10 + 1 : Nat) : Int) := wrap_nat (by omega)
    have e3 : wrap64 (Int.tdiv (n : Int) 10) = ((n / 10 : Nat) : Int) := by rw [Int.tdiv_eq_ediv_of_nonneg (by omega), wrap_id (by omega) (by omega)]; omega
    have ih := digits_loop d (n / 10) ((⟨#[48, 49, 50, 51, 52, 53, 54, 55, 56, 57]⟩ : ByteArray).extract (n % 10) (n % 10 + 1) ++ acc) hq (by omega) (by rw [ByteArray.size_append, e2]; omega)
    have e4 : (Lib.decDigits (n / 10) ++ ((⟨#[48, 49, 50, 51, 52, 53, 54, 55, 56, 57]⟩ : ByteArray).extract (n % 10) (n % 10 + 1) ++ acc).data.toList) = Lib.decDigits n ++ acc.data.toList := by
     rw [ByteArray.data_append, Array.toList_append, dec_big h, List.append_assoc, show ((⟨#[48, 49, 50, 51, 52, 53, 54, 55, 56, 57]⟩ : ByteArray).extract (n % 10) (n % 10 + 1)).data.toList = [UInt8.ofNat (48 + n % 10)] from tens_at hm]
    rw [e4] at ih
    refine Ev.step (fun k => ?_) ih
    simp only [cubbyref08_Digits.l0]
    rw [zC (by omega), e0, zC (by omega), e1, zC (by omega), zC (by omega), Int.toNat_natCast, Int.toNat_natCast, zC (by rw [e2]; omega), e3]
theorem digits_ev {n : Int} (h0 : 0 ≤ n) (h1 : n < 2147483648) : Ev (fun k => cubbyref08_Digits.f k n) (num n) := by
 obtain ⟨m, rfl⟩ : ∃ m : Nat, n = m := ⟨n.toNat, by omega⟩
 have h := digits_loop 9 m ⟨#[]⟩ (by have e10 : (10 : Nat) ^ (9 + 1) = 10000000000 := (by decide); omega) (by omega) (by decide)
 simp only [List.append_nil] at h
 exact h
end Go.Proofs.YtniknpjeknmpjaaGreatDoor.PlainNum
