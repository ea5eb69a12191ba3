/- For every input the law TextLines returns true, and its arguments read behind the call as they did: no condition. -/
import Derived.Lib.ItoaNum
import Derived.Lib.ItoaMem
import Derived.Test.YtniknpjeknmpjaaDoorRows
import Derived.WalkKit
import Derived.ProofKit
import Derived.OpenShut
import Derived.ShutString
import Derived.ChangeOld
import Derived.Below
import Derived.SizedLaws
import Derived.Test.YtniknpjeknmpjaaDoorCards
import Derived.Test.YtniknpjeknmpjaaDoorTie
import Derived.LaidMore
import Derived.Lay
import Derived.SevenTiedAt
import Derived.Stop.Joined
import Derived.Lib.LaidU8
import Derived.Test.YtniknpjeknmpjaaDoorMTextLines1
import Derived.Test.YtniknpjeknmpjaaDoorMTextLines2
namespace Go.Proofs.YtniknpjeknmpjaaDoor.Q
open Go.RowKit Go.Shelf Go.Proofs.YtniknpjeknmpjaaDoor.Plain Go.Proofs.YtniknpjeknmpjaaDoorW.PrintWords Go.Proofs.YtniknpjeknmpjaaDoorW.PrintLast Go.Proofs.YtniknpjeknmpjaaDoorW.PrintMore
set_option linter.unusedVariables false
set_option linter.unusedSimpArgs false
inductive Clo where
 | num (b1 b2 : Nat)
 | nm (b : Nat)
def encClo : Clo → Value
 | .num b1 b2 => .func (.func 30) #[] #[.pointer (some ⟨b1, 0, none⟩), .pointer (some ⟨b2, 0, none⟩)]
 | .nm b => .func (.func 29) #[] #[.pointer (some ⟨b, 0, none⟩)]
theorem encClo_one : ∀ c : Clo, (encClo c).oneCell' = true
 | .num _ _ => rfl
 | .nm _ => rfl
abbrev kClo : Kd Clo := Kd.scalar encClo encClo_one
theorem infoClo : (Tryd.prog.info? 52).map (fun i => (i.zero, i.size, i.bytes)) = some (some Value.nilFunc, 1, 8) := by kernel_rfl
def fieldParts (x : SIns) (c : UInt8) : List Part :=
 if c = 68 then [.num x.f1] else if c = 65 then [.num x.f2] else if c = 66 then [.num x.f3] else if c = 78 then [.nm x.f4] else if c = 76 then x.f5.map .num else []
def partsOf (x : SIns) (fs : List UInt8) : List Part := fs.flatMap (fieldParts x)
def nameErr (nb : Bool) (e : Int) (fs : List UInt8) : Int := fs.foldl (fun e c => if c = 78 then (if nb then e else keepE e 80) else e) e
structure ClosAt (gp : Nat) (w : World) (cl : List Clo) (ps : List Part) : Prop where
 len : cl.length = ps.length
 at_ : ∀ (j : Nat) (c : Clo) (p : Part), cl[j]? = some c → ps[j]? = some p → PartAt gp w (encClo c) p
theorem ClosAt.snoc {gp : Nat} {w : World} {cl : List Clo} {ps : List Part} {c : Clo} {p : Part} (h : ClosAt gp w cl ps) (hp : PartAt gp w (encClo c) p) : ClosAt gp w (cl ++ [c]) (ps ++ [p]) := by
 refine ⟨by simp [h.len], fun j c' p' h1 h2 => ?_⟩
 rcases Nat.lt_or_ge j cl.length with hj | hj
 ·rw [List.getElem?_append_left hj] at h1
  rw [List.getElem?_append_left (by rw [← h.len]; exact hj)] at h2
  exact h.at_ j c' p' h1 h2
 ·rw [List.getElem?_append_right hj] at h1
  rw [List.getElem?_append_right (by rw [← h.len]; exact hj), ← h.len] at h2
  rcases hq : j - cl.length with _ | q
  ·rw [hq] at h1 h2
   simp only [List.getElem?_cons_zero, Option.some.injEq] at h1 h2
   subst h1; subst h2; exact hp
  ·rw [hq] at h1; simp at h1
theorem ClosAt.kept {gp : Nat} {w w' : World} {cl : List Clo} {ps : List Part} {base : Nat} {buf : List UInt8} {e : Int} (hp : PrAt base gp buf e w) (ht : KeptT gp w w') (h : ClosAt gp w cl ps) : ClosAt gp w' cl ps :=
 ⟨h.len, fun j c p h1 h2 => (h.at_ j c p h1 h2).kept hp ht⟩
theorem ClosAt.below {gp : Nat} {w w' : World} {cl : List Clo} {ps : List Part} (hb : Below w.heap.size w w') (h : ClosAt gp w cl ps) : ClosAt gp w' cl ps :=
 ⟨h.len, fun j c p h1 h2 => (h.at_ j c p h1 h2).below hb⟩
def CellsKept (w w' : World) : Prop := ∀ (k : Nat) (cs : Array Value) (t : TypeId), w.heap[k]? = some (.cells cs t (0, 0)) → w'.heap[k]? = some (.cells cs t (0, 0))
theorem PartAt.cells {gp : Nat} {w w' : World} (hc : CellsKept w w') {v : Value} {p : Part} (h : PartAt gp w v p) : PartAt gp w' v p := by
 cases p with
 | num n => obtain ⟨b1, b2, rfl, h1, h2⟩ := h; exact ⟨b1, b2, rfl, hc _ _ _ h1, hc _ _ _ h2⟩
 | nm s => obtain ⟨b, rfl, h1⟩ := h; exact ⟨b, rfl, hc _ _ _ h1⟩
theorem ClosAt.cells {gp : Nat} {w w' : World} {cl : List Clo} {ps : List Part} (hc : CellsKept w w') (h : ClosAt gp w cl ps) : ClosAt gp w' cl ps := ⟨h.len, fun j c p h1 h2 => (h.at_ j c p h1 h2).cells hc⟩
theorem R_cells {α : Type} {d : Kd α} {e base : Nat} {ok : Nat → Prop} {v : Value} {xs : List α} {w w' : World} (hc : CellsKept w w') (h : d.R e w base ok v xs) : d.R e w' base ok v xs := by
 refine Kd.R_mono (Kd.R_step (Kd.R_bound h) (fun k hk _ => ?_)) (fun k hk => hk.1)
 obtain ⟨_, _, _, q, hq, cells, hk2⟩ := hk
 exact (hc k cells q hk2).trans hk2.symm
theorem PrAt.cells {base gp : Nat} {buf : List UInt8} {e : Int} {w w' : World} (hc : CellsKept w w') (h : PrAt base gp buf e w) : PrAt base gp buf e w' := by
 obtain ⟨ge, p, v, hk, hp, ho⟩ := h
 refine ⟨ge, p, v, hc _ _ _ hk, hp, ?_⟩
 refine ⟨ho.1, ?_⟩
 rcases ho.2 with h | ⟨g, cap, cur, hv, hb, hg, r⟩
 ·exact .inl h
 ·exact .inr ⟨g, cap, cur, hv, hb, hc _ _ _ hg, r⟩
theorem iter_kept {w : World} {k0 : Nat} {s : ByteArray} {p q : Nat} (hi : w.heap[k0]? = some (.stringIter s p)) : CellsKept w (w.iterAt k0 s q) := fun k cs t hk => iter_cells hi hk
theorem ClosAt.grownC {gp base : Nat} {ok : Nat → Prop} {v : Value} {xs : List Clo} {w w' : World} {cl : List Clo} {ps : List Part} (h : ClosAt gp w cl ps) (hr : kClo.R 52 w base ok v xs) (hg : w.grownBy w' v.ownBlock) : ClosAt gp w' cl ps := by
 have keep : ∀ (k tt : Nat) (cs : Array Value), w.heap[k]? = some (.cells cs tt (0, 0)) → tt ≠ 52 → w'.heap[k]? = some (.cells cs tt (0, 0)) := fun k tt cs hk ht => (hg.block k (blk_lt hk) (fun e => by
  obtain ⟨c2, h2⟩ := Kd.R_typed hr k e.symm
  have := hk.symm.trans h2
  simp at this
  exact ht this.2)).trans hk
 refine ⟨h.len, fun j c p h1 h2 => ?_⟩
 have hp := h.at_ j c p h1 h2
 cases p with
 | num n => obtain ⟨b1, b2, e, h3, h4⟩ := hp; exact ⟨b1, b2, e, keep _ _ _ h3 (by decide), keep _ _ _ h4 (by decide)⟩
 | nm s => obtain ⟨b, e, h3⟩ := hp; exact ⟨b, e, keep _ _ _ h3 (by decide)⟩
theorem grown_iter {base : Nat} {ok : Nat → Prop} {v : Value} {xs : List Clo} {w w' : World} {k0 p : Nat} {s : ByteArray} (hr : kClo.R 52 w base ok v xs) (hg : w.grownBy w' v.ownBlock) (hi : w.heap[k0]? = some (.stringIter s p)) : w'.heap[k0]? = some (.stringIter s p) :=
 (hg.block k0 (Array.getElem?_eq_some_iff.1 hi).1 (fun e => by
   obtain ⟨c2, h2⟩ := Kd.R_typed hr k0 e.symm
   have := hi.symm.trans h2
   simp at this)).trans hi
theorem grown_box {base t k : Nat} {cs : Array Value} {ok : Nat → Prop} {v : Value} {xs : List Clo} {w w' : World} (hr : kClo.R 52 w base ok v xs) (hg : w.grownBy w' v.ownBlock) (hk : w.heap[k]? = some (.cells cs t (0, 0))) (ht : t ≠ 52) : w'.heap[k]? = some (.cells cs t (0, 0)) :=
 (hg.block k (blk_lt hk) (fun e => by
   obtain ⟨c2, h2⟩ := Kd.R_typed hr k e.symm
   have := hk.symm.trans h2
   simp at this
   exact ht this.2)).trans hk
theorem parts_of {gp : Nat} {w : World} {base c : Nat} {ok : Nat → Prop} {A : Option Addr} {cl : List Clo} {ps : List Part} (hr : kClo.R 52 w base ok (.slice A cl.length c) cl) (hc : ClosAt gp w cl ps) : PartsAt gp w A ps := by
 rcases Nat.eq_zero_or_pos cl.length with h0 | h0
 ·exact .inl (List.length_eq_zero_iff.1 (hc.len ▸ h0))
 ·obtain ⟨g, cg, eg, -, -, cs, hk⟩ := Kd.R_form hr h0
  injection eg with e1 e2 e3
  subst e1
  refine .inr ⟨g, cs, rfl, hk, fun j p hj => ?_⟩
  have hjl : j < cl.length := by rw [hc.len]; exact (List.getElem?_eq_some_iff.1 hj).1
  refine ⟨encClo cl[j], ?_, hc.at_ j cl[j] p (List.getElem?_eq_getElem hjl) hj⟩
  have hrr := (Kd.R_reads' hr).2.2
  obtain ⟨ad, ea, hh⟩ := hrr.2.2 h0
  cases ea
  obtain ⟨c1, hl1, hk1, hx1⟩ := hh j cl[j] (List.getElem?_eq_getElem hjl)
  have hk1' : c1 = [encClo cl[j]] := hk1
  subst hk1'
  have h2 := hx1 0 _ rfl
  have e : (⟨g, 0, none⟩ : Addr).add (j * kClo.sz + 0) = ⟨g, j, none⟩ := by
   show (⟨g, 0, none⟩ : Addr).add (j * 1 + 0) = _
   rw [Nat.mul_one, Nat.add_zero]; exact add_plain g j
  rw [e] at h2
  exact (blk_cell hk j).symm.trans h2
theorem box_kept {gp k t : Nat} {w w' : World} {cs : Array Value} (ht : KeptT gp w w') (hk : w.heap[k]? = some (.cells cs t (0, 0))) (h1 : t ≠ 5) (h2 : k ≠ gp) : w'.heap[k]? = some (.cells cs t (0, 0)) := ht.2 k _ hk (fun cs' fr e => by injection e with _ e2 _; exact h1 e2) h2
theorem it_kept {gp k p : Nat} {w w' : World} {s : ByteArray} (ht : KeptT gp w w') (hk : w.heap[k]? = some (.stringIter s p)) (h2 : k ≠ gp) : w'.heap[k]? = some (.stringIter s p) := ht.2 k _ hk (fun cs' fr e => by cases e) h2
structure InsSt (gp gx gf k0 : Nat) (cx cf : Array Value) (fs : ByteArray) (buf : List UInt8) (w0 w : World) (i : Nat) (v8 : Value) (cl : List Clo) (ps : List Part) (e1 : Int) (w' : World) : Prop where
 hp0 : gp < w.heap.size
 hx : w.heap.size ≤ gx
 hf : w.heap.size ≤ gf
 hi : w.heap.size ≤ k0
 h0 : w0.heap.size ≤ w.heap.size
 it : w'.heap[k0]? = some (.stringIter fs i)
 row : kClo.R 52 w' w.heap.size (fun _ => True) v8 cl
 cs : ClosAt gp w' cl ps
 pr : PrAt w0.heap.size gp buf e1 w'
 bl : Below w0.heap.size w0 w'
 kt : KeptT gp w w'
 bx : w'.heap[gx]? = some (.cells cx 43 (0, 0))
 bf : w'.heap[gf]? = some (.cells cf 94 (0, 0))
section
variable {gp gx gf k0 : Nat} {cx cf : Array Value} {fs : ByteArray} {buf : List UInt8} {w0 w w1 w2 : World} {i : Nat} {v8 : Value} {cl : List Clo} {ps : List Part} {e1 : Int}
theorem InsSt.next (s : InsSt gp gx gf k0 cx cf fs buf w0 w i v8 cl ps e1 w1) (j : Nat) : InsSt gp gx gf k0 cx cf fs buf w0 w j v8 cl ps e1 (w1.iterAt k0 fs j) where
 hp0 := s.hp0
 hx := s.hx
 hf := s.hf
 hi := s.hi
 h0 := s.h0
 it := Lib.iterAt_heap w1 k0 fs i j s.it
 row := R_cells (iter_kept s.it) s.row
 cs := s.cs.cells (iter_kept s.it)
 pr := s.pr.cells (iter_kept s.it)
 bl := Lib.below_iterAt s.bl (Nat.le_trans s.h0 s.hi) fs j
 kt := ⟨by rw [Lib.iterAt_size]; exact s.kt.1, fun k o hk ht hg => (Lib.iterAt_other w1 k0 k fs j (by have h1 := blk_lt hk; have h2 := s.hi; omega)).trans (s.kt.2 k o hk ht hg)⟩
 bx := iter_cells s.it s.bx
 bf := iter_cells s.it s.bf
theorem InsSt.kept {e2 : Int} (s : InsSt gp gx gf k0 cx cf fs buf w0 w i v8 cl ps e1 w1) (ht : KeptT gp w1 w2) (hp : PrAt w0.heap.size gp buf e2 w2) (hb : Below w0.heap.size w0 w2) : InsSt gp gx gf k0 cx cf fs buf w0 w i v8 cl ps e2 w2 where
 hp0 := s.hp0
 hx := s.hx
 hf := s.hf
 hi := s.hi
 h0 := s.h0
 it := it_kept ht s.it (by have := s.hp0; have := s.hi; omega)
 row := R_keptT s.row s.pr ht (by decide)
 cs := s.cs.kept s.pr ht
 pr := hp
 bl := hb
 kt := s.kt.trans ht
 bx := box_kept ht s.bx (by decide) (by have := s.hp0; have := s.hx; omega)
 bf := box_kept ht s.bf (by decide) (by have := s.hp0; have := s.hf; omega)
theorem InsSt.later (s : InsSt gp gx gf k0 cx cf fs buf w0 w i v8 cl ps e1 w1) (hb : Below w1.heap.size w1 w2) : InsSt gp gx gf k0 cx cf fs buf w0 w i v8 cl ps e1 w2 := s.kept ((KeptT.refl gp w1).below hb) (s.pr.below hb) (below_step s.bl hb)
theorem InsSt.app {v1 : Value} {c : Clo} {p : Part} (s : InsSt gp gx gf k0 cx cf fs buf w0 w i v8 cl ps e1 w1) (hp : PartAt gp w1 (encClo c) p) (ho : kClo.R 52 w2 w.heap.size (fun _ => True) v1 (cl ++ [c])) (hb : Below w.heap.size w1 w2) (hg : w1.grownBy w2 v8.ownBlock) : InsSt gp gx gf k0 cx cf fs buf w0 w i v1 (cl ++ [c]) (ps ++ [p]) e1 w2 where
 hp0 := s.hp0
 hx := s.hx
 hf := s.hf
 hi := s.hi
 h0 := s.h0
 it := grown_iter s.row hg s.it
 row := ho
 cs := (s.cs.snoc hp).grownC s.row hg
 pr := s.pr.grown s.row hg (by decide) (by decide)
 bl := s.bl.trans (hb.mono s.h0)
 kt := s.kt.later hb
 bx := grown_box s.row hg s.bx (by decide)
 bf := grown_box s.row hg s.bf (by decide)
end
theorem partsOf_snoc (x : SIns) (l : List UInt8) (c : UInt8) : partsOf x (l ++ [c]) = partsOf x l ++ fieldParts x c := by simp [partsOf]
theorem partsOf_len (x : SIns) : ∀ l : List UInt8, (partsOf x l).length ≤ l.length * (x.f5.length + 1)
 | [] => by simp [partsOf]
 | c :: l => by
  have h := partsOf_len x l
  have h2 : (fieldParts x c).length ≤ x.f5.length + 1 := by unfold fieldParts; (repeat' split) <;> simp
  have e : partsOf x (c :: l) = fieldParts x c ++ partsOf x l := by simp [partsOf]
  rw [e, List.length_append, List.length_cons, Nat.add_mul]; omega
theorem nameErr_snoc (nb : Bool) (e : Int) (l : List UInt8) (c : UInt8) : nameErr nb e (l ++ [c]) = if c = 78 then (if nb then nameErr nb e l else keepE (nameErr nb e l) 80) else nameErr nb e l := by simp [nameErr, List.foldl_append]
set_option maxHeartbeats 8000000 in
set_option maxRecDepth 100000 in
theorem ins_calls {gp : Nat} {buf : List UInt8} {e0 : Int} {w0 w : World} (h : PrAt w0.heap.size gp buf e0 w) (hB : Below w0.heap.size w0 w) (hL : LaidW w0) (x : SIns) (A5 : Option Addr) (c5 : Nat) (h5 : (Kd.int .i64).C w0 A5 x.f5.length x.f5) (code : Bool) (op : Int) (wd fs : ByteArray) (is : Bool) (hof : text_of.f x.f0 code = some (op, wd, fs, is)) (nb : Bool) (hnb : ir_Name.f x.f4 = some nb)
 (hfs : ∀ b ∈ fs.data.toList, b = 68 ∨ b = 65 ∨ b = 66 ∨ b = 78 ∨ b = 76) (hok : ∀ p ∈ partsOf x fs.data.toList, PartOk p) (hpl : fs.size ≤ 10 ∧ x.f5.length ≤ 1000) (hlen : (lineBytes wd (partsOf x fs.data.toList)).length ≤ 1000000000) (hbl : buf.length ≤ 1000000000) :
 Calls Tryd.prog 32 #[.pointer (some ⟨gp, 0, none⟩), .agg #[.int .i64 x.f0, .int .i64 x.f1, .int .i64 x.f2, .int .i64 x.f3, .string x.f4, .slice A5 x.f5.length c5], .bool code] w fun e w' => e = .returned (.tuple #[]) ∧
  (if is then PrAt w0.heap.size gp (buf ++ lineBytes wd (partsOf x fs.data.toList)) (errsOf (nameErr nb e0 fs.data.toList) (partsOf x fs.data.toList)) w' else PrAt w0.heap.size gp buf (keepE e0 80) w') ∧ Below w0.heap.size w0 w' ∧ KeptT gp w w' := by
 obtain ⟨x0, x1, x2, x3, x4, x5⟩ := x
 dsimp only at h5 hof hnb hpl ⊢
 have HPw := zA h
 have HBw := zA hB
 have HW := zA (Below.refl w.heap.size w)
 have HLd := zA hL
 have H5 := zA h5
 have HOf := zA hof
 have HNb := zA hnb
 have HF := zA hfs
 have HOk := zA hok
 have HLen := zA hlen
 have HBl := zA hbl
 clear h hB hL h5 hof hnb hfs hok hlen hbl
 have huI := Tryd.underlying43
 go_enter Tryd.func32, Tryd.ntmps32
 cases is with
 | false =>
  go_wp2_with (first
   | ((with_reducible refine gate_dst (N := 4) rfl ?_); refine box_event (by rfl) (N := 4) (by rfl) (cs := #[.int .i64 x0, .int .i64 x1, .int .i64 x2, .int .i64 x3, .string x4, .slice A5 x5.length c5]) (t := 43) ?hr ?_; (case hr => go_simp <;> rfl); intro gx hg w1 hbox hb; have BX := zA hbox; have HGx := zA (show w.heap.size ≤ gx by rw [hg]; exact HW.out.size); replace HW := zA (below_step HW.out hb); clear hb hbox hg; have z1 := bk6 BX.out)
   | (go_at_call 51; refine (text_of.calls x0 code op wd fs false _ HOf.out).mono ?_; rintro e w2 ⟨rfl, hb⟩; replace HW := zA (below_step HW.out hb); replace BX := zA (blk_below BX.out hb); clear hb z1)
   | ((with_reducible refine gate_dst (N := 6) rfl ?_); refine box_event (by rfl) (N := 6) (by rfl) (cs := #[.int .i64 0, .string (⟨#[]⟩ : ByteArray), .string (⟨#[]⟩ : ByteArray)]) (t := 94) ?hr ?_; (case hr => go_simp <;> rfl); intro gf hg w3 hbox hb; have BF := zA hbox; have HGf := zA (show w.heap.size ≤ gf by rw [hg]; exact HW.out.size); replace HW := zA (below_step HW.out hb); replace BX := zA (blk_below BX.out hb); have HGn := zA (show gx ≠ gf by have := (Array.getElem?_eq_some_iff.1 BX.out).1; intro e; rw [e] at BX; have := BX.out.symm.trans hbox; simp at this); clear hb hbox hg; have z3 := bk3 BF.out)
   | (go_at_call 28; (have HW4 := zA (((HW.out.setCell (p := ⟨gf, 0, none⟩) HGf.out (.int .i64 op)).setCell (p := ⟨gf, 1, none⟩) HGf.out (.string wd)).setCell (p := ⟨gf, 2, none⟩) HGf.out (.string fs)); refine (wrong_calls (HPw.out.below HW4.out) (below_step HBw.out HW4.out) 80).mono ?_; rintro e w5 ⟨rfl, hp, hb, ht⟩; have HP5 := zA hp; have HB5 := zA hb; have HT5 := zA (((KeptT.refl gp w).below HW4.out).trans ht); clear hp hb ht)))
  (try simp only [Exit.inBlock, Exit.then]); refine bodyPost_ret (results_none rfl _ _ _) rfl ?_
  exact ⟨rfl, HP5.out, HB5.out, HT5.out⟩
 | true =>
  go_wp2_with (first
   | ((with_reducible refine gate_dst (N := 4) rfl ?_); refine box_event (by rfl) (N := 4) (by rfl) (cs := #[.int .i64 x0, .int .i64 x1, .int .i64 x2, .int .i64 x3, .string x4, .slice A5 x5.length c5]) (t := 43) ?hr ?_; (case hr => go_simp <;> rfl); intro gx hg w1 hbox hb; have BX := zA hbox; have HGx := zA (show w.heap.size ≤ gx by rw [hg]; exact HW.out.size); replace HW := zA (below_step HW.out hb); clear hb hbox hg; have z1 := bk6 BX.out)
   | (go_at_call 51; refine (text_of.calls x0 code op wd fs true _ HOf.out).mono ?_; rintro e w2 ⟨rfl, hb⟩; replace HW := zA (below_step HW.out hb); replace BX := zA (blk_below BX.out hb); clear hb z1)
   | ((with_reducible refine gate_dst (N := 6) rfl ?_); refine box_event (by rfl) (N := 6) (by rfl) (cs := #[.int .i64 0, .string (⟨#[]⟩ : ByteArray), .string (⟨#[]⟩ : ByteArray)]) (t := 94) ?hr ?_; (case hr => go_simp <;> rfl); intro gf hg w3 hbox hb; have BF := zA hbox; have HGf := zA (show w.heap.size ≤ gf by rw [hg]; exact HW.out.size); replace HW := zA (below_step HW.out hb); replace BX := zA (blk_below BX.out hb); have HGn := zA (show gx ≠ gf by have := (Array.getElem?_eq_some_iff.1 BX.out).1; intro e; rw [e] at BX; have := BX.out.symm.trans hbox; simp at this); clear hb hbox hg; have z3 := bk3 BF.out)
   | fail)
  have hW4 := ((HW.out.setCell (p := ⟨gf, 0, none⟩) HGf.out (.int .i64 op)).setCell (p := ⟨gf, 1, none⟩) HGf.out (.string wd)).setCell (p := ⟨gf, 2, none⟩) HGf.out (.string fs)
  have hWI : Below w.heap.size w (World.iter (((w3.setCell ⟨gf, 0, none⟩ (.int .i64 op)).setCell ⟨gf, 1, none⟩ (.string wd)).setCell ⟨gf, 2, none⟩ (.string fs)) fs 0) := below_alloc hW4 _
  have hIT : (World.iter (((w3.setCell ⟨gf, 0, none⟩ (.int .i64 op)).setCell ⟨gf, 1, none⟩ (.string wd)).setCell ⟨gf, 2, none⟩ (.string fs)) fs 0).heap[w3.heap.size]? = some (.stringIter fs 0) := by
   have h := World.iter_heap (((w3.setCell ⟨gf, 0, none⟩ (.int .i64 op)).setCell ⟨gf, 1, none⟩ (.string wd)).setCell ⟨gf, 2, none⟩ (.string fs)) fs 0
   rw [show (((w3.setCell ⟨gf, 0, none⟩ (.int .i64 op)).setCell ⟨gf, 1, none⟩ (.string wd)).setCell ⟨gf, 2, none⟩ (.string fs)).heap.size = w3.heap.size by simp [World.setCell]] at h
   exact h
  have hBF : (World.iter (((w3.setCell ⟨gf, 0, none⟩ (.int .i64 op)).setCell ⟨gf, 1, none⟩ (.string wd)).setCell ⟨gf, 2, none⟩ (.string fs)) fs 0).heap[gf]? = some (.cells #[.int .i64 op, .string wd, .string fs] 94 (0, 0)) := blk_alloc (blk_put (blk_put (blk_put BF.out 0 _ rfl) 1 _ rfl) 2 _ rfl) _
  have hBX : (World.iter (((w3.setCell ⟨gf, 0, none⟩ (.int .i64 op)).setCell ⟨gf, 1, none⟩ (.string wd)).setCell ⟨gf, 2, none⟩ (.string fs)) fs 0).heap[gx]? = some (.cells #[.int .i64 x0, .int .i64 x1, .int .i64 x2, .int .i64 x3, .string x4, .slice A5 x5.length c5] 43 (0, 0)) := blk_alloc ((heap_setCell_other _ _ _ _ HGn.out).trans ((heap_setCell_other _ _ _ _ HGn.out).trans ((heap_setCell_other _ _ _ _ HGn.out).trans BX.out))) _
  generalize World.iter (((w3.setCell ⟨gf, 0, none⟩ (.int .i64 op)).setCell ⟨gf, 1, none⟩ (.string wd)).setCell ⟨gf, 2, none⟩ (.string fs)) fs 0 = wI at hWI hIT hBF hBX ⊢
  have HS : Aside0 (InsSt gp gx gf w3.heap.size #[.int .i64 x0, .int .i64 x1, .int .i64 x2, .int .i64 x3, .string x4, .slice A5 x5.length c5] #[.int .i64 op, .string wd, .string fs] fs buf w0 w 0 (.slice none 0 0) [] [] e0 wI) := ⟨⟨by obtain ⟨_, p, v, hk, _⟩ := HPw.out; exact blk_lt hk, HGx.out, HGf.out, HW.out.size, HBw.out.size, hIT, Kd.R_nil _ _ _ _ _, ⟨rfl, fun j c p h1 => by simp at h1⟩, HPw.out.below hWI, below_step HBw.out hWI, (KeptT.refl gp w).below hWI, hBX, hBF⟩⟩
  clear hWI hIT hBF hBX hW4
  go_loopg [8] fs.size (fun kq v8 w' => ∃ (i : Nat) (cl : List Clo), Aside0 (kq + i = fs.size) ∧ Aside0 (InsSt gp gx gf w3.heap.size #[.int .i64 x0, .int .i64 x1, .int .i64 x2, .int .i64 x3, .string x4, .slice A5 x5.length c5] #[.int .i64 op, .string wd, .string fs] fs buf w0 w i v8 cl (partsOf (⟨x0, x1, x2, x3, x4, x5⟩ : SIns) (fs.data.toList.take i)) (nameErr nb e0 (fs.data.toList.take i)) w'))
  case atStart => exact ⟨0, [], ⟨by omega⟩, HS⟩
  case round =>
  clear HS
  obtain ⟨i, cl, HK, HS⟩ := hrel
  have hcl : cl.length ≤ 20000 := by
   have h1 := partsOf_len (⟨x0, x1, x2, x3, x4, x5⟩ : SIns) (fs.data.toList.take i)
   have h2 : (fs.data.toList.take i).length ≤ 10 := by have h9 : fs.data.toList.length = fs.size := (by simp); rw [List.length_take]; omega
   have h3 : (fs.data.toList.take i).length * (x5.length + 1) ≤ 10 * 1001 := Nat.mul_le_mul h2 (by omega)
   rw [HS.out.cs.len]; exact Nat.le_trans h1 (by show _ * (x5.length + 1) ≤ _; omega)
  cases gk with
  | zero =>
   have hif : i = fs.size := by have := HK.out; omega
   have hnx : ∀ ty, (Instr.next (.pointer (some ⟨w3.heap.size, 0, none⟩)) true ty).run Tryd.prog wr = .ok (.tuple #[.bool false]) wr := fun ty => Lib.run_next_end_at wr _ fs i ty HS.out.it (by omega)
   have z3 := bk3 HS.out.bf
   obtain ⟨A, c, rfl⟩ := Kd.R_slice HS.out.row
   have HQ := zA (parts_of HS.out.row HS.out.cs)
   have htk : fs.data.toList.take i = fs.data.toList := List.take_of_length_le (by have : fs.data.toList.length = fs.size := (by simp); omega)
   rw [htk] at HQ HS
   have HLn := zA HS.out.cs.len
   rw [HLn.out]
   go_wp2_with (go_at_call 16; refine (line_calls HS.out.pr HS.out.bl HLd.out wd _ A c HQ.out HOk.out (by rw [← HLn.out]; omega) HLen.out HBl.out).mono ?_; rintro e w5 ⟨rfl, hp, hb, ht⟩; have HP5 := zA hp; have HB5 := zA hb; have HT5 := zA (HS.out.kt.trans ht); clear hp hb ht)
   go_end0
   exact ⟨rfl, HP5.out, HB5.out, HT5.out⟩
  | succ k1 =>
   have hi : i < fs.size := by have := HK.out; omega
   obtain ⟨c, hc⟩ : ∃ c, c = fs[i]'hi := ⟨_, rfl⟩
   have hgl : fs.data.toList[i]? = some c := by rw [hc]; simp [ByteArray.getElem_eq_getElem_data]
   have htk : fs.data.toList.take (i + 1) = fs.data.toList.take i ++ [c] := by rw [List.take_add_one, hgl]; rfl
   have hm : c ∈ fs.data.toList := List.mem_of_getElem? hgl
   obtain ⟨wi, hwi⟩ : ∃ wi, wi = wr.iterAt w3.heap.size fs (i + 1) := ⟨_, rfl⟩
   have HS1 := zA (HS.out.next (i + 1))
   rw [← hwi] at HS1
   have hgen : ∀ n : Nat, c.toNat = n → n < 128 → ∀ ty, (Instr.next (.pointer (some ⟨w3.heap.size, 0, none⟩)) true ty).run Tryd.prog wr = .ok (.tuple #[.bool true, .int .i64 i, .int .i32 (n : Int)]) wi := fun n hn h8 ty => by
    rw [Lib.run_next_ascii_at wr _ fs i ty HS.out.it hi (by rw [← hc, hn]; exact h8), ← hc, hn, hwi]
   have z6 := bk6 HS1.out.bx
   have hcc := HF.out c hm
   clear hc hgl hm hwi
   rcases hcc with rfl | rfl | rfl | rfl | rfl
   ·have hnx := hgen 68 rfl (by decide)
    clear hgen
    go_wp2_with (first
     | (go_at_call 18; refine (number_calls x1).mono ?_; rintro e w5 ⟨v, rfl, hpa, hb⟩; obtain ⟨b1, b2, rfl, h1, h2⟩ := hpa; have HPa := zA (show PartAt gp w5 (encClo (.num b1 b2)) (.num x1) from ⟨b1, b2, rfl, h1, h2⟩); have HS5 := zA (HS1.out.later hb); clear h1 h2 hb)
     | ((with_reducible refine gate_builtin (b := .append) (xs := #[.tmp 33, .tmp 38]) rfl ?_); at_builtin; (refine Kd.R_append kClo (w0 := w5) w.heap.size rfl (.tmp 33) (.tmp 38) 66 52 Value.nilFunc 8 rfl Tryd.underlying66 infoClo rfl (by decide) (by omega) u8 cl (Clo.num b1 b2) [.func (.func 30) #[] #[.pointer (some ⟨b1, 0, none⟩), .pointer (some ⟨b2, 0, none⟩)]] (fun _ => True) (fun _ => False) rfl rfl ?aP (fun _ hk => hk.elim) ?aF ?aO ?aB ?aS ?aL ?_; (case aP => exact rfl); (case aF => exact fun _ _ => trivial); (case aO => exact HS5.out.row); (case aB => exact Below.refl _ _); (case aS => exact HS5.out.kt.1); (case aL => omega); intro v1 w6 ho3 hb3 hg3 _; have HS6 := zA (HS5.out.app HPa.out ho3 hb3 hg3); clear ho3 hb3 hg3)))
    go_roundg k1
    case measure => have := HK.out; omega
    case rel => exact ⟨i + 1, _, ⟨by have := HK.out; omega⟩, ⟨by rw [htk, partsOf_snoc, nameErr_snoc]; exact HS6.out⟩⟩
   ·have hnx := hgen 65 rfl (by decide)
    clear hgen
    go_wp2_with (first
     | (go_at_call 18; refine (number_calls x2).mono ?_; rintro e w5 ⟨v, rfl, hpa, hb⟩; obtain ⟨b1, b2, rfl, h1, h2⟩ := hpa; have HPa := zA (show PartAt gp w5 (encClo (.num b1 b2)) (.num x2) from ⟨b1, b2, rfl, h1, h2⟩); have HS5 := zA (HS1.out.later hb); clear h1 h2 hb)
     | ((with_reducible refine gate_builtin (b := .append) (xs := #[.tmp 42, .tmp 47]) rfl ?_); at_builtin; (refine Kd.R_append kClo (w0 := w5) w.heap.size rfl (.tmp 42) (.tmp 47) 66 52 Value.nilFunc 8 rfl Tryd.underlying66 infoClo rfl (by decide) (by omega) u8 cl (Clo.num b1 b2) [.func (.func 30) #[] #[.pointer (some ⟨b1, 0, none⟩), .pointer (some ⟨b2, 0, none⟩)]] (fun _ => True) (fun _ => False) rfl rfl ?aP (fun _ hk => hk.elim) ?aF ?aO ?aB ?aS ?aL ?_; (case aP => exact rfl); (case aF => exact fun _ _ => trivial); (case aO => exact HS5.out.row); (case aB => exact Below.refl _ _); (case aS => exact HS5.out.kt.1); (case aL => omega); intro v1 w6 ho3 hb3 hg3 _; have HS6 := zA (HS5.out.app HPa.out ho3 hb3 hg3); clear ho3 hb3 hg3)))
    go_roundg k1
    case measure => have := HK.out; omega
    case rel => exact ⟨i + 1, _, ⟨by have := HK.out; omega⟩, ⟨by rw [htk, partsOf_snoc, nameErr_snoc]; exact HS6.out⟩⟩
   ·have hnx := hgen 66 rfl (by decide)
    clear hgen
    go_wp2_with (first
     | (go_at_call 18; refine (number_calls x3).mono ?_; rintro e w5 ⟨v, rfl, hpa, hb⟩; obtain ⟨b1, b2, rfl, h1, h2⟩ := hpa; have HPa := zA (show PartAt gp w5 (encClo (.num b1 b2)) (.num x3) from ⟨b1, b2, rfl, h1, h2⟩); have HS5 := zA (HS1.out.later hb); clear h1 h2 hb)
     | ((with_reducible refine gate_builtin (b := .append) (xs := #[.tmp 51, .tmp 56]) rfl ?_); at_builtin; (refine Kd.R_append kClo (w0 := w5) w.heap.size rfl (.tmp 51) (.tmp 56) 66 52 Value.nilFunc 8 rfl Tryd.underlying66 infoClo rfl (by decide) (by omega) u8 cl (Clo.num b1 b2) [.func (.func 30) #[] #[.pointer (some ⟨b1, 0, none⟩), .pointer (some ⟨b2, 0, none⟩)]] (fun _ => True) (fun _ => False) rfl rfl ?aP (fun _ hk => hk.elim) ?aF ?aO ?aB ?aS ?aL ?_; (case aP => exact rfl); (case aF => exact fun _ _ => trivial); (case aO => exact HS5.out.row); (case aB => exact Below.refl _ _); (case aS => exact HS5.out.kt.1); (case aL => omega); intro v1 w6 ho3 hb3 hg3 _; have HS6 := zA (HS5.out.app HPa.out ho3 hb3 hg3); clear ho3 hb3 hg3)))
    go_roundg k1
    case measure => have := HK.out; omega
    case rel => exact ⟨i + 1, _, ⟨by have := HK.out; omega⟩, ⟨by rw [htk, partsOf_snoc, nameErr_snoc]; exact HS6.out⟩⟩
   ·have hnx := hgen 78 rfl (by decide)
    clear hgen
    go_wp2_with (first
     | (go_at_call 17; refine (name_calls HS1.out.pr HS1.out.bl x4 nb HNb.out).mono ?_; rintro e w5 ⟨v, rfl, hpa, hp, hb, ht⟩; obtain ⟨b1, rfl, h1⟩ := hpa; have HPa := zA (show PartAt gp w5 (encClo (.nm b1)) (.nm x4) from ⟨b1, rfl, h1⟩); have HS5 := zA (HS1.out.kept ht hp hb); clear h1 hp hb ht)
     | ((with_reducible refine gate_builtin (b := .append) (xs := #[.tmp 60, .tmp 65]) rfl ?_); at_builtin; (refine Kd.R_append kClo (w0 := w5) w.heap.size rfl (.tmp 60) (.tmp 65) 66 52 Value.nilFunc 8 rfl Tryd.underlying66 infoClo rfl (by decide) (by omega) u8 cl (Clo.nm b1) [.func (.func 29) #[] #[.pointer (some ⟨b1, 0, none⟩)]] (fun _ => True) (fun _ => False) rfl rfl ?aP (fun _ hk => hk.elim) ?aF ?aO ?aB ?aS ?aL ?_; (case aP => exact rfl); (case aF => exact fun _ _ => trivial); (case aO => exact HS5.out.row); (case aB => exact Below.refl _ _); (case aS => exact HS5.out.kt.1); (case aL => omega); intro v1 w6 ho3 hb3 hg3 _; have HS6 := zA (HS5.out.app HPa.out ho3 hb3 hg3); clear ho3 hb3 hg3)))
    go_roundg k1
    case measure => have := HK.out; omega
    case rel => exact ⟨i + 1, _, ⟨by have := HK.out; omega⟩, ⟨by rw [htk, partsOf_snoc, nameErr_snoc]; exact HS6.out⟩⟩
   ·have hnx := hgen 76 rfl (by decide)
    clear hgen
    go_wp2_with fail
    clear z6
    go_loopg [8, 72] x5.length (fun kq2 v8 v72 w' => ∃ (j : Nat) (cl2 : List Clo), v72 = .int .i64 (j : Int) ∧ Aside0 (kq2 + j = x5.length) ∧ Aside0 (InsSt gp gx gf w3.heap.size #[.int .i64 x0, .int .i64 x1, .int .i64 x2, .int .i64 x3, .string x4, .slice A5 x5.length c5] #[.int .i64 op, .string wd, .string fs] fs buf w0 w (i + 1) v8 cl2 (partsOf (⟨x0, x1, x2, x3, x4, x5⟩ : SIns) (fs.data.toList.take i) ++ (x5.take j).map .num) (nameErr nb e0 (fs.data.toList.take i)) w'))
    case atStart => exact ⟨0, cl, by first | rfl | simp, ⟨by omega⟩, ⟨by simpa using HS1.out⟩⟩
    case round =>
     clear HS1 HS hcl
     obtain ⟨j, cl2, rfl, HJ, HS2⟩ := hrel
     have hcl : cl2.length ≤ 20000 := by
      have h1 := partsOf_len (⟨x0, x1, x2, x3, x4, x5⟩ : SIns) (fs.data.toList.take i)
      have h2 : (fs.data.toList.take i).length ≤ 10 := by rw [List.length_take]; have : fs.data.toList.length = fs.size := (by simp); omega
      have h3 : (fs.data.toList.take i).length * (x5.length + 1) ≤ 10 * 1001 := Nat.mul_le_mul h2 (by omega)
      have h4 := HS2.out.cs.len
      rw [List.length_append, List.length_map, List.length_take] at h4
      have h5 : (partsOf (⟨x0, x1, x2, x3, x4, x5⟩ : SIns) (fs.data.toList.take i)).length ≤ 10010 := Nat.le_trans h1 (by show _ * (x5.length + 1) ≤ _; omega)
      omega
     cases gk with
     | zero =>
      have d1b := zG (show ¬ ((j : Int) < (x5.length : Int)) by have := HJ.out; omega)
      have d1c := zG (show ¬ (j < x5.length) by have := HJ.out; omega)
      have hj : j = x5.length := by have := HJ.out; omega
      go_wp2_with fail
      go_roundg k1
      case measure => have := HK.out; omega
      case rel => exact ⟨i + 1, _, ⟨by have := HK.out; omega⟩, ⟨by rw [htk, partsOf_snoc, nameErr_snoc]; rw [hj, List.take_length] at HS2; exact HS2.out⟩⟩
     | succ k2 =>
      have hj : j < x5.length := by have := HJ.out; omega
      have d1b := zF (show ((j : Int) < (x5.length : Int)) by omega)
      have d1c := zF hj
      obtain ⟨n, hn⟩ : ∃ n, x5[j]? = some n := ⟨_, List.getElem?_eq_getElem hj⟩
      obtain ⟨ad, ea, hh⟩ := (Kd.C_below H5.out HS2.out.bl).2.2 (by omega)
      subst ea
      obtain ⟨c1, hl1, hk1, hx1⟩ := hh j n hn
      have hk1' : c1 = [.int .i64 n] := hk1
      subst hk1'
      have hx0 := hx1 0 _ rfl
      have hxa : (Kd.int IntKind.i64).sz = 1 := rfl
      rw [hxa, Nat.mul_one, Nat.add_zero] at hx0
      clear hh hx1 hl1 hk1
      go_wp2_with (first
       | (go_at_call 18; refine (number_calls n).mono ?_; rintro e w5 ⟨v, rfl, hpa, hb⟩; obtain ⟨b1, b2, rfl, h1, h2⟩ := hpa; have HPa := zA (show PartAt gp w5 (encClo (.num b1 b2)) (.num n) from ⟨b1, b2, rfl, h1, h2⟩); have HS5 := zA (HS2.out.later hb); clear h1 h2 hb)
       | ((with_reducible refine gate_builtin (b := .append) (xs := #[.tmp 76, .tmp 80]) rfl ?_); at_builtin; (refine Kd.R_append kClo (w0 := w5) w.heap.size rfl (.tmp 76) (.tmp 80) 66 52 Value.nilFunc 8 rfl Tryd.underlying66 infoClo rfl (by decide) (by omega) u8 cl2 (Clo.num b1 b2) [.func (.func 30) #[] #[.pointer (some ⟨b1, 0, none⟩), .pointer (some ⟨b2, 0, none⟩)]] (fun _ => True) (fun _ => False) rfl rfl ?aP (fun _ hk => hk.elim) ?aF ?aO ?aB ?aS ?aL ?_; (case aP => exact rfl); (case aF => exact fun _ _ => trivial); (case aO => exact HS5.out.row); (case aB => exact Below.refl _ _); (case aS => exact HS5.out.kt.1); (case aL => omega); intro v1 w6 ho3 hb3 hg3 _; have HS6 := zA (HS5.out.app HPa.out ho3 hb3 hg3); clear ho3 hb3 hg3)))
      go_roundg k2
      case measure => have := HJ.out; omega
      case rel => exact ⟨j + 1, _, by go_num, ⟨by have := HJ.out; omega⟩, ⟨by rw [List.take_add_one, hn]; simp only [Option.toList_some, List.map_append, List.map_cons, List.map_nil, ← List.append_assoc]; exact HS6.out⟩⟩
def insText (code : Bool) (s : List UInt8 × Int) (x : SIns) : List UInt8 × Int := match text_of.f x.f0 code with
 | some (_, wd, fs, true) => (s.1 ++ lineBytes wd (partsOf x fs.data.toList), errsOf (nameErr ((ir_Name.f x.f4).getD false) s.2 fs.data.toList) (partsOf x fs.data.toList))
 | _ => (s.1, keepE s.2 80)
structure InsOk (code : Bool) (x : SIns) : Prop where
 of_ : ∃ op wd fs is, text_of.f x.f0 code = some (op, wd, fs, is) ∧ (∀ b ∈ fs.data.toList, b = 68 ∨ b = 65 ∨ b = 66 ∨ b = 78 ∨ b = 76) ∧ (∀ p ∈ partsOf x fs.data.toList, PartOk p) ∧ fs.size ≤ 10 ∧ (lineBytes wd (partsOf x fs.data.toList)).length ≤ 1000000000
 nm : ∃ nb, ir_Name.f x.f4 = some nb
 len : x.f5.length ≤ 1000
def blkText (code : Bool) (s : List UInt8 × Int) (xs : List SIns) : List UInt8 × Int := xs.foldl (insText code) (s.1 ++ [98, 108, 111, 99, 107, 10], s.2)
def blksText (code : Bool) (s : List UInt8 × Int) (l : List (List SIns)) : List UInt8 × Int := l.foldl (blkText code) s
theorem fold_len {α : Type} {f : List UInt8 × Int → α → List UInt8 × Int} (hf : ∀ s x, s.1.length ≤ (f s x).1.length) : ∀ (l : List α) (s : List UInt8 × Int), s.1.length ≤ (l.foldl f s).1.length
 | [], s => Nat.le_refl _
 | x :: l, s => Nat.le_trans (hf s x) (fold_len hf l (f s x))
theorem fold_take {α : Type} {f : List UInt8 × Int → α → List UInt8 × Int} (hf : ∀ s x, s.1.length ≤ (f s x).1.length) (l : List α) (s : List UInt8 × Int) (n : Nat) : ((l.take n).foldl f s).1.length ≤ (l.foldl f s).1.length := by
 conv => rhs; rw [← List.take_append_drop n l, List.foldl_append]
 exact fold_len hf _ _
theorem insText_len (code : Bool) (s : List UInt8 × Int) (x : SIns) : s.1.length ≤ (insText code s x).1.length := by
 unfold insText
 split
 ·simp
 ·exact Nat.le_refl _
theorem blkText_len (code : Bool) (s : List UInt8 × Int) (xs : List SIns) : s.1.length ≤ (blkText code s xs).1.length := Nat.le_trans (by simp) (fold_len (insText_len code) xs (s.1 ++ [98, 108, 111, 99, 107, 10], s.2))
theorem blkText_take (code : Bool) (s : List UInt8 × Int) (xs : List SIns) (n : Nat) : ((xs.take n).foldl (insText code) (s.1 ++ [98, 108, 111, 99, 107, 10], s.2)).1.length ≤ (blkText code s xs).1.length := fold_take (insText_len code) xs _ n
theorem fold_snoc {α β : Type} (f : β → α → β) (l : List α) (s : β) (n : Nat) (x : α) (h : l[n]? = some x) : (l.take (n + 1)).foldl f s = f ((l.take n).foldl f s) x := by rw [List.take_add_one, h]; simp
theorem rd_TIns_at {xs : List SIns} {j : Nat} {x : SIns} (h : xs[j]? = some x) : rd_TIns xs (j : Int) = x := by unfold rd_TIns; simp [h]
theorem rd_LIns_at {xs : List (List SIns)} {j : Nat} {x : List SIns} (h : xs[j]? = some x) : rd_LIns xs (j : Int) = x := by unfold rd_LIns; simp [h]
section
variable {gp : Nat} {buf : List UInt8} {e0 : Int} {w0 w : World}
theorem ins_text_calls (h : PrAt w0.heap.size gp buf e0 w) (hB : Below w0.heap.size w0 w) (hL : LaidW w0) (x : SIns) (A5 : Option Addr) (c5 : Nat) (h5 : (Kd.int .i64).C w0 A5 x.f5.length x.f5) (code : Bool) (hok : InsOk code x) (hbl : buf.length ≤ 1000000000) :
 Calls Tryd.prog 32 #[.pointer (some ⟨gp, 0, none⟩), .agg #[.int .i64 x.f0, .int .i64 x.f1, .int .i64 x.f2, .int .i64 x.f3, .string x.f4, .slice A5 x.f5.length c5], .bool code] w fun e w' => e = .returned (.tuple #[]) ∧ PrAt w0.heap.size gp (insText code (buf, e0) x).1 (insText code (buf, e0) x).2 w' ∧ Below w0.heap.size w0 w' := by
 obtain ⟨⟨op, wd, fs, is, ho, hf, hp, hfs, hln⟩, ⟨nb, hnb⟩, h5l⟩ := hok
 refine (ins_calls h hB hL x A5 c5 h5 code op wd fs is ho nb hnb hf hp ⟨hfs, h5l⟩ hln hbl).mono ?_
 rintro e w' ⟨rfl, hq, hb, -⟩
 refine ⟨rfl, ?_, hb⟩
 unfold insText
 rw [ho, hnb]
 cases is with
 | true => simpa using hq
 | false => simpa using hq
set_option maxHeartbeats 8000000 in
set_option maxRecDepth 100000 in
theorem blocks_calls (h : PrAt w0.heap.size gp buf e0 w) (hB : Below w0.heap.size w0 w) (hL : LaidW w0) (h0 : buf ≠ []) (A : Option Addr) (c : Nat) (l : List (List SIns)) (hl : Kd.C (Kd.slice 43 kIns) w0 A l.length l) (code : Bool) (hok : ∀ xs ∈ l, ∀ x ∈ xs, InsOk code x) (hs : (blksText code (buf, e0) l).1.length ≤ 1000000000) :
 Calls Tryd.prog 19 #[.pointer (some ⟨gp, 0, none⟩), .slice A l.length c, .bool code] w fun e w' => e = .returned (.tuple #[.string (if (blksText code (buf, e0) l).2 = 0 then ⟨(blksText code (buf, e0) l).1.toArray⟩ else ⟨#[]⟩), .int .i64 (blksText code (buf, e0) l).2]) ∧ Below w0.heap.size w0 w' := by
 have HP := zA h
 have HB := zA hB
 have HLd := zA hL
 have HC := zA hl
 have HOk := zA hok
 have HS := zA hs
 clear h hB hL hl hok hs
 have hu43 := Tryd.underlying43
 go_enter Tryd.func19, Tryd.ntmps19
 go_wp2_with fail
 go_loopg [14] l.length (fun kq v14 w' => ∃ (i : Nat), v14 = .int .i64 (i : Int) ∧ Aside0 (kq + i = l.length) ∧ Aside0 (PrAt w0.heap.size gp (blksText code (buf, e0) (l.take i)).1 (blksText code (buf, e0) (l.take i)).2 w') ∧ Aside0 (Below w0.heap.size w0 w'))
 case atStart => exact ⟨0, by first | rfl | simp, ⟨by omega⟩, HP, HB⟩
 case round =>
 clear HP HB
 obtain ⟨i, rfl, HK, HP, HB⟩ := hrel
 cases gk with
 | zero =>
  have d1b := zG (show ¬ ((i : Int) < (l.length : Int)) by have := HK.out; omega)
  have d1c := zG (show ¬ (i < l.length) by have := HK.out; omega)
  have hil : i = l.length := by have := HK.out; omega
  rw [hil, List.take_length] at HP
  have hne : (blksText code (buf, e0) l).1 ≠ [] := fun e => by
   have h := fold_len (blkText_len code) l (buf, e0)
   have h2 : (l.foldl (blkText code) (buf, e0)).1 = [] := e
   rw [h2] at h
   exact h0 (List.length_eq_zero_iff.1 (Nat.le_zero.1 h))
  obtain ⟨s, hse⟩ : ∃ s, s = blksText code (buf, e0) l := ⟨_, rfl⟩
  rw [← hse] at HP hne
  have HSe := zA hse
  clear hse
  obtain ⟨ge, p, v, hk, -⟩ := HP.out
  have z3 := bk3 hk
  have HNe := zA hne
  clear hk ge hne
  by_cases he : s.2 = 0
  ·have hd := zF he
   have HE := zA he
   rw [he] at HP z3
   go_wp2_with (go_at_call 33; refine (string_calls HP.out HB.out HNe.out).mono ?_; rintro e w5 ⟨rfl, hb⟩; have HB5 := zA hb; clear hb)
   have hz : (blksText code (buf, e0) l).2 = 0 := by rw [← HSe.out]; exact HE.out
   all_goals first
    | exact absurd (show (blksText code (buf, e0) l).2 = 0 by rw [← HSe.out]; exact HE.out) ‹_›
    | (go_ret2; refine ⟨?_, HB5.out⟩; first | rfl | (rw [← HSe.out]; rfl))
  ·have hd := zG he
   have HE := zA he
   go_wp2_with fail
   all_goals first
    | exact absurd ‹(blksText code (buf, e0) l).2 = 0› (show ¬ (blksText code (buf, e0) l).2 = 0 by rw [← HSe.out]; exact HE.out)
    | skip
   have HBd := zA (below_step HB.out (below_drew (Below.refl _ _)))
   go_region_with fail
   (try simp only [Act.put, List.setIfInBounds_toArray, List.set_cons_zero, List.set_cons_succ])
   go_wp2_with fail
   all_goals first
    | exact absurd ‹(blksText code (buf, e0) l).2 = 0› (show ¬ (blksText code (buf, e0) l).2 = 0 by rw [← HSe.out]; exact HE.out)
    | (go_ret2; refine ⟨?_, HBd.out⟩; rw [← HSe.out]; rfl)
 | succ k1 =>
  have hi : i < l.length := by have := HK.out; omega
  have d1b := zF (show ((i : Int) < (l.length : Int)) by omega)
  have d1c := zF hi
  obtain ⟨xs, hxs⟩ : ∃ xs, l[i]? = some xs := ⟨_, List.getElem?_eq_getElem hi⟩
  obtain ⟨ad, A1, c1, ea, hx1, hl1, hi1⟩ := at_LIns HC.out (i : Int) (by omega) (by omega)
  cases ea
  rw [rd_LIns_at hxs] at hx1 hl1 hi1
  replace hx1 := (HB.out.cell (zE w0 _ hx1)).trans hx1
  rw [Int.toNat_natCast] at hx1
  have HC1 := zA hi1
  have hxm := Kd.C_max hi1
  have hlm := Kd.C_max HC.out
  have hsz : (blksText code (buf, e0) (l.take i)).1.length ≤ 1000000000 := Nat.le_trans (fold_take (blkText_len code) l _ i) HS.out
  have hss : (blkText code (blksText code (buf, e0) (l.take i)) xs).1.length ≤ 1000000000 := by
   have h := fold_take (blkText_len code) l (buf, e0) (i + 1)
   rw [fold_snoc _ _ _ _ _ hxs] at h
   exact Nat.le_trans h HS.out
  have hsn : blksText code (buf, e0) (l.take (i + 1)) = blkText code (blksText code (buf, e0) (l.take i)) xs := fold_snoc _ _ _ _ _ hxs
  have hox : ∀ x ∈ xs, InsOk code x := HOk.out xs (List.mem_of_getElem? hxs)
  have HSn := zA hsn
  have HSz := zA hsz
  have HSs := zA hss
  clear hi1 hl1 hsn hsz hss
  obtain ⟨s, hse⟩ : ∃ s, s = blksText code (buf, e0) (l.take i) := ⟨_, rfl⟩
  rw [← hse] at HP HSz HSs HSn
  clear hse
  go_wp2_with (go_at_call 16; refine (line_calls HP.out HB.out HLd.out (⟨#[98, 108, 111, 99, 107]⟩ : ByteArray) [] none 0 (.inl rfl) (by simp) (by simp) (by decide) HSz.out).mono ?_; rintro e w5 ⟨rfl, hp, hb, ht⟩; have HP5 := zA hp; have HB5 := zA hb; clear hp hb ht)
  go_loopg [22] xs.length (fun kq2 v22 w' => ∃ (j : Nat), v22 = .int .i64 (j : Int) ∧ Aside0 (kq2 + j = xs.length) ∧ Aside0 (PrAt w0.heap.size gp ((xs.take j).foldl (insText code) (s.1 ++ [98, 108, 111, 99, 107, 10], s.2)).1 ((xs.take j).foldl (insText code) (s.1 ++ [98, 108, 111, 99, 107, 10], s.2)).2 w') ∧ Aside0 (Below w0.heap.size w0 w'))
  case atStart => exact ⟨0, by first | rfl | simp, ⟨by omega⟩, HP5, HB5⟩
  case round =>
   clear HP HB HP5 HB5 hx1
   obtain ⟨j, rfl, HJ, HP, HB⟩ := hrel
   cases gk with
   | zero =>
    have d2b := zG (show ¬ ((j : Int) < (xs.length : Int)) by have := HJ.out; omega)
    have d2c := zG (show ¬ (j < xs.length) by have := HJ.out; omega)
    have hj : j = xs.length := by have := HJ.out; omega
    rw [hj, List.take_length] at HP
    go_wp2_with fail
    go_roundg k1
    case measure => have := HK.out; omega
    case rel => exact ⟨i + 1, by go_num, ⟨by have := HK.out; omega⟩, ⟨by rw [HSn.out]; exact HP.out⟩, HB⟩
   | succ k2 =>
    have hj : j < xs.length := by have := HJ.out; omega
    have d2b := zF (show ((j : Int) < (xs.length : Int)) by omega)
    have d2c := zF hj
    obtain ⟨x, hx⟩ : ∃ x, xs[j]? = some x := ⟨_, List.getElem?_eq_getElem hj⟩
    obtain ⟨ad2, A5, c5, ea, hx0, hx1, hx2, hx3, hx4, hx5, hl5, hi5⟩ := at_TIns HC1.out (j : Int) (by omega) (by omega)
    cases ea
    rw [rd_TIns_at hx] at hx0 hx1 hx2 hx3 hx4 hx5 hl5 hi5
    rw [Int.toNat_natCast] at hx0 hx1 hx2 hx3 hx4 hx5
    replace hx0 := (HB.out.cell (zE w0 _ hx0)).trans hx0
    replace hx1 := (HB.out.cell (zE w0 _ hx1)).trans hx1
    replace hx2 := (HB.out.cell (zE w0 _ hx2)).trans hx2
    replace hx3 := (HB.out.cell (zE w0 _ hx3)).trans hx3
    replace hx4 := (HB.out.cell (zE w0 _ hx4)).trans hx4
    replace hx5 := (HB.out.cell (zE w0 _ hx5)).trans hx5
    have H5 := zA hi5
    have HO := zA (hox x (List.mem_of_getElem? hx))
    have hsj : ((xs.take j).foldl (insText code) (s.1 ++ [98, 108, 111, 99, 107, 10], s.2)).1.length ≤ 1000000000 := Nat.le_trans (blkText_take code s xs j) HSs.out
    have HJl := zA hsj
    have hsn := fold_snoc (insText code) xs (s.1 ++ [98, 108, 111, 99, 107, 10], s.2) j x hx
    have HSj := zA hsn
    clear hi5 hl5 hsj hsn
    obtain ⟨y, hye⟩ : ∃ y, y = (xs.take j).foldl (insText code) (s.1 ++ [98, 108, 111, 99, 107, 10], s.2) := ⟨_, rfl⟩
    rw [← hye] at HP HJl HSj
    clear hye
    go_wp2_with (first
     | ((with_reducible refine gate_dst (N := 11) rfl ?_); refine box_event (by rfl) (N := 11) (by rfl) (cs := #[.int .i64 0, .int .i64 0, .int .i64 0, .int .i64 0, .string (⟨#[]⟩ : ByteArray), .slice none 0 0]) (t := 43) ?hr ?_; (case hr => go_simp <;> rfl); intro gx hg w6 hbox hb; have BX := zA hbox; have hgx : wr.heap.size ≤ gx := (by rw [hg]; exact Nat.le_refl _); have HW4 := zA (((((((hb.setCell (p := ⟨gx, 0, none⟩) hgx (.int .i64 x.f0)).setCell (p := ⟨gx, 1, none⟩) hgx (.int .i64 x.f1)).setCell (p := ⟨gx, 2, none⟩) hgx (.int .i64 x.f2)).setCell (p := ⟨gx, 3, none⟩) hgx (.int .i64 x.f3)).setCell (p := ⟨gx, 4, none⟩) hgx (.string x.f4)).setCell (p := ⟨gx, 5, none⟩) hgx (.slice A5 x.f5.length c5))); clear hb hbox hg hgx; have z6 := bk6 BX.out)
     | (go_at_call 32; refine (ins_text_calls (HP.out.below HW4.out) (below_step HB.out HW4.out) HLd.out x A5 c5 H5.out code HO.out HJl.out).mono ?_; rintro e w7 ⟨rfl, hp, hb⟩; have HP7 := zA hp; have HB7 := zA hb; clear hp hb))
    go_roundg k2
    case measure => have := HJ.out; omega
    case rel => exact ⟨j + 1, by go_num, ⟨by have := HJ.out; omega⟩, ⟨by rw [HSj.out]; exact HP7.out⟩, HB7⟩
end
def text_Print.T2 : Bool × List (List Nat × List Nat) := (true, [([], []), ([], []), ([], []), ([2], [2]), ([1, 3], [1, 3]), ([], []), ([], []), ([6], [6]), ([5, 7, 4], [5, 7]), ([], []), ([], []), ([10], [10]), ([9, 11, 8], [9, 11]), ([4, 8, 12], [4, 8, 12]), ([0, 13, 12], [0, 13])])
def text_Print.B2 : List Nat := [0, 0, 0, 4, 14, 0, 0, 64, 254, 0, 0, 1024, 4094, 8190, 16383]
theorem text_Print.tab2 : rtab .any (opsOf Tryd.f8 2) = text_Print.T2 := by kernel_rfl
theorem text_Print.bits2 : waitsOk text_Print.T2.2 text_Print.B2 = true := by kernel_rfl
def printHead (a0 : ByteArray) (a1 a2 : Int) : List UInt8 × Int := (lineBytes (⟨#[102, 117, 110, 99]⟩ : ByteArray) [.nm a0, .num a1, .num a2], errsOf (if (ir_Name.f a0).getD false then 0 else keepE 0 80) [.nm a0, .num a1, .num a2])
def printS (a0 : ByteArray) (a1 a2 : Int) (l : List (List SIns)) : List UInt8 × Int := blksText false (printHead a0 a1 a2) l
def partOkB : Part → Bool
 | .num n => decide (-9223372036854775808 ≤ n ∧ n ≤ 9223372036854775807)
 | .nm _ => true
theorem partOkB_ok {p : Part} (h : partOkB p = true) : PartOk p := by
 cases p with
 | num n => exact (show -9223372036854775808 ≤ n ∧ n ≤ 9223372036854775807 from zB h)
 | nm s => trivial
def insOkB (code : Bool) (x : SIns) : Bool := match text_of.f x.f0 code with
 | some (_, wd, fs, _) => (fs.data.toList.all fun b => decide (b = 68 ∨ b = 65 ∨ b = 66 ∨ b = 78 ∨ b = 76)) && (partsOf x fs.data.toList).all partOkB && decide (fs.size ≤ 10) && decide ((lineBytes wd (partsOf x fs.data.toList)).length ≤ 1000000000) && (ir_Name.f x.f4).isSome && decide (x.f5.length ≤ 1000)
 | none => false
theorem insOkB_ok {code : Bool} {x : SIns} (h : insOkB code x = true) : InsOk code x := by
 unfold insOkB at h
 split at h
 ·next op wd fs is ho =>
  simp only [Bool.and_eq_true, decide_eq_true_eq] at h
  obtain ⟨⟨⟨⟨⟨h1, h2⟩, h3⟩, h4⟩, h5⟩, h6⟩ := h
  exact ⟨⟨op, wd, fs, is, ho, fun b hb => zB (List.all_eq_true.1 h1 b hb), fun p hp => partOkB_ok (List.all_eq_true.1 h2 p hp), h3, h4⟩, Option.isSome_iff_exists.1 h5, h6⟩
 ·cases h
def printOkB (a0 : ByteArray) (a1 a2 : Int) (l : List (List SIns)) : Bool := (ir_Name.f a0).isSome && partOkB (.num a1) && partOkB (.num a2) && (l.all fun xs => xs.all (insOkB false)) && decide ((printS a0 a1 a2 l).1.length ≤ 1000000000)
def text_Print.f (a0 : ByteArray) (a1 a2 : Int) (l : List (List SIns)) : Option (ByteArray × Int) := if printOkB a0 a1 a2 l = true then some (if (printS a0 a1 a2 l).2 = 0 then ⟨(printS a0 a1 a2 l).1.toArray⟩ else ⟨#[]⟩, (printS a0 a1 a2 l).2) else none
set_option maxHeartbeats 8000000 in
set_option maxRecDepth 100000 in
theorem text_Print.calls (a0 : ByteArray) (a1 a2 : Int) (A : Option Addr) (c : Nat) (l : List (List SIns)) (r1 : ByteArray) (r2 : Int) (w : World) (hr : Kd.C (Kd.slice 43 kIns) w A l.length l) (hc : l.length ≤ c) (h : text_Print.f a0 a1 a2 l = some (r1, r2)) (hL : LaidW w) :
 Calls Tryd.prog 8 #[.agg #[.string a0, .int .i64 a1, .int .i64 a2, .slice A l.length c]] w fun e w' => e = .returned (.tuple #[.string r1, .int .i64 r2]) ∧ Below w.heap.size w w' := by
 unfold text_Print.f at h
 split at h
 case isFalse => cases h
 case isTrue hok =>
 injection h with h
 simp only [printOkB, Bool.and_eq_true, decide_eq_true_eq] at hok
 obtain ⟨⟨⟨⟨hnb, hn1⟩, hn2⟩, hoi⟩, hlen⟩ := hok
 obtain ⟨nb, hnb⟩ := Option.isSome_iff_exists.1 hnb
 replace hn1 := partOkB_ok hn1
 replace hn2 := partOkB_ok hn2
 replace hoi : ∀ xs ∈ l, ∀ x ∈ xs, InsOk false x := fun xs hx x hy => insOkB_ok (List.all_eq_true.1 (List.all_eq_true.1 hoi xs hx) x hy)
 have HR1 := zA (congrArg Prod.fst h)
 have HR2 := zA (congrArg Prod.snd h)
 have HNb := zA hnb
 have HN1 := zA hn1
 have HN2 := zA hn2
 have HOi := zA hoi
 have HLen := zA hlen
 have HC := zA hr
 have HLd := zA hL
 have HB := zA (Below.refl w.heap.size w)
 clear h hnb hn1 hn2 hoi hlen hr hL
 have hu24 := Tryd.underlying24
 have hu50 := Tryd.underlying50
 go_enter Tryd.func8, Tryd.ntmps8
 go_wp2_with (first
  | ((with_reducible refine gate_dst (N := 1) rfl ?_); refine box_event (by rfl) (N := 1) (by rfl) (cs := #[.string a0, .int .i64 a1, .int .i64 a2, .slice A l.length c]) (t := 24) ?hr ?_; (case hr => go_simp <;> rfl); intro gx hg w1 hbox hb; have BX := zA hbox; replace HB := zA (below_step HB.out hb); clear hb hbox hg)
  | ((with_reducible refine gate_dst (N := 6) rfl ?_); refine box_event (by rfl) (N := 6) (by rfl) (cs := #[.pointer none, .slice none 0 0, .int .i64 0]) (t := 50) ?hr ?_; (case hr => go_simp <;> rfl); intro gp hg w2 hbox hb; have HP := zA (show PrAt w.heap.size gp [] 0 w2 from ⟨by rw [hg]; exact HB.out.size, none, .slice none 0 0, hbox, .inl rfl, own_nil _ _ _ _⟩); replace HB := zA (below_step HB.out hb); replace BX := zA (blk_below BX.out hb); have HGx := zA (show gx ≠ gp by intro e; rw [e] at BX; have := BX.out.symm.trans hbox; simp at this); clear hb hbox hg))
 have HPd := zA (HP.out.below (below_drew (Below.refl _ _)))
 have HBd := zA (below_step HB.out (below_drew (Below.refl _ _)))
 have BXd := zA (blk_drew BX.out)
 have z4 := bk4 BXd.out
 clear HP HB BX
 refine start_ (n := 15) (S := fun w' => w'.cell? ⟨gx, 0, none⟩ = some (.string a0) ∧ w'.cell? ⟨gx, 1, none⟩ = some (.int .i64 a1) ∧ w'.cell? ⟨gx, 2, none⟩ = some (.int .i64 a2)) (ds := []) (bA 15 0) (by kernel_rfl) rfl rfl ⟨(blk_cell BXd.out 0).trans rfl, (blk_cell BXd.out 1).trans rfl, (blk_cell BXd.out 2).trans rfl⟩ (fun hHeld => ?_); refine with_tabW text_Print.tab2 text_Print.bits2 (fun HT_ HW_ => ?_)
 generalize w2.drew = w3 at HPd HBd BXd hHeld ⊢
 clear z4
 refine pu_ (i := 0) (N := some 7) (bA 15 1) ?_
 refine pu_ (i := 1) (N := some 8) (bA 15 3) ?_
 refine pu_ (i := 2) (N := some 9) (bA 15 7) ?_
 refine pu_ (i := 5) (N := some 12) (bA 15 39) ?_
 refine pu_ (i := 6) (N := some 13) (bA 15 103) ?_
 refine pu_ (i := 9) (N := some 16) (bA 15 615) ?_
 refine pu_ (i := 10) (N := some 17) (bA 15 1639) ?_
 refine tk_ (i := 3) (N := some 10) (bA 15 1647) ?_
 refine tk_ (i := 7) (N := some 14) (bA 15 1775) ?_
 refine tk_ (i := 11) (N := some 18) (bA 15 3823) ?_
 refine one_ (i := 4) (N := some 11) (bA 15 3839) rfl rfl (one_of HT_.out (by kernel_rfl)) (by decide) (fun K hK => ?_)
 refine goes_ Tryd.func17 (by kernel_rfl) rfl #[.pointer (some ⟨gp, 0, none⟩), .string a0] (by rfl) rfl rfl qL ?_
 refine (name_calls HPd.out HBd.out a0 nb HNb.out).mono ?_
 rintro e w5 ⟨v1, rfl, hpa, hp, hb, ht⟩
 refine ⟨_, rfl, ?_⟩
 have HA1 := zA hpa
 have HP5 := zA hp
 have HB5 := zA hb
 have BX5 := zA (box_kept ht BXd.out (by decide) HGx.out)
 clear hpa hp hb ht HPd HBd BXd hHeld
 refine hK.out _ _ ⟨(blk_cell BX5.out 0).trans rfl, (blk_cell BX5.out 1).trans rfl, (blk_cell BX5.out 2).trans rfl⟩ (fun hHeld => ?_)
 clear hK K
 refine norm_ (a' := ?_) ?_ ?_
 rotate_left
 ·show Act.put _ (some 11) _ = _
  simp only [Act.put, List.setIfInBounds_toArray, List.set_cons_zero, List.set_cons_succ, i64_w, i32_w]
  rfl
 refine one_ (i := 8) (N := some 15) (bA 15 4095) rfl rfl (one_of HT_.out (by kernel_rfl)) (by decide) (fun K hK => ?_)
 refine goes_ Tryd.func18 (by kernel_rfl) rfl #[.pointer (some ⟨gp, 0, none⟩), .int .i64 a1] (by rfl) rfl rfl qL ?_
 refine (number_calls a1).mono ?_
 rintro e w6 ⟨v2, rfl, hpa, hb⟩
 refine ⟨_, rfl, ?_⟩
 have HA2 := zA hpa
 have HA16 := zA (HA1.out.below hb)
 have HP6 := zA (HP5.out.below hb)
 have HB6 := zA (below_step HB5.out hb)
 have BX6 := zA (blk_below BX5.out hb)
 clear hpa hb HP5 HB5 BX5 HA1 hHeld
 refine hK.out _ _ ⟨(blk_cell BX6.out 0).trans rfl, (blk_cell BX6.out 1).trans rfl, (blk_cell BX6.out 2).trans rfl⟩ (fun hHeld => ?_)
 clear hK K
 refine norm_ (a' := ?_) ?_ ?_
 rotate_left
 ·show Act.put _ (some 15) _ = _
  simp only [Act.put, List.setIfInBounds_toArray, List.set_cons_zero, List.set_cons_succ, i64_w, i32_w]
  rfl
 refine one_ (i := 12) (N := some 19) (bA 15 8191) rfl rfl (one_of HT_.out (by kernel_rfl)) (by decide) (fun K hK => ?_)
 refine goes_ Tryd.func18 (by kernel_rfl) rfl #[.pointer (some ⟨gp, 0, none⟩), .int .i64 a2] (by rfl) rfl rfl qL ?_
 refine (number_calls a2).mono ?_
 rintro e w7 ⟨v3, rfl, hpa, hb⟩
 refine ⟨_, rfl, ?_⟩
 have HA3 := zA hpa
 have HA17 := zA (HA16.out.below hb)
 have HA27 := zA (HA2.out.below hb)
 have HP7 := zA (HP6.out.below hb)
 have HB7 := zA (below_step HB6.out hb)
 have BX7 := zA (blk_below BX6.out hb)
 clear hpa hb HP6 HB6 BX6 HA16 HA2 hHeld
 refine hK.out _ _ ⟨(blk_cell BX7.out 0).trans rfl, (blk_cell BX7.out 1).trans rfl, (blk_cell BX7.out 2).trans rfl⟩ (fun hHeld => ?_)
 clear hK K
 refine norm_ (a' := ?_) ?_ ?_
 rotate_left
 ·show Act.put _ (some 19) _ = _
  simp only [Act.put, List.setIfInBounds_toArray, List.set_cons_zero, List.set_cons_succ, i64_w, i32_w]
  rfl
 obtain ⟨b1, rfl, -⟩ := HA17.out
 obtain ⟨b2, b3, rfl, -⟩ := HA27.out
 obtain ⟨b4, b5, rfl, -⟩ := HA3.out
 refine one_ (i := 13) (N := some 20) (bA 15 16383) rfl rfl (one_of HT_.out (by kernel_rfl)) (by decide) (fun K hK => ?_)
 refine Kd.R_lit_step kClo (w0 := w7) w7.heap.size 52 rfl (N := 20) rfl (xs := [Clo.nm b1, Clo.num b2 b3, Clo.num b4 b5]) (inner := [encClo (Clo.nm b1), encClo (Clo.num b2 b3), encClo (Clo.num b4 b5)]) (ok := fun _ => True) (okp := fun _ => True) ?hr ?hp (fun _ hk => hk) trivial (Below.refl _ _) (Nat.le_refl _) (by simp) ?_
 case hr => first | (go_simp; done) | (go_simp; rfl)
 case hp => exact ⟨rfl, fun j p hj => by
  rcases j with _ | _ | _ | j
  ·cases hj; rfl
  ·cases hj; rfl
  ·cases hj; rfl
  ·simp at hj⟩
 intro v20 w8 ho hb hg hnew
 have HR8 := zA ho
 have HP8 := zA (HP7.out.below hb)
 have HB8 := zA (below_step HB7.out hb)
 have BX8 := zA (blk_below BX7.out hb)
 have HCl := zA (show ClosAt gp w8 [Clo.nm b1, Clo.num b2 b3, Clo.num b4 b5] [.nm a0, .num a1, .num a2] from ⟨rfl, fun j c p h1 h2 => by
  rcases j with _ | _ | _ | j
  ·injection h1 with e1; injection h2 with e2; rw [← e1, ← e2]; exact HA17.out.below hb
  ·injection h1 with e1; injection h2 with e2; rw [← e1, ← e2]; exact HA27.out.below hb
  ·injection h1 with e1; injection h2 with e2; rw [← e1, ← e2]; exact HA3.out.below hb
  ·simp at h1⟩)
 obtain ⟨g, cg, eg, -, -, -⟩ := Kd.R_form ho (by simp)
 subst eg
 clear ho hb hg hnew HP7 HB7 BX7 HA17 HA27 HA3 hHeld
 refine hK.out _ _ ⟨(blk_cell BX8.out 0).trans rfl, (blk_cell BX8.out 1).trans rfl, (blk_cell BX8.out 2).trans rfl⟩ (fun hHeld => ?_)
 clear hK K
 refine norm_ (a' := ?_) ?_ ?_
 rotate_left
 ·show Act.put _ (some 20) _ = _
  simp only [Act.put, List.setIfInBounds_toArray, List.set_cons_zero, List.set_cons_succ, i64_w, i32_w]
  rfl
 refine one_ (i := 14) (N := some 21) (bA 15 32767) rfl rfl (one_of HT_.out (by kernel_rfl)) (by decide) (fun K hK => ?_)
 refine goes_ Tryd.func16 (by kernel_rfl) rfl #[.pointer (some ⟨gp, 0, none⟩), .string (⟨#[102, 117, 110, 99]⟩ : ByteArray), .slice (some ⟨g, 0, none⟩) [Clo.nm b1, Clo.num b2 b3, Clo.num b4 b5].length cg] (by rfl) rfl rfl qL ?_
 refine (line_calls HP8.out HB8.out HLd.out (⟨#[102, 117, 110, 99]⟩ : ByteArray) [.nm a0, .num a1, .num a2] (some ⟨g, 0, none⟩) cg (parts_of HR8.out HCl.out) ?ok (by simp) ?len (by simp)).mono ?_
 case ok => intro p hp; simp only [List.mem_cons, List.not_mem_nil, or_false] at hp; rcases hp with rfl | rfl | rfl <;> first | exact trivial | exact HN1.out | exact HN2.out
 case len => exact Nat.le_trans (fold_len (blkText_len false) l (printHead a0 a1 a2)) HLen.out
 rintro e w9 ⟨rfl, hp, hb, ht⟩
 refine ⟨_, rfl, ?_⟩
 have HP9 := zA (show PrAt w.heap.size gp (printHead a0 a1 a2).1 (printHead a0 a1 a2).2 w9 from by (unfold printHead; rw [HNb.out]; exact hp))
 have HB9 := zA hb
 have BX9 := zA (box_kept ht BX8.out (by decide) HGx.out)
 clear hp hb ht HP8 HB8 BX8 HR8 HCl hHeld
 refine hK.out _ _ ⟨(blk_cell BX9.out 0).trans rfl, (blk_cell BX9.out 1).trans rfl, (blk_cell BX9.out 2).trans rfl⟩ (fun hHeld => ?_)
 clear hK K
 refine norm_ (a' := ?_) ?_ ?_
 rotate_left
 ·show Act.put _ (some 21) _ = _
  simp only [Act.put, List.setIfInBounds_toArray, List.set_cons_zero, List.set_cons_succ, i64_w, i32_w]
  rfl
 refine done_ (done_of HT_.out (by kernel_rfl)) ?_
 clear HT_ HW_ hHeld
 have z9 := bk4 BX9.out
 have hne : (printHead a0 a1 a2).1 ≠ [] := by unfold printHead lineBytes; simp
 go_simp
 go_wp2_with (go_at_call 19; refine (blocks_calls HP9.out HB9.out HLd.out hne A c l HC.out false HOi.out HLen.out).mono ?_; rintro e w10 ⟨rfl, hb⟩; have HB10 := zA hb; clear hb)
 all_goals
  have hr1 := HR1.out
  have hr2 := HR2.out
  unfold printS at hr1 hr2
  go_ret2
  refine ⟨?_, HB10.out⟩
  rw [← hr1, ← hr2]
  first
   | (have h' : (blksText false (printHead a0 a1 a2) l).2 = 0 := ‹_›
      rw [zC h', h']
      rfl)
   | (have h' : ¬ (blksText false (printHead a0 a1 a2) l).2 = 0 := ‹_›
      rw [zD h']
      rfl)
end Go.Proofs.YtniknpjeknmpjaaDoor.Q
namespace Go.Proofs.YtniknpjeknmpjaaDoor.Q
open Go.RowKit Go.Proofs.YtniknpjeknmpjaaDoorW.PrintWords Go.Proofs.YtniknpjeknmpjaaDoorW.PrintLast Go.Proofs.YtniknpjeknmpjaaDoorW.PrintMore
attribute [local go_sem] max2_int min2_int max_two min_two max_three min_three max_four min_four
set_option linter.unusedVariables false
set_option linter.unusedSimpArgs false

mutual
def cubbylaw08_TextLines.j0 : Nat → Bool → ByteArray → Int → Int → List (List (SIns)) → Option (Bool)
 | 0, _, _, _, _, _ => none
 | k + 1, x19, x179000, x179001, x179002, x179003 => if x19 = true then (some true) else ((text_Print.f x179000 x179001 x179002 x179003).bind fun bt180 => ((cubbyref08_Print.f k x179000 x179001 x179002 x179003).bind fun bt182 => (if bt180.2 = bt182.2 then (if bt180.2 = 0 then (cubbylaw08_TextLines.l0 k bt180.1 0 0 x179000 x179001 x179002 x179003) else (some (bt180.1.toList == ([] : List UInt8)))) else (some false))))
def cubbylaw08_TextLines.l0 : Nat → ByteArray → Int → Int → ByteArray → Int → Int → List (List (SIns)) → Option (Bool)
 | 0, _, _, _, _, _, _, _ => none
 | k + 1, x3, x7, x8, x179000, x179001, x179002, x179003 => if x8 < (x3.size : Int) then (if 0 ≤ x8 then (if (bt x3 x8) = 10 then (cubbylaw08_TextLines.l0 k x3 (wrap64 (x7 + 1)) (wrap64 (x8 + 1)) x179000 x179001 x179002 x179003) else (cubbylaw08_TextLines.l0 k x3 x7 (wrap64 (x8 + 1)) x179000 x179001 x179002 x179003)) else (none)) else (cubbylaw08_TextLines.l1 k x3 x7 (wrap64 (1 + (x179003.length : Int))) 0 x179000 x179001 x179002 x179003)
def cubbylaw08_TextLines.l1 : Nat → ByteArray → Int → Int → Int → ByteArray → Int → Int → List (List (SIns)) → Option (Bool)
 | 0, _, _, _, _, _, _, _, _ => none
 | k + 1, x3, x7, x9, x10, x179000, x179001, x179002, x179003 => if x10 < (x179003.length : Int) then (if 0 ≤ x10 then (cubbylaw08_TextLines.l1 k x3 x7 (wrap64 (x9 + ((rd_LIns x179003 x10).length : Int))) (wrap64 (x10 + 1)) x179000 x179001 x179002 x179003) else (none)) else (if x7 = x9 then (if 0 ≤ 5 then (if 5 ≤ (x3.size : Int) then (some ((x3.extract 0 5).toList == ([102, 117, 110, 99, 32] : List UInt8))) else (none)) else (none)) else (some false))
end
def cubbylaw08_TextLines.f (k : Nat) (a0_0 : ByteArray) (a0_1 : Int) (a0_2 : Int) (l0_3 : List (List (SIns))) : Option (Bool) := (cubbylaw08_heavy.f k l0_3).bind fun t179 => (if t179 = true then (cubbylaw08_TextLines.j0 k true a0_0 a0_1 a0_2 l0_3) else (cubbylaw08_TextLines.j0 k (decide ((a0_0.size : Int) > 256)) a0_0 a0_1 a0_2 l0_3))
set_option maxHeartbeats 8000000 in
set_option maxRecDepth 100000 in
theorem cubbylaw08_TextLines.calls (k : Nat) (a0_0 : ByteArray) (a0_1 : Int) (a0_2 : Int) (A0_3 : Option Addr) (c0_3 : Nat) (l0_3 : List (List (SIns))) (r : Bool) (w : World) (hL : LaidW w) (hr : r = true) (hr0_3 : Kd.C (Kd.slice 43 kIns) w A0_3 l0_3.length l0_3) (hc0_3 : l0_3.length ≤ c0_3) (h : cubbylaw08_TextLines.f k a0_0 a0_1 a0_2 l0_3 = some r) :
 Calls Tryd.prog 3 #[.agg #[.string a0_0, .int .i64 a0_1, .int .i64 a0_2, .slice A0_3 l0_3.length c0_3]] w fun e w' => e = .returned (.bool r) ∧ Below w.heap.size w w' := by
 have hu24 := Tryd.underlying24
 have HR0_3 := zA hr0_3
 have HC0_3 := zA hc0_3
 clear hr0_3 hc0_3
 have HB := zA (Below.refl w.heap.size w)
 have HLd := zA hL
 clear hL
 have HRt := zA hr
 clear hr
 have H := h; clear h; unfold cubbylaw08_TextLines.f at H
 have HC2 := zA H
 clear H
 go_enter Tryd.func3, Tryd.ntmps3
 go_upto_region 1 with (first | ((with_reducible refine gate_dst (N := 1) rfl ?_); (try (refine gate_guard (by rfl) ?_; dsimp only)); refine box_event (by rfl) (N := 1) (by rfl) (cs := #[.string a0_0, .int .i64 a0_1, .int .i64 a0_2, .slice A0_3 l0_3.length c0_3]) (t := 24) ?hr ?_; (case hr => go_simp <;> rfl); intro gb178 hg w3 hbox hb; have BK178 := zA (hbox); have GW178 := qG hg; have GE178 := GW178; replace HB := qH hb; clear hb hbox hg))
 (try simp only [Act.put, List.setIfInBounds_toArray, List.set_cons_zero, List.set_cons_succ])
 go_cut [19] (fun v19 wc => ∃ (kq : Nat) (x19_1 : Bool), v19 = .bool x19_1 ∧ Aside0 (cubbylaw08_TextLines.j0 kq x19_1 a0_0 a0_1 a0_2 l0_3 = some r) ∧ Aside0 (kq ≤ k) ∧ Aside0 (wc.heap[gb178]? = some (.cells #[.string a0_0, .int .i64 a0_1, .int .i64 a0_2, (.slice A0_3 l0_3.length c0_3)] 24 (0, 0))) ∧ Aside0 (Below w.heap.size w wc))
 case first =>
  have H := HC2.out
  clear HC2
  replace H := qb H; obtain ⟨t179, A4, H⟩ := H
  by_cases c5 : t179 = true
  ·subst c5
   have H1 : (cubbylaw08_TextLines.j0 k true a0_0 a0_1 a0_2 l0_3) = some r := by rw [zC rfl] at H; exact H
   clear H
   have H := H1
   clear H1
   have H' := zA H
   clear H
   have z6_0 := bk4 BK178.out
   go_wp2_with (first | ((with_reducible refine gate_callee (f := 7) rfl ?_); refine goesL_ (some 13) rfl rfl Tryd.func7 (by kernel_rfl) rfl #[.slice A0_3 l0_3.length c0_3] rfl qL ?_; (with_reducible refine (cubbylaw08_heavy.calls k _ _ l0_3 true _ ?side1 ?side2 A4.out).mono ?_); (case side1 => exact qCB HR0_3.out); (case side2 => exact HC0_3.out); rintro e w7 ⟨rfl, hb⟩; refine ⟨_, rfl, ?_⟩; replace BK178 := qW BK178 hb; replace HB := qH hb; (try clear hb)))
   go_meet
   case rel => exact ⟨_, (true), qT, H', ⟨qO⟩, ⟨qK BK178.out⟩, ⟨qB⟩⟩
  ·replace c5 := Bool.eq_false_iff.mpr c5
   subst c5
   have H1 : (cubbylaw08_TextLines.j0 k (decide ((a0_0.size : Int) > 256)) a0_0 a0_1 a0_2 l0_3) = some r := by rw [zD (show ¬ (false = true) by decide)] at H; exact H
   clear H
   have H := H1
   clear H1
   have H' := zA H
   clear H
   have z8_0 := bk4 BK178.out
   go_wp2_with (first | ((with_reducible refine gate_callee (f := 7) rfl ?_); refine goesL_ (some 13) rfl rfl Tryd.func7 (by kernel_rfl) rfl #[.slice A0_3 l0_3.length c0_3] rfl qL ?_; (with_reducible refine (cubbylaw08_heavy.calls k _ _ l0_3 false _ ?side1 ?side2 A4.out).mono ?_); (case side1 => exact qCB HR0_3.out); (case side2 => exact HC0_3.out); rintro e w9 ⟨rfl, hb⟩; refine ⟨_, rfl, ?_⟩; replace BK178 := qW BK178 hb; replace HB := qH hb; (try clear hb); have z10_0 := bk4 BK178.out))
   go_meet
   case rel => exact ⟨_, (decide ((a0_0.size : Int) > 256)), qT, H', ⟨qO⟩, ⟨qK BK178.out⟩, ⟨qB⟩⟩
 case rest =>
  clear HC2
  try clear p2; try clear c3; try clear c5; try clear c7; try clear z10_0; try clear z6_0; try clear z8_0
  obtain ⟨kq, x19_1, rfl, HA, HJ1, BK178, HB⟩ := hcut
  cases kq with
  | zero => exact absurd HA.out (by simp [cubbylaw08_TextLines.j0])
  | succ kj1 =>
   have H := HA.out
   clear HA
   simp only [cubbylaw08_TextLines.j0] at H
   by_cases c11 : x19_1 = true
   ·subst c11
    have H1 : (some true) = some r := by rw [zC rfl] at H; exact H
    clear H
    have H := H1
    clear H1
    obtain rfl := zI H
    go_wp2
    go_ret
    exact ⟨qE, qB⟩
   ·replace c11 := Bool.eq_false_iff.mpr c11
    subst c11
    have H1 : ((text_Print.f a0_0 a0_1 a0_2 l0_3).bind fun bt180 => ((cubbyref08_Print.f kj1 a0_0 a0_1 a0_2 l0_3).bind fun bt182 => (if bt180.2 = bt182.2 then (if bt180.2 = 0 then (cubbylaw08_TextLines.l0 kj1 bt180.1 0 0 a0_0 a0_1 a0_2 l0_3) else (some (bt180.1.toList == ([] : List UInt8)))) else (some false)))) = some r := by rw [zD (show ¬ (false = true) by decide)] at H; exact H
    clear H
    have H := H1
    clear H1
    replace H := Option.bind_eq_some_iff.mp H
    obtain ⟨⟨t180, t181⟩, A120, H⟩ := H
    replace H : ((cubbyref08_Print.f kj1 a0_0 a0_1 a0_2 l0_3).bind fun bt182 => (if t181 = bt182.2 then (if t181 = 0 then (cubbylaw08_TextLines.l0 kj1 t180 0 0 a0_0 a0_1 a0_2 l0_3) else (some (t180.toList == ([] : List UInt8)))) else (some false))) = some r := H
    have A12 := zA A120
    clear A120
    replace H := Option.bind_eq_some_iff.mp H
    obtain ⟨⟨t182, t183⟩, A130, H⟩ := H
    replace H : (if t181 = t183 then (if t181 = 0 then (cubbylaw08_TextLines.l0 kj1 t180 0 0 a0_0 a0_1 a0_2 l0_3) else (some (t180.toList == ([] : List UInt8)))) else (some false)) = some r := H
    have A13 := zA A130
    clear A130
    by_cases c14 : t181 = t183
    ·rw [zC c14] at H
     obtain ⟨c14b0, c14b1⟩ := qe c14; clear c14
     by_cases c15 : t181 = 0
     ·rw [zC c15] at H
      obtain ⟨c15b0, c15b1⟩ := qe c15; clear c15
      have H' := zA H
      clear H
      have z16_0 := bk4 BK178.out
      go_wp2_with (first | ((with_reducible refine gate_callee (f := 8) rfl ?_); refine goesL_ (some 22) rfl rfl Tryd.func8 (by kernel_rfl) rfl #[.agg #[.string a0_0, .int .i64 a0_1, .int .i64 a0_2, .slice A0_3 l0_3.length c0_3]] rfl qL ?_; (with_reducible refine (text_Print.calls a0_0 a0_1 a0_2 _ _ l0_3 t180 t181 _ ?side1 ?side2 A12.out (hL := ?side99)).mono ?_); (case side1 => exact qCB HR0_3.out); (case side2 => exact HC0_3.out); (case side99 => exact LaidW.below HLd.out qB); rintro e w17 ⟨rfl, hb⟩; refine ⟨_, rfl, ?_⟩; replace BK178 := qW BK178 hb; replace HB := qH hb; (try clear hb); have z18_0 := bk4 BK178.out) | ((with_reducible refine gate_callee (f := 9) rfl ?_); refine goesL_ (some 27) rfl rfl Tryd.func9 (by kernel_rfl) rfl #[.agg #[.string a0_0, .int .i64 a0_1, .int .i64 a0_2, .slice A0_3 l0_3.length c0_3]] rfl qL ?_; (with_reducible refine (cubbyref08_Print.calls kj1 a0_0 a0_1 a0_2 _ _ l0_3 t182 t183 _ ?side1 ?side2 A13.out).mono ?_); (case side1 => exact qCB HR0_3.out); (case side2 => exact HC0_3.out); rintro e w19 ⟨rfl, hb⟩; refine ⟨_, rfl, ?_⟩; replace BK178 := qW BK178 hb; replace HB := qH hb; (try clear hb)))
      go_loopg [7, 8] kj1 (fun kq v7 v8 w' => ∃ (x7_2 : Int) (x8_2 : Int), v7 = .int .i64 x7_2 ∧ v8 = .int .i64 x8_2 ∧ Aside0 (cubbylaw08_TextLines.l0 kq t180 x7_2 x8_2 a0_0 a0_1 a0_2 l0_3 = some r) ∧ Aside0 (kq ≤ kj1) ∧ Aside0 (w'.heap[gb178]? = some (.cells #[.string a0_0, .int .i64 a0_1, .int .i64 a0_2, (.slice A0_3 l0_3.length c0_3)] 24 (0, 0))) ∧ Aside0 (Below w.heap.size w w'))
      case atStart => exact ⟨(0), (0), qT, qT, H', ⟨Nat.le_refl _⟩, ⟨qK BK178.out⟩, ⟨qB⟩⟩
      case round =>
       clear H'
       try clear c1; try clear p2; try clear c3; try clear c5; try clear c7; try clear c8; try clear c9; try clear c11; try clear c14b0 c14b1; try clear c15b0 c15b1; try clear z10_0; try clear z16_0; try clear z18_0; try clear z6_0; try clear z8_0
       obtain ⟨x7_2, x8_2, rfl, rfl, HA, HK2, BK178, HB⟩ := hrel
       cases gk with
       | zero => exact absurd HA.out (by simp [cubbylaw08_TextLines.l0])
       | succ k2 =>
        have H := HA.out
        clear HA
        simp only [cubbylaw08_TextLines.l0] at H
        by_cases c20 : x8_2 < (t180.size : Int)
        ·rw [zC c20] at H
         have c20b0 := zF c20
         clear c20
         by_cases c21 : 0 ≤ x8_2
         ·rw [zC c21] at H
          have c21b0 := zF c21
          clear c21
          by_cases c23 : (bt t180 x8_2) = 10
          ·rw [zC c23] at H
           obtain ⟨c23b0, c23b1⟩ := qe c23; clear c23
           have H' := zA H
           clear H
           have p22 : 0 ≤ (x8_2 : Int) := zB qA
           have q22 : x8_2 < (t180.size : Int) := zB qA
           have hx22 := bt_at t180 x8_2
           replace p22 := eq_true p22
           replace q22 := eq_true q22
           go_wp2
           go_roundg k2
           case measure => have := HJ1.out; have := HK2.out; omega
           case rel => exact ⟨(wrap64 (x7_2 + 1)), (wrap64 (x8_2 + 1)), qT, qT, H', ⟨by have := HJ1.out; have := HK2.out; omega⟩, ⟨qK BK178.out⟩, ⟨qB⟩⟩
          ·rw [zD c23] at H
           obtain ⟨c23b0, c23b1⟩ := qn c23
           have H' := zA H
           clear H
           have p22 : 0 ≤ (x8_2 : Int) := zB qA
           have q22 : x8_2 < (t180.size : Int) := zB qA
           have hx22 := bt_at t180 x8_2
           replace p22 := eq_true p22
           replace q22 := eq_true q22
           go_wp2
           go_roundg k2
           case measure => have := HJ1.out; have := HK2.out; omega
           case rel => exact ⟨(x7_2), (wrap64 (x8_2 + 1)), qT, qT, H', ⟨by have := HJ1.out; have := HK2.out; omega⟩, ⟨qK BK178.out⟩, ⟨qB⟩⟩
         ·rw [zD c21] at H
          exact absurd H (by simp)
        ·rw [zD c20] at H
         have c20b0 := zG c20
         clear c20
         have H' := zA H
         clear H
         have z24_0 := bk4 BK178.out
         go_wp2
         go_loopg [9, 10] k2 (fun kq v9 v10 w' => ∃ (x9_3 : Int) (x10_3 : Int), v9 = .int .i64 x9_3 ∧ v10 = .int .i64 x10_3 ∧ Aside0 (cubbylaw08_TextLines.l1 kq t180 x7_2 x9_3 x10_3 a0_0 a0_1 a0_2 l0_3 = some r) ∧ Aside0 (kq ≤ k2) ∧ Aside0 (w'.heap[gb178]? = some (.cells #[.string a0_0, .int .i64 a0_1, .int .i64 a0_2, (.slice A0_3 l0_3.length c0_3)] 24 (0, 0))) ∧ Aside0 (Below w.heap.size w w'))
         case atStart => exact ⟨(wrap64 (1 + (l0_3.length : Int))), (0), qT, qT, H', ⟨Nat.le_refl _⟩, ⟨qK BK178.out⟩, ⟨qB⟩⟩
         case round =>
          clear H'
          try clear c1; try clear c2; try clear p2; try clear q2; try clear hx2; try clear c3; try clear c5; try clear p6; try clear c7; try clear c8; try clear c9; try clear c11; try clear c14b0 c14b1; try clear c15b0 c15b1; try clear c20b0; try clear c21; try clear c21b0; try clear p22; try clear q22; try clear hx22; try clear c23; try clear c23b0 c23b1; try clear z10_0; try clear z16_0; try clear z18_0; try clear z24_0; try clear z6_0; try clear z8_0
          obtain ⟨x9_3, x10_3, rfl, rfl, HA, HK3, BK178, HB⟩ := hrel
          cases gk with
          | zero => exact absurd HA.out (by simp [cubbylaw08_TextLines.l1])
          | succ k3 =>
           have H := HA.out
           clear HA
           simp only [cubbylaw08_TextLines.l1] at H
           by_cases c25 : x10_3 < (l0_3.length : Int)
           ·rw [zC c25] at H
            have c25b0 := zF c25
            clear c25
            by_cases c26 : 0 ≤ x10_3
            ·rw [zC c26] at H
             have c26b0 := zF c26
             clear c26
             have H' := zA H
             clear H
             have z27_0 := bk4 BK178.out
             have p184 : 0 ≤ (x10_3 : Int) := zB qA
             have q184 : x10_3 < (l0_3.length : Int) := zB qA
             obtain ⟨ad184, A184_0, c184_0, e184, hx184_0, hl184_0, hi184_0⟩ := at_LIns HR0_3.out x10_3 p184 q184
             cases e184
             replace hx184_0 := (HB.out.cell (zE w _ hx184_0)).trans hx184_0
             have HR184_0 := zA hi184_0
             have HC184_0 := zA hl184_0
             clear hi184_0 hl184_0
             replace p184 := eq_true p184
             replace q184 := eq_true q184
             go_wp2
             go_roundg k3
             case measure => have := HJ1.out; have := HK2.out; have := HK3.out; omega
             case rel => exact ⟨(wrap64 (x9_3 + ((rd_LIns l0_3 x10_3).length : Int))), (wrap64 (x10_3 + 1)), qT, qT, H', ⟨by have := HJ1.out; have := HK2.out; have := HK3.out; omega⟩, ⟨qK BK178.out⟩, ⟨qB⟩⟩
            ·rw [zD c26] at H
             exact absurd H (by simp)
           ·rw [zD c25] at H
            have c25b0 := zG c25
            clear c25
            by_cases c28 : x7_2 = x9_3
            ·rw [zC c28] at H
             obtain ⟨c28b0, c28b1⟩ := qe c28; clear c28
             by_cases c29 : 0 ≤ 5
             ·rw [zC c29] at H
              have c29b0 := eq_true c29
              have c29b1 := zF c29
              clear c29
              by_cases c30 : 5 ≤ (t180.size : Int)
              ·rw [zC c30] at H
               have c30b0 := eq_true c30
               have c30b1 := zF c30
               clear c30
               obtain rfl := zI H
               have z31_0 := bk4 BK178.out
               go_wp2
               go_ret
               exact ⟨qE, qB⟩
              ·rw [zD c30] at H
               exact absurd H (by simp)
             ·rw [zD c29] at H
              exact absurd H (by simp)
            ·rw [zD c28] at H
             obtain ⟨c28b0, c28b1⟩ := qn c28
             exact absurd ((zI H).trans HRt.out) (by decide)
     ·rw [zD c15] at H
      obtain ⟨c15b0, c15b1⟩ := qn c15
      obtain rfl := zI H
      have z32_0 := bk4 BK178.out
      go_wp2_with (first | ((with_reducible refine gate_callee (f := 8) rfl ?_); refine goesL_ (some 22) rfl rfl Tryd.func8 (by kernel_rfl) rfl #[.agg #[.string a0_0, .int .i64 a0_1, .int .i64 a0_2, .slice A0_3 l0_3.length c0_3]] rfl qL ?_; (with_reducible refine (text_Print.calls a0_0 a0_1 a0_2 _ _ l0_3 t180 t181 _ ?side1 ?side2 A12.out (hL := ?side99)).mono ?_); (case side1 => exact qCB HR0_3.out); (case side2 => exact HC0_3.out); (case side99 => exact LaidW.below HLd.out qB); rintro e w33 ⟨rfl, hb⟩; refine ⟨_, rfl, ?_⟩; replace BK178 := qW BK178 hb; replace HB := qH hb; (try clear hb); have z34_0 := bk4 BK178.out) | ((with_reducible refine gate_callee (f := 9) rfl ?_); refine goesL_ (some 27) rfl rfl Tryd.func9 (by kernel_rfl) rfl #[.agg #[.string a0_0, .int .i64 a0_1, .int .i64 a0_2, .slice A0_3 l0_3.length c0_3]] rfl qL ?_; (with_reducible refine (cubbyref08_Print.calls kj1 a0_0 a0_1 a0_2 _ _ l0_3 t182 t183 _ ?side1 ?side2 A13.out).mono ?_); (case side1 => exact qCB HR0_3.out); (case side2 => exact HC0_3.out); rintro e w35 ⟨rfl, hb⟩; refine ⟨_, rfl, ?_⟩; replace BK178 := qW BK178 hb; replace HB := qH hb; (try clear hb)))
      go_ret
      exact ⟨qE, qB⟩
    ·rw [zD c14] at H
     obtain ⟨c14b0, c14b1⟩ := qn c14
     exact absurd ((zI H).trans HRt.out) (by decide)
end Go.Proofs.YtniknpjeknmpjaaDoor.Q
namespace Go.Proofs.YtniknpjeknmpjaaDoor.RTextLines
open Go Go.RowKit Go.Proofs.YtniknpjeknmpjaaDoorW.PrintWords Go.Proofs.YtniknpjeknmpjaaDoor.Q
set_option linter.unusedVariables false
def GIns (x : SIns) : Prop := (Lit.int .i64 (x.f0)).wf = true ∧ (Lit.int .i64 (x.f1)).wf = true ∧ (Lit.int .i64 (x.f2)).wf = true ∧ (Lit.int .i64 (x.f3)).wf = true ∧ (x.f4).size ≤ 140737488351232 ∧ ((x.f5).length * 8 ≤ 140737488351232 ∧ (x.f5).length ≤ maxLen ∧ ∀ y1 ∈ (x.f5), (Lit.int .i64 (y1)).wf = true)
def TextLines.Pure : Prop := ∀ (a0_0 : ByteArray) (a0_1 : Int) (a0_2 : Int) (l0_3 : List (List (SIns))), (a0_0).size ≤ 140737488351232 → (Lit.int .i64 (a0_1)).wf = true → (Lit.int .i64 (a0_2)).wf = true → ((l0_3).length * 24 ≤ 140737488351232 ∧ (l0_3).length ≤ maxLen ∧ ∀ y1 ∈ (l0_3), ((y1).length * 72 ≤ 140737488351232 ∧ (y1).length ≤ maxLen ∧ ∀ y2 ∈ (y1), GIns (y2))) → ∃ k, cubbylaw08_TextLines.f k a0_0 a0_1 a0_2 l0_3 = some true
end Go.Proofs.YtniknpjeknmpjaaDoor.RTextLines
namespace Go.Proofs.YtniknpjeknmpjaaDoor.PlainNum
open Go Go.RowKit Go.Proofs.YtniknpjeknmpjaaDoorW.PrintWords Go.Proofs.YtniknpjeknmpjaaDoorW.PrintMore Go.Proofs.YtniknpjeknmpjaaDoor.Q Go.Proofs.YtniknpjeknmpjaaDoor.Plain
set_option linter.unusedVariables false
theorem dec_small {u : Nat} (h : u < 10) : Lib.decDigits u = [UInt8.ofNat (48 + u)] := Lib.decDigits_one h
theorem dec_big {u : Nat} (h : ¬ u < 10) : Lib.decDigits u = Lib.decDigits (u / 10) ++ [UInt8.ofNat (48 + u % 10)] := by rw [Lib.decDigits, dif_neg h]
theorem digit_nat {d : Nat} (h : d < 10) : (UInt8.ofNat (48 + d)).toNat = 48 + d := by simp; omega
theorem dec_mem : ∀ (u : Nat), ∀ b ∈ Lib.decDigits u, 48 ≤ b.toNat ∧ b.toNat ≤ 57 := by
 intro u
 induction u using Nat.strongRecOn with
 | _ u ih =>
  by_cases h : u < 10
  ·rw [dec_small h]; intro b hb; rw [List.mem_singleton.1 hb, digit_nat h]; omega
  ·rw [dec_big h]; intro b hb
   rcases List.mem_append.1 hb with hb | hb
   ·exact ih (u / 10) (by omega) b hb
   ·rw [List.mem_singleton.1 hb, digit_nat (by omega)]; omega
theorem dec_len : ∀ (k u : Nat), u < 10 ^ (k + 1) → (Lib.decDigits u).length ≤ k + 1
 | 0, u, h => by rw [dec_small (by simpa using h)]; simp
 | k + 1, u, h => by
  by_cases h1 : u < 10
  ·rw [dec_small h1]; simp
  ·have := dec_len k (u / 10) (by rw [Nat.pow_succ] at h; omega)
   rw [dec_big h1]; simp; omega
def num (n : Int) : ByteArray := ⟨(Lib.decDigits n.toNat).toArray⟩
theorem num_list (n : Int) : (num n).data.toList = Lib.decDigits n.toNat := by simp [num]
theorem itoa_num {n : Int} (h : 0 ≤ n) : (⟨(Lib.itoa n).toArray⟩ : ByteArray) = num n := by
 unfold num Lib.itoa
 rw [zD (by omega)]
theorem num_size {n : Int} (h1 : n < 2147483648) : (num n).size ≤ 10 := by
 have := dec_len 9 n.toNat (by have e10 : (10 : Nat) ^ (9 + 1) = 10000000000 := (by decide); omega)
 show (num n).data.size ≤ 10
 rw [← Array.length_toList, num_list]
 exact this
def tens : ByteArray := ⟨#[48, 49, 50, 51, 52, 53, 54, 55, 56, 57]⟩
theorem tens_at {d : Nat} (h : d < 10) : (tens.extract d (d + 1)).data.toList = [UInt8.ofNat (48 + d)] := by
 have : d = 0 ∨ d = 1 ∨ d = 2 ∨ d = 3 ∨ d = 4 ∨ d = 5 ∨ d = 6 ∨ d = 7 ∨ d = 8 ∨ d = 9 := by omega
 rcases this with rfl | rfl | rfl | rfl | rfl | rfl | rfl | rfl | rfl | rfl <;> rfl
theorem tens_size {d : Nat} (h : d < 10) : ((⟨#[48, 49, 50, 51, 52, 53, 54, 55, 56, 57]⟩ : ByteArray).extract d (d + 1)).size = 1 := by
 show (tens.extract d (d + 1)).data.size = 1
 rw [← Array.length_toList, tens_at h]; rfl
theorem ba_ext {a b : ByteArray} (h : a.data.toList = b.data.toList) : a = b := toList_inj.1 (by rw [toList_data, toList_data, h])
theorem digits_loop : ∀ (d : Nat) (n : Nat) (acc : ByteArray), n < 10 ^ (d + 1) → n ≤ 4611686018427387904 → acc.size + d ≤ 1000 → Ev (fun k => cubbyref08_Digits.l0 k (n : Int) acc) (⟨(Lib.decDigits n ++ acc.data.toList).toArray⟩ : ByteArray)
 | d, n, acc, hn, hb, ha => by
  by_cases h : n < 10
  ·refine ⟨1, fun k hk => ?_⟩
   obtain ⟨q, rfl⟩ : ∃ q, k = q + 1 := ⟨k - 1, by omega⟩
   simp only [cubbyref08_Digits.l0]
   have e1 : wrap64 ((n : Int) + 1) = ((n + 1 : Nat) : Int) := wrap_nat (by omega)
   rw [zD (by omega), zC (by omega), e1, zC (by omega), zC (by omega), Int.toNat_natCast, Int.toNat_natCast]
   have e2 := tens_size h
   rw [zC (by rw [e2]; omega)]
   congr 1
   refine ba_ext ?_
   rw [ByteArray.data_append, Array.toList_append, dec_small h]
   rw [show ((⟨#[48, 49, 50, 51, 52, 53, 54, 55, 56, 57]⟩ : ByteArray).extract n (n + 1)).data.toList = [UInt8.ofNat (48 + n)] from tens_at h]
  ·cases d with
   | zero => simp at hn; omega
   | succ d =>
    have hq : n / 10 < 10 ^ (d + 1) := by rw [Nat.pow_succ] at hn; omega
    have hm : n % 10 < 10 := by omega
    have e2 := tens_size hm
    have e0 : Int.tmod (n : Int) 10 = ((n % 10 : Nat) : Int) := by rw [Int.tmod_eq_emod_of_nonneg (by omega)]; omega
    have e1 : wrap64 (((n % 10 : Nat) : Int) + 1) = ((n % 10 + 1 : Nat) : Int) := wrap_nat (by omega)
    have e3 : wrap64 (Int.tdiv (n : Int) 10) = ((n / 10 : Nat) : Int) := by rw [Int.tdiv_eq_ediv_of_nonneg (by omega), wrap_id (by omega) (by omega)]; omega
    have ih := digits_loop d (n / 10) ((⟨#[48, 49, 50, 51, 52, 53, 54, 55, 56, 57]⟩ : ByteArray).extract (n % 10) (n % 10 + 1) ++ acc) hq (by omega) (by rw [ByteArray.size_append, e2]; omega)
    have e4 : (Lib.decDigits (n / 10) ++ ((⟨#[48, 49, 50, 51, 52, 53, 54, 55, 56, 57]⟩ : ByteArray).extract (n % 10) (n % 10 + 1) ++ acc).data.toList) = Lib.decDigits n ++ acc.data.toList := by
     rw [ByteArray.data_append, Array.toList_append, dec_big h, List.append_assoc, show ((⟨#[48, 49, 50, 51, 52, 53, 54, 55, 56, 57]⟩ : ByteArray).extract (n % 10) (n % 10 + 1)).data.toList = [UInt8.ofNat (48 + n % 10)] from tens_at hm]
    rw [e4] at ih
    refine Ev.step (fun k => ?_) ih
    simp only [cubbyref08_Digits.l0]
    rw [zC (by omega), e0, zC (by omega), e1, zC (by omega), zC (by omega), Int.toNat_natCast, Int.toNat_natCast, zC (by rw [e2]; omega), e3]
theorem digits_ev {n : Int} (h0 : 0 ≤ n) (h1 : n < 2147483648) : Ev (fun k => cubbyref08_Digits.f k n) (num n) := by
 obtain ⟨m, rfl⟩ : ∃ m : Nat, n = m := ⟨n.toNat, by omega⟩
 have h := digits_loop 9 m ⟨#[]⟩ (by have e10 : (10 : Nat) ^ (9 + 1) = 10000000000 := (by decide); omega) (by omega) (by decide)
 simp only [List.append_nil] at h
 exact h
end Go.Proofs.YtniknpjeknmpjaaDoor.PlainNum
namespace Go.Proofs.YtniknpjeknmpjaaDoor.PlainName
open Go Go.RowKit Go.Proofs.YtniknpjeknmpjaaDoorW.PrintWords Go.Proofs.YtniknpjeknmpjaaDoorW.PrintMore Go.Proofs.YtniknpjeknmpjaaDoor.Q Go.Proofs.YtniknpjeknmpjaaDoor.Plain
set_option linter.unusedVariables false
set_option linter.unusedSimpArgs false
def lowD (x : UInt8) : Bool := decide ((97 ≤ x.toNat ∧ x.toNat ≤ 122) ∨ (48 ≤ x.toNat ∧ x.toNat ≤ 57))
def nameOk (s : ByteArray) : Bool := decide (1 ≤ s.size ∧ s.size ≤ 12 ∧ 97 ≤ bt s 0) && s.data.toList.all lowD
theorem cut_has (x : UInt8) : nameCut.data.toList.contains x = lowD x := by
 have h : ∀ n, n < 256 → nameCut.data.toList.contains (UInt8.ofNat n) = lowD (UInt8.ofNat n) := by decide +kernel
 have := h x.toNat x.toNat_lt
 rwa [UInt8.ofNat_toNat] at this
theorem dw_nil {p : UInt8 → Bool} : ∀ {l : List UInt8}, l.dropWhile p = [] ↔ ∀ x, x ∈ l → p x = true
 | [] => by simp
 | a :: t => by
  rw [List.dropWhile_cons]
  by_cases h : p a = true
  ·rw [zC h, dw_nil (l := t)]
   constructor
   ·intro g x hx
    rcases List.mem_cons.1 hx with rfl | hx
    ·exact h
    ·exact g x hx
   ·exact fun g x hx => g x (List.mem_cons_of_mem _ hx)
  ·rw [zD h]
   constructor
   ·intro g
    exact absurd g (by simp)
   ·intro g
    exact absurd (g a List.mem_cons_self) h
theorem trim_nil (l cs : List UInt8) : Lib.trimS l cs = [] ↔ l.all (cs.contains ·) = true := by
 unfold Lib.trimS Lib.trimLeftS Lib.trimRightS
 constructor
 ·intro h
  rw [dw_nil] at h
  rw [List.all_eq_true]
  intro x hx
  have h2 : x ∈ l.reverse := List.mem_reverse.2 hx
  rw [← List.takeWhile_append_dropWhile (p := fun x => cs.contains x) (l := l.reverse)] at h2
  rcases List.mem_append.1 h2 with h3 | h3
  ·exact (List.all_eq_true.1 (List.all_takeWhile (p := fun x => cs.contains x) (l := l.reverse))) x h3
  ·exact h x (List.mem_reverse.2 h3)
 ·intro h
  have h1 : l.reverse.dropWhile (cs.contains ·) = [] := by
   rw [dw_nil]
   intro x hx
   exact List.all_eq_true.1 h x (List.mem_reverse.1 hx)
  rw [h1]
  rfl
theorem size_list (s : ByteArray) : s.data.toList.length = s.size := by simp
theorem bt_get {s : ByteArray} {j : Nat} (h : j < s.data.toList.length) : bt s (j : Int) = ((s.data.toList[j]).toNat : Int) := by
 have hs := size_list s
 unfold bt
 rw [dif_pos (by omega)]
 rfl
theorem name_eq (s : ByteArray) : ir_Name.f s = some (nameOk s) := by
 have hs := size_list s
 unfold ir_Name.f
 rw [toList_data]
 by_cases h0 : s.data.toList = []
 ·have : s.size = 0 := by
   rw [h0] at hs
   exact hs.symm
  rw [zC h0]
  unfold nameOk
  rw [zG (by omega)]
  rfl
 ·have h1 : 0 < s.size := by
   rw [← hs]
   exact List.length_pos_iff.2 h0
  rw [zD h0]
  by_cases h2 : (s.size : Int) > 12
  ·rw [zC h2]
   unfold nameOk
   rw [zG (by omega)]
   rfl
  ·rw [zD h2, zC (by omega)]
   by_cases h3 : bt s 0 < 97
   ·rw [zC h3]
    unfold nameOk
    rw [zG (by omega)]
    rfl
   ·rw [zD h3]
    unfold strings_Trim.f
    rw [zC ⟨by omega, rfl⟩]
    simp only [zJ]
    rw [toList_data]
    unfold nameOk
    rw [zF (by omega), Bool.true_and, List.toList_toArray]
    congr 1
    have hc : s.data.toList.all (nameCut.data.toList.contains ·) = s.data.toList.all lowD := by
     congr 1
     funext x
     exact cut_has x
    have ht := trim_nil s.data.toList nameCut.data.toList
    rw [hc] at ht
    by_cases ha : s.data.toList.all lowD = true
    ·rw [ha]
     exact beq_iff_eq.2 (ht.2 ha)
    ·rw [Bool.not_eq_true _ |>.mp ha]
     exact beq_eq_false_iff_ne.2 fun e => ha (ht.1 e)
def restOk (s : ByteArray) (j : Nat) : Bool := (s.data.toList.drop j).all lowD && decide (j = 0 → 97 ≤ bt s 0)
theorem refname_loop (s : ByteArray) (hl : s.size ≤ 12) : ∀ (d j : Nat), s.size - j = d → j ≤ s.size → (j = 0 → 0 < s.size) → Ev (fun k => cubbyref07_Name.l0 k s (j : Int)) (restOk s j) := by
 have hs := size_list s
 intro d
 induction d with
 | zero =>
  intro j hd hj h0
  have : restOk s j = true := by
   unfold restOk
   rw [List.drop_eq_nil_of_le (by omega)]
   simp
   omega
  rw [this]
  exact Ev.step (f := fun _ => some true) (fun k => by simp only [cubbyref07_Name.l0]; rw [zD (by omega)]) (Ev.now _)
 | succ d ih =>
  intro j hd hj h0
  have hlt : j < s.data.toList.length := by omega
  have hb := bt_get hlt
  have hR : restOk s j = (lowD (s.data.toList[j]) && decide (j = 0 → 97 ≤ bt s 0) && restOk s (j + 1)) := by
   unfold restOk
   rw [drop_cons hlt]
   simp
   cases lowD s.data.toList[j] <;> cases (List.drop (j + 1) s.data.toList).all lowD <;> simp
  have hlow : lowD (s.data.toList[j]) = decide ((97 ≤ bt s (j : Int) ∧ bt s (j : Int) ≤ 122) ∨ (48 ≤ bt s (j : Int) ∧ bt s (j : Int) ≤ 57)) := by
   unfold lowD
   rw [hb]
   apply decide_eq_decide.2
   omega
  have hj0 : j = 0 → bt s (j : Int) = bt s 0 := by
   rintro rfl
   rfl
  rw [hR, hlow]
  have hstep : ∀ k, cubbyref07_Name.l0 (k + 1) s (j : Int) = (if (97 ≤ bt s (j : Int) ∧ bt s (j : Int) ≤ 122) ∨ ((48 ≤ bt s (j : Int) ∧ bt s (j : Int) ≤ 57) ∧ j ≠ 0) then cubbyref07_Name.l0 k s ((j + 1 : Nat) : Int) else some false) := by
   intro k
   simp only [cubbyref07_Name.l0]
   rw [zC (by omega : (j : Int) < (s.size : Int)), zC (by omega : (0 : Int) ≤ (j : Int)), wrap_nat (by omega)]
   repeat' split
   all_goals first
    | rfl
    | omega
  by_cases c : (97 ≤ bt s (j : Int) ∧ bt s (j : Int) ≤ 122) ∨ ((48 ≤ bt s (j : Int) ∧ bt s (j : Int) ≤ 57) ∧ j ≠ 0)
  ·refine Ev.step (fun k => (hstep k).trans (zC c)) ?_
   rw [zF (by omega), zF (by intro h; have := hj0 h; omega), Bool.true_and, Bool.true_and]
   exact ih (j + 1) (by omega) (by omega) (by omega)
  ·refine Ev.step (f := fun _ => some false) (fun k => (hstep k).trans (zD c)) ?_
   have : (decide ((97 ≤ bt s (j : Int) ∧ bt s (j : Int) ≤ 122) ∨ (48 ≤ bt s (j : Int) ∧ bt s (j : Int) ≤ 57)) && decide (j = 0 → 97 ≤ bt s 0)) = false := by
    by_cases c1 : (97 ≤ bt s (j : Int) ∧ bt s (j : Int) ≤ 122) ∨ (48 ≤ bt s (j : Int) ∧ bt s (j : Int) ≤ 57)
    ·rw [zG (p := (j = 0 → 97 ≤ bt s 0)) (fun h => by
      have h9 : j = 0 := by omega
      have := hj0 h9
      have := h h9
      omega), Bool.and_false]
    ·rw [zG c1, Bool.false_and]
   rw [this, Bool.false_and]
   exact Ev.now _
theorem refname_ev (s : ByteArray) : Ev (fun k => cubbyref07_Name.f k s) (nameOk s) := by
 have hyes : (s.size < 1 ∨ 12 < s.size) → Ev (fun k => cubbyref07_Name.j0 k s true) (nameOk s) := fun h => by
  have : nameOk s = false := by
   unfold nameOk
   rw [zG (by omega)]
   rfl
  rw [this]
  exact Ev.step (f := fun _ => some false) (fun k => by simp only [cubbyref07_Name.j0, if_true]) (Ev.now _)
 by_cases h1 : (s.size : Int) < 1
 ·exact Ev.congr (fun k => by unfold cubbyref07_Name.f; rw [zC h1]) (hyes (by omega))
 refine Ev.congr (f := fun k => cubbyref07_Name.j0 k s (decide ((s.size : Int) > 12))) (fun k => by unfold cubbyref07_Name.f; rw [zD h1]) ?_
 by_cases h2 : (s.size : Int) > 12
 ·rw [zF h2]
  exact hyes (by omega)
 ·rw [zG h2]
  refine Ev.step (f := fun k => cubbyref07_Name.l0 k s ((0 : Nat) : Int)) (fun k => by simp only [cubbyref07_Name.j0]; rw [zD (by simp)]; rfl) ?_
  have := refname_loop s (by omega) s.size 0 (by omega) (by omega) (by omega)
  have hR : restOk s 0 = nameOk s := by
   unfold restOk nameOk
   rw [List.drop_zero, Bool.and_comm]
   congr 1
   apply decide_eq_decide.2
   constructor
   ·intro h
    exact ⟨by omega, by omega, h rfl⟩
   ·intro h _
    exact h.2.2
  rw [← hR]
  exact this
end Go.Proofs.YtniknpjeknmpjaaDoor.PlainName
namespace Go.Proofs.YtniknpjeknmpjaaDoor.PlainText
open Go Go.RowKit Go.Proofs.YtniknpjeknmpjaaDoorW.PrintWords Go.Proofs.YtniknpjeknmpjaaDoorW.PrintMore Go.Proofs.YtniknpjeknmpjaaDoor.Q Go.Proofs.YtniknpjeknmpjaaDoor.Plain Go.Proofs.YtniknpjeknmpjaaDoor.PlainNum Go.Proofs.YtniknpjeknmpjaaDoor.PlainName
set_option linter.unusedVariables false
set_option linter.unusedSimpArgs false
def good (n : Int) : Bool := decide (0 ≤ n ∧ n < 2147483648)
def tailB (name : ByteArray) (named : Bool) (b : Int) : Int → List Int → List UInt8
 | i, [] => if named = true ∧ i = b then 32 :: name.data.toList else []
 | i, n :: r => (if named = true ∧ i = b then 32 :: name.data.toList else []) ++ (32 :: Lib.decDigits n.toNat ++ tailB name named b (i + 1) r)
def emp : ByteArray := ⟨#[]⟩
def sp : ByteArray := ⟨#[32]⟩
def lineR (w name : ByteArray) (named : Bool) (b : Int) (l : List Int) : ByteArray × Int :=
 if w.toList = [] ∨ (named = true ∧ nameOk name = false) then (emp, 80) else if l.all good = true then (⟨(w.data.toList ++ tailB name named b 0 l ++ [10]).toArray⟩, 0) else (emp, 81)
theorem apl (a b : ByteArray) : (a ++ b).data.toList = a.data.toList ++ b.data.toList := by rw [ByteArray.data_append, Array.toList_append]
theorem apz (a b : ByteArray) : (a ++ b).size = a.size + b.size := ByteArray.size_append
def withName (name : ByteArray) (named : Bool) (b : Int) (s : ByteArray) (i : Int) : ByteArray := if named = true ∧ i = b then (s ++ sp) ++ name else s
theorem withName_list (name : ByteArray) (named : Bool) (b : Int) (s : ByteArray) (i : Int) : (withName name named b s i).data.toList = s.data.toList ++ (if named = true ∧ i = b then 32 :: name.data.toList else []) := by
 unfold withName
 split
 ·rw [apl, apl]; simp [sp]
 ·simp
theorem withName_size (name : ByteArray) (named : Bool) (b : Int) (s : ByteArray) (i : Int) : (withName name named b s i).size ≤ s.size + 1 + name.size := by
 unfold withName
 split
 ·rw [apz, apz]; have : sp.size = 1 := rfl; omega
 ·omega
section
variable {name : ByteArray} {named : Bool} {b : Int} {L : List Int}
theorem line_head {s : ByteArray} {i : Int} {r : ByteArray × Int} (hi : i ≤ (L.length : Int)) (hs : s.size ≤ 4000000000000000000) (hn : name.size ≤ 1000) (h : Ev (fun k => cubbyref08_line.j3 k name named b L (withName name named b s i) i) r) : Ev (fun k => cubbyref08_line.l0 k name named b L s i) r := by
 have hsp : sp.size = 1 := rfl
 by_cases hc : named = true ∧ i = b
 ·have e : withName name named b s i = (s ++ sp) ++ name := zC hc
  rw [e] at h
  refine Ev.step (f := fun k => cubbyref08_line.j2 k name named b L s i (i == b)) (fun k => by simp only [cubbyref08_line.l0]; rw [zC hi, zC hc.1]) (Ev.step (fun k => ?_) h)
  simp only [cubbyref08_line.j2]
  rw [zC (by simpa using hc.2), zC (by omega), zC (by show (s ++ sp).size + _ ≤ _; rw [apz]; omega)]
  rfl
 ·have e : withName name named b s i = s := zD hc
  rw [e] at h
  by_cases hn2 : named = true
  ·refine Ev.step (f := fun k => cubbyref08_line.j2 k name named b L s i (i == b)) (fun k => by simp only [cubbyref08_line.l0]; rw [zC hi, zC hn2]) (Ev.step (fun k => ?_) h)
   simp only [cubbyref08_line.j2]
   rw [zD (by simpa using fun e => hc ⟨hn2, e⟩)]
  ·refine Ev.step (f := fun k => cubbyref08_line.j2 k name named b L s i false) (fun k => by simp only [cubbyref08_line.l0]; rw [zC hi, zD hn2]) (Ev.step (fun k => ?_) h)
   simp only [cubbyref08_line.j2]
   rw [zD (by simp)]
theorem line_loop (hn : name.size ≤ 300) (hL : L.length ≤ 1000) : ∀ (l : List Int) (j : Nat) (s : ByteArray), L.drop j = l → j ≤ L.length → s.size ≤ 1000 + 1000 * j →
 Ev (fun k => cubbyref08_line.l0 k name named b L s (j : Int)) (if l.all good = true then (⟨(s.data.toList ++ tailB name named b j l ++ [10]).toArray⟩, 0) else (emp, 81))
 | [], j, s, hl, hj, hs => by
  have hjl : j = L.length := by have := congrArg List.length hl; simp at this; omega
  have hz := withName_size name named b s j
  refine line_head (by omega) (by omega) (by omega) ?_
  refine Ev.step (f := fun k => cubbyref08_line.l0 k name named b L (withName name named b s j) ((j + 1 : Nat) : Int)) (fun k => by simp only [cubbyref08_line.j3]; rw [zD (by omega), wrap_nat (by omega)]) ?_
  refine ⟨1, fun k hk => ?_⟩
  obtain ⟨q, rfl⟩ : ∃ q, k = q + 1 := ⟨k - 1, by omega⟩
  simp only [cubbyref08_line.l0]
  rw [zD (by omega), zC (by omega), show (([] : List Int).all good) = true from rfl, zC rfl]
  congr 2
  refine ba_ext ?_
  rw [apl, withName_list]
  simp [tailB]
 | n :: l, j, s, hl, hj, hs => by
  have hlt : j < L.length := by
   rcases Nat.lt_or_ge j L.length with h | h
   ·exact h
   ·rw [List.drop_eq_nil_of_le h] at hl; cases hl
  rw [drop_cons hlt] at hl
  simp only [List.cons.injEq] at hl
  obtain ⟨hv, hl⟩ := hl
  have hrd : rd L (j : Int) = n := by rw [rd_get hlt, hv]
  have hz := withName_size name named b s j
  refine line_head (by omega) (by omega) (by omega) ?_
  by_cases hg : good n = true
  ·have hgn : 0 ≤ n ∧ n < 2147483648 := by simpa [good] using hg
   have hnz := num_size hgn.2
   have hsp : sp.size = 1 := rfl
   have ih := line_loop hn hL l (j + 1) ((withName name named b s j ++ sp) ++ num n) hl (by omega) (by rw [apz, apz]; omega)
   have e : (((withName name named b s j ++ sp) ++ num n).data.toList ++ tailB name named b ((j + 1 : Nat) : Int) l ++ [10]) = (s.data.toList ++ tailB name named b (j : Int) (n :: l) ++ [10]) := by
    rw [apl, apl, withName_list, num_list, tailB]
    simp [sp]
   rw [e] at ih
   rw [show (n :: l).all good = l.all good by simp [hg]]
   refine Ev.step (fun k => ?_) (Ev.bind (digits_ev hgn.1 hgn.2) (f := fun k t115 => (if (withName name named b s j ++ (⟨#[32]⟩ : ByteArray)).size + t115.size ≤ 9223372036854775807 then (cubbyref08_line.l0 k name named b L ((withName name named b s j ++ (⟨#[32]⟩ : ByteArray)) ++ t115) (wrap64 ((j : Int) + 1))) else (none))) ?_)
   ·simp only [cubbyref08_line.j3]
    rw [zC (by omega), zC (by omega), hrd, zD (by omega), zD (by omega), zC (by omega)]
   ·refine Ev.congr (fun k => ?_) ih
    rw [zC (by show (withName name named b s j ++ sp).size + _ ≤ _; rw [apz]; omega), wrap_nat (by omega)]
    rfl
  ·have hgn : n < 0 ∨ 2147483647 < n := by
    have : ¬ (0 ≤ n ∧ n < 2147483648) := by simpa [good] using hg
    omega
   rw [zD (by simp [hg])]
   refine ⟨1, fun k hk => ?_⟩
   obtain ⟨q, rfl⟩ : ∃ q, k = q + 1 := ⟨k - 1, by omega⟩
   simp only [cubbyref08_line.j3]
   rw [zC (by omega), zC (by omega), hrd]
   by_cases h0 : n < 0
   ·rw [zC h0]; rfl
   ·rw [zD h0, zC (by omega)]; rfl
end
theorem line_ev (w name : ByteArray) (named : Bool) (b : Int) (l : List Int) (hw : w.size ≤ 1000) (hn : name.size ≤ 300) (hl : l.length ≤ 1000) : Ev (fun k => cubbyref08_line.f k w name named b l) (lineR w name named b l) := by
 have no : ∀ g : Nat → Option (ByteArray × Int), (∀ k, g k = cubbyref08_line.j0 k w name named b l true) → w.toList = [] ∨ (named = true ∧ nameOk name = false) → Ev g (lineR w name named b l) := fun g hg hc => by
  have e : lineR w name named b l = (emp, 80) := zC hc
  rw [e]
  exact Ev.congr hg (Ev.step (f := fun _ => some (emp, 80)) (fun k => by simp only [cubbyref08_line.j0, if_true]; rfl) (Ev.now _))
 have yes : ∀ g : Nat → Option (ByteArray × Int), (∀ k, g k = cubbyref08_line.j0 k w name named b l false) → ¬ (w.toList = [] ∨ (named = true ∧ nameOk name = false)) → Ev g (lineR w name named b l) := fun g hg hc => by
  have e : lineR w name named b l = if l.all good = true then (⟨(w.data.toList ++ tailB name named b 0 l ++ [10]).toArray⟩, 0) else (emp, 81) := zD hc
  rw [e]
  exact Ev.congr hg (Ev.step (fun k => by simp only [cubbyref08_line.j0]; rw [zD (by simp)]; rfl) (line_loop hn hl l 0 w rfl (Nat.zero_le _) (by omega)))
 by_cases h0 : w.toList = []
 ·exact no _ (fun k => by unfold cubbyref08_line.f; rw [zC h0]) (.inl h0)
 by_cases h1 : named = true
 ·have hb : Ev (fun k => (cubbyref07_Name.f k name).bind fun t111 => (cubbyref08_line.j0 k w name named b l (!t111))) (lineR w name named b l) := by
   refine Ev.bind (f := fun k t111 => cubbyref08_line.j0 k w name named b l (!t111)) (refname_ev name) ?_
   cases hk : nameOk name with
   | false => exact no _ (fun k => rfl) (.inr ⟨h1, hk⟩)
   | true => exact yes _ (fun k => rfl) (by rintro (h | ⟨_, h⟩); exact h0 h; rw [hk] at h; cases h)
  exact Ev.congr (fun k => by unfold cubbyref08_line.f; rw [zD h0, zC h1]) hb
 ·exact yes _ (fun k => by unfold cubbyref08_line.f; rw [zD h0, zD h1]) (by rintro (h | ⟨h, _⟩); exact h0 h; exact h1 h)
def wordR (op : Int) (code : Bool) : ByteArray := match text_of.f op code with
 | some (_, wd, _, true) => wd
 | _ => emp
def numsR (x : SIns) (code : Bool) : List Int :=
 if 3 ≤ x.f0 ∧ x.f0 ≤ 7 then [x.f1, x.f2, x.f3] else if x.f0 = 9 then [x.f2, x.f3] else if x.f0 = 10 ∨ x.f0 = 12 ∨ x.f0 = 14 then [x.f2] else if x.f0 = 13 then [x.f2, x.f3, x.f1] else if x.f0 = 11 then (if code = true then [x.f1, x.f2] else x.f1 :: x.f5) else [x.f1, x.f2]
theorem op_cases (op : Int) : op = 1 ∨ op = 2 ∨ op = 3 ∨ op = 4 ∨ op = 5 ∨ op = 6 ∨ op = 7 ∨ op = 8 ∨ op = 9 ∨ op = 10 ∨ op = 11 ∨ op = 12 ∨ op = 13 ∨ op = 14 ∨ op = 21 ∨ op = 22 ∨ op = 0 ∨ (op < 0 ∨ 14 < op) ∧ op ≠ 21 ∧ op ≠ 22 := by omega
theorem text_of_none {op : Int} {code : Bool} (h : op = 0 ∨ (op < 0 ∨ 14 < op) ∧ op ≠ 21 ∧ op ≠ 22) : text_of.f op code = some (0, emp, emp, false) := by
 unfold text_of.f
 rw [zD (by omega), zD (by omega), zD (by omega), zD (by omega), zD (by omega), zD (by omega), zD (by omega), zD (by omega), zD (by omega), zD (by omega), zD (by omega), zD (by omega), zD (by omega), zD (by omega), zD (by omega), zD (by omega)]
 rfl
theorem word_ev (op : Int) (code : Bool) : Ev (fun k => cubbyref08_word.f k op code) (wordR op code) := by
 refine ⟨3, fun k hk => ?_⟩
 obtain ⟨q, rfl⟩ : ∃ q, k = q + 3 := ⟨k - 3, by omega⟩
 rcases op_cases op with rfl | rfl | rfl | rfl | rfl | rfl | rfl | rfl | rfl | rfl | rfl | rfl | rfl | rfl | rfl | rfl | rfl | h
 all_goals first
  | (cases code <;> rfl)
  | skip
 have e : wordR op code = emp := by unfold wordR; rw [text_of_none (.inr h)]
 rw [e]
 unfold cubbyref08_word.f
 simp only [zJ]
 have h2 : (op == 21) = false := by simpa using h.2.1
 have go : cubbyref08_word.j0 (q + 3) op code ([(⟨#[]⟩ : ByteArray), (⟨#[99, 111, 110, 115, 116]⟩ : ByteArray), (⟨#[99, 111, 112, 121]⟩ : ByteArray), (⟨#[97, 100, 100]⟩ : ByteArray), (⟨#[115, 117, 98]⟩ : ByteArray), (⟨#[109, 117, 108]⟩ : ByteArray), (⟨#[108, 101, 115, 115]⟩ : ByteArray), (⟨#[100, 105, 118]⟩ : ByteArray), (⟨#[108, 111, 97, 100]⟩ : ByteArray), (⟨#[115, 116, 111, 114, 101]⟩ : ByteArray), (⟨#[111, 117, 116]⟩ : ByteArray), (⟨#[99, 97, 108, 108]⟩ : ByteArray), (⟨#[106, 117, 109, 112]⟩ : ByteArray), (⟨#[98, 114, 97, 110, 99, 104]⟩ : ByteArray), (⟨#[114, 101, 116]⟩ : ByteArray)] : List ByteArray) false = some emp := by
  simp only [cubbyref08_word.j0]
  rw [zD (by simp), h2]
  cases code with
  | false => simp only [cubbyref08_word.j1]; rw [zD (by simp), zD (by simp), zD (by simp)]; rfl
  | true => simp only [cubbyref08_word.j1, if_true, Bool.false_eq_true, if_false]; rw [zD h.2.2]; rfl
 by_cases h0 : op ≥ 0
 ·rw [zC h0, zG (by show ¬ op < 15; omega)]
  exact go
 ·rw [zD h0]
  exact go
theorem numbers_ev (x : SIns) (code : Bool) (h5 : x.f5.length ≤ 1000) : Ev (fun k => cubbyref08_numbers.f k x.f0 x.f1 x.f2 x.f3 x.f4 x.f5 code) (numsR x code) := by
 obtain ⟨x0, x1, x2, x3, x4, x5⟩ := x
 dsimp only at h5 ⊢
 refine ⟨3, fun k hk => ?_⟩
 obtain ⟨q, rfl⟩ : ∃ q, k = q + 3 := ⟨k - 3, by omega⟩
 have h6 : 1 + x5.length < 17592186044416 := by omega
 have hoth : (x0 < 3 ∨ x0 = 8 ∨ 14 < x0) → cubbyref08_numbers.f (q + 3) x0 x1 x2 x3 x4 x5 code = some (numsR ⟨x0, x1, x2, x3, x4, x5⟩ code) := fun h => by
  unfold numsR cubbyref08_numbers.f
  dsimp only
  simp only [zJ]
  rw [zD (by omega), zD (by omega), zD (by omega), zD (by omega), zD (by omega), zD (by omega), zD (by omega), zD (by omega), zD (by omega)]
  rw [show (x0 == 7) = false from by simpa using (by omega : ¬ x0 = 7)]
  simp only [cubbyref08_numbers.j0]
  rw [zD (by simp), zD (by omega), zD (by omega), zD (by omega), show (x0 == 14) = false from by simpa using (by omega : ¬ x0 = 14)]
  simp only [cubbyref08_numbers.j1]
  rw [zD (by simp), zD (by omega), zD (by omega)]
  rfl
 rcases op_cases x0 with rfl | rfl | rfl | rfl | rfl | rfl | rfl | rfl | rfl | rfl | rfl | rfl | rfl | rfl | rfl | rfl | rfl | h
 all_goals first
  | exact hoth (by omega)
  | rfl
  | skip
 cases code with
 | true => rfl
 | false =>
  have e : cubbyref08_numbers.f (q + 3) 11 x1 x2 x3 x4 x5 false = if 1 + x5.length < 17592186044416 then some (x1 :: x5) else none := rfl
  show cubbyref08_numbers.f (q + 3) 11 x1 x2 x3 x4 x5 false = _
  rw [e, zC h6]
  rfl
theorem keepE_z (e : Int) : keepE e 0 = e := by unfold keepE; split <;> simp_all
theorem keepE_nz {e : Int} (h : e ≠ 0) (a : Int) : keepE e a = e := zD h
theorem keepE_assoc (a b c : Int) : keepE (keepE a b) c = keepE a (keepE b c) := by
 unfold keepE
 by_cases h : a = 0 <;> simp [h]
theorem errsOf_keep : ∀ (ps : List Part) (e : Int), errsOf e ps = keepE e (errsOf 0 ps)
 | [], e => (keepE_z e).symm
 | p :: ps, e => by
  have h1 : errsOf e (p :: ps) = errsOf (keepE e p.err) ps := rfl
  have h2 : errsOf 0 (p :: ps) = errsOf (keepE 0 p.err) ps := rfl
  rw [h1, h2, errsOf_keep ps, errsOf_keep ps (keepE 0 p.err), keepE_assoc, keepE_assoc]
  congr 1
theorem err_num (n : Int) : Part.err (.num n) = if good n = true then 0 else 81 := by
 show (if n < 0 ∨ 2147483648 ≤ n then (81 : Int) else 0) = _
 unfold good
 by_cases h : 0 ≤ n ∧ n < 2147483648
 ·rw [zD (by omega), zC (by simpa using h)]
 ·rw [zC (by omega), zD (by simpa using h)]
theorem errs_nums : ∀ l : List Int, errsOf 0 (l.map .num) = if l.all good = true then 0 else 81
 | [] => rfl
 | n :: l => by
  have h1 : errsOf 0 ((n :: l).map .num) = errsOf (keepE 0 (Part.err (.num n))) (l.map .num) := rfl
  rw [h1, errsOf_keep, err_num, errs_nums l]
  by_cases hg : good n = true
  ·simp [hg, keepE]
  ·simp [hg, keepE]
theorem join_flat (w : List UInt8) (l : List (List UInt8)) : Lib.join (w :: l) [32] = w ++ l.flatMap (fun t => 32 :: t) := by
 rw [Lib.join_cons]
 unfold Lib.joinTail
 rw [List.flatMap_def]
 rfl
theorem lineBytes_flat (wd : ByteArray) (ps : List Part) : lineBytes wd ps = wd.data.toList ++ ps.flatMap (fun p => 32 :: p.str.data.toList) ++ [10] := by
 unfold lineBytes
 rw [List.map_cons, join_flat, List.map_map, List.flatMap_map]
 rfl
theorem str_num {n : Int} (h : good n = true) : (Part.str (.num n)).data.toList = Lib.decDigits n.toNat := by
 have hg : 0 ≤ n ∧ n < 2147483648 := by simpa [good] using h
 show (⟨(Lib.itoa n).toArray⟩ : ByteArray).data.toList = _
 rw [itoa_num hg.1, num_list]
theorem tail_plain (name : ByteArray) (named : Bool) (b : Int) : ∀ (l : List Int) (i : Int), (named = true → b < i) → l.all good = true → tailB name named b i l = (l.map Part.num).flatMap (fun p => 32 :: p.str.data.toList)
 | [], i, h, hg => by
  unfold tailB
  rw [zD (by rintro ⟨h1, h2⟩; have := h h1; omega)]; rfl
 | n :: l, i, h, hg => by
  simp only [List.all_cons, Bool.and_eq_true] at hg
  unfold tailB
  rw [zD (by rintro ⟨h1, h2⟩; have := h h1; omega), tail_plain name named b l (i + 1) (fun h1 => by have := h h1; omega) hg.2]
  simp [str_num hg.1]
structure Lite (x : SIns) : Prop where
 i1 : -9223372036854775808 ≤ x.f1 ∧ x.f1 ≤ 9223372036854775807
 i2 : -9223372036854775808 ≤ x.f2 ∧ x.f2 ≤ 9223372036854775807
 i3 : -9223372036854775808 ≤ x.f3 ∧ x.f3 ≤ 9223372036854775807
 nm : x.f4.size ≤ 256
 ln : x.f5.length ≤ 20
 i5 : ∀ n ∈ x.f5, -9223372036854775808 ≤ n ∧ n ≤ 9223372036854775807
def insR (x : SIns) (code : Bool) : ByteArray × Int := lineR (wordR x.f0 code) x.f4 (x.f0 == 11) 1 (numsR x code)
theorem word_size (op : Int) (code : Bool) : (wordR op code).size ≤ 1000 := by
 unfold wordR
 rcases op_cases op with e | e | e | e | e | e | e | e | e | e | e | e | e | e | e | e | e
 all_goals first
  | (rw [e]; cases code <;> decide)
  | (rw [text_of_none (by omega)]; decide)
theorem nums_len (x : SIns) (code : Bool) (h : x.f5.length ≤ 20) : (numsR x code).length ≤ 1000 := by
 unfold numsR
 (repeat' split) <;> simp <;> omega
theorem mem_total : ∀ {l : List (List SIns)} {xs : List SIns}, xs ∈ l → xs.length ≤ (l.map List.length).sum
 | a :: l, xs, h => by
  rw [List.map_cons, List.sum_cons]
  rcases List.mem_cons.1 h with rfl | h
  ·omega
  ·have := mem_total h; omega
theorem text_of_some {op : Int} {code : Bool} (h : ¬ (op = 0 ∨ (op < 0 ∨ 14 < op) ∧ op ≠ 21 ∧ op ≠ 22)) : ∃ wd fs is, text_of.f op code = some (op, wd, fs, is) ∧ (wd.size ≤ 6 ∧ wd.toList ≠ []) ∧ fs.size ≤ 3 ∧ (∀ b ∈ fs.data.toList, b = 68 ∨ b = 65 ∨ b = 66 ∨ b = 78 ∨ b = 76) ∧ (is = false ↔ code = false ∧ (op = 21 ∨ op = 22)) := by
 rcases op_cases op with rfl | rfl | rfl | rfl | rfl | rfl | rfl | rfl | rfl | rfl | rfl | rfl | rfl | rfl | rfl | rfl | rfl | h'
 all_goals first
  | exact absurd (by omega) h
  | (cases code <;> exact ⟨_, _, _, rfl, ⟨by decide, by rw [toList_data]; decide⟩, by decide, by decide, by decide⟩)
theorem itoa_len {n : Int} (h : -9223372036854775808 ≤ n ∧ n ≤ 9223372036854775807) : (Lib.itoa n).length ≤ 20 := by
 have h19 : (10 : Nat) ^ (18 + 1) = 10000000000000000000 := by decide
 unfold Lib.itoa
 split
 ·have := dec_len 18 n.natAbs (by omega)
  simp only [List.length_cons]; omega
 ·have := dec_len 18 n.toNat (by omega)
  omega
theorem str_len {p : Part} (h : PartOk p) (hs : ∀ s, p = .nm s → s.size ≤ 256) : p.str.data.toList.length ≤ 256 := by
 cases p with
 | num n =>
  have := itoa_len h
  show (⟨(Lib.itoa n).toArray⟩ : ByteArray).data.toList.length ≤ 256
  simp; omega
 | nm s => have := hs s rfl; show s.data.toList.length ≤ 256; simpa using this
theorem flat_len (ps : List Part) (h : ∀ p ∈ ps, p.str.data.toList.length ≤ 256) : (ps.flatMap (fun p => 32 :: p.str.data.toList)).length ≤ 257 * ps.length := by
 induction ps with
 | nil => simp
 | cons p ps ih =>
  have h1 := h p List.mem_cons_self
  have h2 := ih (fun q hq => h q (List.mem_cons_of_mem _ hq))
  simp only [List.flatMap_cons, List.length_append, List.length_cons]
  omega
theorem parts_ok {x : SIns} (h : Lite x) (fs : List UInt8) : ∀ p ∈ partsOf x fs, PartOk p ∧ ∀ s, p = .nm s → s.size ≤ 256 := by
 intro p hp
 obtain ⟨c, hc, hp⟩ := List.mem_flatMap.1 hp
 unfold fieldParts at hp
 split at hp
 ·rw [List.mem_singleton.1 hp]; exact ⟨h.i1, fun s e => by cases e⟩
 split at hp
 ·rw [List.mem_singleton.1 hp]; exact ⟨h.i2, fun s e => by cases e⟩
 split at hp
 ·rw [List.mem_singleton.1 hp]; exact ⟨h.i3, fun s e => by cases e⟩
 split at hp
 ·rw [List.mem_singleton.1 hp]; exact ⟨trivial, fun s e => by cases e; exact h.nm⟩
 split at hp
 ·obtain ⟨n, hn, rfl⟩ := List.mem_map.1 hp
  exact ⟨h.i5 n hn, fun s e => by cases e⟩
 ·simp at hp
theorem parts_count {x : SIns} (h : Lite x) (fs : ByteArray) (hf : fs.size ≤ 3) : (partsOf x fs.data.toList).length ≤ 63 := by
 have h1 := partsOf_len x fs.data.toList
 have h2 : fs.data.toList.length = fs.size := by simp
 have h3 := h.ln
 have h4 : fs.data.toList.length * (x.f5.length + 1) ≤ 3 * 21 := Nat.mul_le_mul (by omega) (by omega)
 omega
theorem line_len {x : SIns} (h : Lite x) (wd fs : ByteArray) (hw : wd.size ≤ 6) (hf : fs.size ≤ 3) : (lineBytes wd (partsOf x fs.data.toList)).length ≤ 20000 := by
 rw [lineBytes_flat, List.length_append, List.length_append]
 have h1 := flat_len (partsOf x fs.data.toList) (fun p hp => str_len (parts_ok h _ p hp).1 (parts_ok h _ p hp).2)
 have h2 := parts_count h fs hf
 have h3 : wd.data.toList.length = wd.size := by simp
 have : 257 * (partsOf x fs.data.toList).length ≤ 257 * 63 := Nat.mul_le_mul_left _ h2
 simp only [List.length_singleton]
 omega
theorem insOk_of {x : SIns} (h : Lite x) (code : Bool) : insOkB code x = true := by
 unfold insOkB
 by_cases hn : x.f0 = 0 ∨ (x.f0 < 0 ∨ 14 < x.f0) ∧ x.f0 ≠ 21 ∧ x.f0 ≠ 22
 ·rw [text_of_none hn]
  have h5 := h.ln
  simp only [Bool.and_eq_true, decide_eq_true_eq]
  rw [name_eq]
  exact ⟨⟨⟨⟨⟨rfl, rfl⟩, by decide⟩, (by decide : (lineBytes emp []).length ≤ 1000000000)⟩, rfl⟩, by omega⟩
 ·obtain ⟨wd, fs, is, ho, ⟨hw, -⟩, hf, hb, -⟩ := text_of_some (code := code) hn
  rw [ho]
  have h5 := h.ln
  have h6 := line_len h wd fs hw hf
  simp only [Bool.and_eq_true, decide_eq_true_eq]
  rw [name_eq]
  refine ⟨⟨⟨⟨⟨List.all_eq_true.2 fun b hbm => zF (hb b hbm), List.all_eq_true.2 fun p hp => ?_⟩, by omega⟩, by omega⟩, rfl⟩, by omega⟩
  have h7 := (parts_ok h _ p hp).1
  cases p with
  | num n => exact zF (show -9223372036854775808 ≤ n ∧ n ≤ 9223372036854775807 from h7)
  | nm s => rfl
theorem insText_grow {x : SIns} (h : Lite x) (code : Bool) (s : List UInt8 × Int) : (insText code s x).1.length ≤ s.1.length + 20000 := by
 unfold insText
 by_cases hn : x.f0 = 0 ∨ (x.f0 < 0 ∨ 14 < x.f0) ∧ x.f0 ≠ 21 ∧ x.f0 ≠ 22
 ·rw [text_of_none hn]; simp
 ·obtain ⟨wd, fs, is, ho, ⟨hw, -⟩, hf, hb, -⟩ := text_of_some (code := code) hn
  rw [ho]
  have h6 := line_len h wd fs hw hf
  cases is with
  | true => simp only [List.length_append]; omega
  | false => simp
theorem insText_R {x : SIns} (h : Lite x) (code : Bool) (s : List UInt8) : (insText code (s, 0) x).2 = (insR x code).2 ∧ ((insR x code).2 = 0 → (insText code (s, 0) x).1 = s ++ (insR x code).1.data.toList) := by
 by_cases hn : x.f0 = 0 ∨ (x.f0 < 0 ∨ 14 < x.f0) ∧ x.f0 ≠ 21 ∧ x.f0 ≠ 22
 ·have e1 : insR x code = (emp, 80) := by
   unfold insR lineR
   rw [zC (.inl (by unfold wordR; rw [text_of_none hn, toList_data]; rfl))]
  have e2 : insText code (s, 0) x = (s, 80) := by unfold insText; rw [text_of_none hn]; rfl
  rw [e1, e2]
  exact ⟨rfl, fun h => absurd h (by decide)⟩
 obtain ⟨wd, fs, is, ho, ⟨hw, hw0⟩, hf, hb, his⟩ := text_of_some (code := code) hn
 cases is with
 | false =>
  have e1 : insR x code = (emp, 80) := by
   unfold insR lineR
   rw [zC (.inl (by unfold wordR; rw [ho, toList_data]; rfl))]
  have e2 : insText code (s, 0) x = (s, 80) := by unfold insText; rw [ho]; rfl
  rw [e1, e2]
  exact ⟨rfl, fun h => absurd h (by decide)⟩
 | true =>
  have ew : wordR x.f0 code = wd := by unfold wordR; rw [ho]
  have e2 : insText code (s, 0) x = (s ++ lineBytes wd (partsOf x fs.data.toList), errsOf (nameErr (nameOk x.f4) 0 fs.data.toList) (partsOf x fs.data.toList)) := by unfold insText; rw [ho]; dsimp only; rw [name_eq]; rfl
  rw [e2]
  unfold insR
  rw [ew]
  clear ew e2 hb hf
  have hx := hn
  obtain ⟨x0, x1, x2, x3, x4, x5⟩ := x
  dsimp only at *
  have key : ∀ (named : Bool) (l : List Int) (ps : List Part) (e0 : Int), (e0 = if named = true ∧ nameOk x4 = false then 80 else 0) → (e0 = 0 → errsOf 0 ps = if l.all good = true then 0 else 81) → (l.all good = true → tailB x4 named 1 0 l = ps.flatMap (fun p => 32 :: p.str.data.toList)) →
   (errsOf e0 ps = (lineR wd x4 named 1 l).2 ∧ ((lineR wd x4 named 1 l).2 = 0 → s ++ lineBytes wd ps = s ++ (lineR wd x4 named 1 l).1.data.toList)) := by
   intro named l ps e0 he hp ht
   unfold lineR
   by_cases hc : named = true ∧ nameOk x4 = false
   ·rw [zC (.inr hc)]
    rw [he, zC hc, errsOf_keep, keepE_nz (by decide)]
    exact ⟨rfl, fun h => absurd h (by decide)⟩
   ·rw [zD (by rintro (h | h); exact hw0 h; exact hc h)]
    rw [zD hc] at he
    rw [he, hp he]
    by_cases hg : l.all good = true
    ·rw [zC hg, zC hg]
     refine ⟨rfl, fun _ => ?_⟩
     rw [lineBytes_flat, ht hg]
    ·rw [zD hg, zD hg]
     exact ⟨rfl, fun h => absurd h (by decide)⟩
  have hop : ∀ (wd' fs' : ByteArray), text_of.f x0 code = some (x0, wd', fs', true) → wd = wd' ∧ fs = fs' := fun wd' fs' h' => by
   rw [ho] at h'
   simp only [Option.some.injEq, Prod.mk.injEq] at h'
   exact ⟨h'.2.1, h'.2.2.1⟩
  have nums : ∀ (l : List Int), fs.data.toList.flatMap (fieldParts ⟨x0, x1, x2, x3, x4, x5⟩) = l.map .num → (78 : UInt8) ∉ fs.data.toList → (x0 == 11) = false → numsR ⟨x0, x1, x2, x3, x4, x5⟩ code = l →
   (errsOf (nameErr (nameOk x4) 0 fs.data.toList) (partsOf ⟨x0, x1, x2, x3, x4, x5⟩ fs.data.toList) = (lineR wd x4 (x0 == 11) 1 (numsR ⟨x0, x1, x2, x3, x4, x5⟩ code)).2 ∧ ((lineR wd x4 (x0 == 11) 1 (numsR ⟨x0, x1, x2, x3, x4, x5⟩ code)).2 = 0 → s ++ lineBytes wd (partsOf ⟨x0, x1, x2, x3, x4, x5⟩ fs.data.toList) = s ++ (lineR wd x4 (x0 == 11) 1 (numsR ⟨x0, x1, x2, x3, x4, x5⟩ code)).1.data.toList)) := by
   intro l hl h78 h11 hnum
   rw [h11, hnum, show partsOf ⟨x0, x1, x2, x3, x4, x5⟩ fs.data.toList = l.map .num from hl]
   refine key false l _ _ ?_ (fun _ => errs_nums l) (fun hg => tail_plain x4 false 1 l 0 (fun h => by cases h) hg)
   rw [zD (by rintro ⟨h, _⟩; cases h)]
   have : ∀ (fl : List UInt8) (e : Int), (78 : UInt8) ∉ fl → nameErr (nameOk x4) e fl = e := by
    intro fl
    induction fl with
    | nil => intro e _; rfl
    | cons c fl ih =>
     intro e hm
     have h1 : c ≠ 78 := fun e => hm (by rw [e]; exact List.mem_cons_self)
     show nameErr (nameOk x4) (if c = 78 then _ else e) fl = e
     rw [zD h1]
     exact ih e (fun hm' => hm (List.mem_cons_of_mem _ hm'))
   exact this _ _ h78
  rcases op_cases x0 with rfl | rfl | rfl | rfl | rfl | rfl | rfl | rfl | rfl | rfl | rfl | rfl | rfl | rfl | rfl | rfl | rfl | h'
  all_goals first
   | exact absurd (by omega) hx
   | (obtain ⟨rfl, rfl⟩ := hop _ _ rfl; exact nums _ rfl (by decide) rfl rfl)
   | (cases code <;> first | (obtain ⟨rfl, rfl⟩ := hop _ _ rfl; exact nums _ rfl (by decide) rfl rfl) | exact absurd (his.2 ⟨rfl, .inl rfl⟩) (by decide) | exact absurd (his.2 ⟨rfl, .inr rfl⟩) (by decide))
   | skip
  ·-- a call
   have ne : ∀ c : UInt8, nameErr (nameOk x4) 0 [68, 78, c] = if c = 78 then (if nameOk x4 = true then (if nameOk x4 = true then 0 else 80) else 80) else (if nameOk x4 = true then 0 else 80) := fun c => by
    unfold nameErr
    simp only [List.foldl_cons, List.foldl_nil]
    cases nameOk x4 <;> simp [keepE]
   have hname : ∀ c : UInt8, c ≠ 78 → nameErr (nameOk x4) 0 [68, 78, c] = if (true : Bool) = true ∧ nameOk x4 = false then 80 else 0 := fun c hc => by
    rw [ne c, zD hc]
    cases nameOk x4 <;> simp
   have errs : ∀ l : List Int, errsOf 0 (.num x1 :: .nm x4 :: l.map .num) = if (x1 :: l).all good = true then 0 else 81 := fun l => by
    have h1 : errsOf 0 (.num x1 :: .nm x4 :: l.map .num) = errsOf (keepE (keepE 0 (Part.err (.num x1))) 0) (l.map .num) := rfl
    rw [h1, keepE_z, errsOf_keep, err_num, errs_nums l]
    by_cases hg : good x1 = true
    ·simp [hg, keepE]
    ·simp [hg, keepE]
   have tl : ∀ l : List Int, (x1 :: l).all good = true → tailB x4 true 1 0 (x1 :: l) = (Part.num x1 :: Part.nm x4 :: l.map .num).flatMap (fun p => 32 :: p.str.data.toList) := fun l hg => by
    simp only [List.all_cons, Bool.and_eq_true] at hg
    have e1 : tailB x4 true 1 0 (x1 :: l) = 32 :: Lib.decDigits x1.toNat ++ tailB x4 true 1 (0 + 1) l := by
     rw [tailB, zD (by rintro ⟨_, h⟩; omega)]; simp
    have e2 : tailB x4 true 1 (0 + 1) l = (32 :: x4.data.toList) ++ (l.map Part.num).flatMap (fun p => 32 :: p.str.data.toList) := by
     cases l with
     | nil => rw [tailB, zC ⟨rfl, rfl⟩]; simp
     | cons n l =>
      simp only [List.all_cons, Bool.and_eq_true] at hg
      rw [tailB, zC ⟨rfl, rfl⟩, tail_plain x4 true 1 l _ (fun _ => by omega) hg.2.2]
      simp [str_num hg.2.1]
    rw [e1, e2]
    simp only [List.flatMap_cons, str_num hg.1]
    have e3 : (Part.nm x4).str = x4 := rfl
    simp [e3]
   cases code with
   | true =>
    obtain ⟨rfl, rfl⟩ := hop _ _ rfl
    exact key true [x1, x2] [.num x1, .nm x4, .num x2] _ (hname 65 (by decide)) (fun _ => errs [x2]) (fun hg => tl [x2] hg)
   | false =>
    obtain ⟨rfl, rfl⟩ := hop _ _ rfl
    have e : partsOf ⟨11, x1, x2, x3, x4, x5⟩ [68, 78, 76] = .num x1 :: .nm x4 :: x5.map .num := by simp [partsOf, fieldParts]
    have := key true (x1 :: x5) (.num x1 :: .nm x4 :: x5.map .num) _ (hname 76 (by decide)) (fun _ => errs x5) (fun hg => tl x5 hg)
    rw [← e] at this
    exact this
theorem keep_err {code : Bool} {s : List UInt8 × Int} {x : SIns} (h : s.2 ≠ 0) : (insText code s x).2 = s.2 := by
 unfold insText
 split
 ·rw [errsOf_keep]
  have : ∀ (fl : List UInt8) (e : Int) (nb : Bool), e ≠ 0 → nameErr nb e fl = e := by
   intro fl
   induction fl with
   | nil => intro e nb _; rfl
   | cons c fl ih =>
    intro e nb he
    show nameErr nb (if c = 78 then (if nb then e else keepE e 80) else e) fl = e
    rw [keepE_nz he]
    simp only [ite_self]
    exact ih e nb he
  rw [this _ _ _ h, keepE_nz h]
 ·exact keepE_nz h _
theorem fold_err {α : Type} {f : List UInt8 × Int → α → List UInt8 × Int} (hf : ∀ s x, s.2 ≠ 0 → (f s x).2 = s.2) : ∀ (l : List α) (s : List UInt8 × Int), s.2 ≠ 0 → (l.foldl f s).2 = s.2
 | [], s, h => rfl
 | x :: l, s, h => by rw [List.foldl_cons, fold_err hf l _ (by rw [hf s x h]; exact h), hf s x h]
theorem blk_err {code : Bool} {s : List UInt8 × Int} {xs : List SIns} (h : s.2 ≠ 0) : (blkText code s xs).2 = s.2 := fold_err (fun s x h => keep_err h) xs (s.1 ++ [98, 108, 111, 99, 107, 10], s.2) h
theorem blks_err {code : Bool} {s : List UInt8 × Int} {l : List (List SIns)} (h : s.2 ≠ 0) : (blksText code s l).2 = s.2 := fold_err (fun s x h => blk_err h) l s h
def fin (s : List UInt8 × Int) : ByteArray × Int := if s.2 = 0 then (⟨s.1.toArray⟩, 0) else (emp, s.2)
theorem fin_err {s : List UInt8 × Int} (h : s.2 ≠ 0) : fin s = (emp, s.2) := zD h
def total (l : List (List SIns)) : Nat := (l.map List.length).sum
structure Light (l : List (List SIns)) : Prop where
 len : l.length ≤ 50
 tot : total l ≤ 300
 lite : ∀ xs ∈ l, ∀ x ∈ xs, Lite x
theorem blk_grow {code : Bool} : ∀ (xs : List SIns), (∀ x ∈ xs, Lite x) → ∀ s : List UInt8 × Int, (xs.foldl (insText code) s).1.length ≤ s.1.length + 20000 * xs.length
 | [], _, s => by simp
 | x :: xs, h, s => by
  have h1 := blk_grow (code := code) xs (fun y hy => h y (List.mem_cons_of_mem _ hy)) (insText code s x)
  have h2 := insText_grow (h x List.mem_cons_self) code s
  rw [List.foldl_cons, List.length_cons]; omega
theorem blks_grow {code : Bool} : ∀ (l : List (List SIns)), (∀ xs ∈ l, ∀ x ∈ xs, Lite x) → ∀ s : List UInt8 × Int, (blksText code s l).1.length ≤ s.1.length + 6 * l.length + 20000 * total l
 | [], _, s => by simp [blksText, total]
 | xs :: l, h, s => by
  have h1 := blks_grow (code := code) l (fun y hy => h y (List.mem_cons_of_mem _ hy)) (blkText code s xs)
  have h2 := blk_grow (code := code) xs (h xs List.mem_cons_self) (s.1 ++ [98, 108, 111, 99, 107, 10], s.2)
  have h3 : (blkText code s xs).1.length ≤ s.1.length + 6 + 20000 * xs.length := by
   refine Nat.le_trans h2 ?_
   simp
  have e1 : blksText code s (xs :: l) = blksText code (blkText code s xs) l := rfl
  have e2 : total (xs :: l) = xs.length + total l := by simp [total]
  rw [e1, e2, List.length_cons]; omega
section
variable {L : List (List SIns)} {code : Bool}
set_option maxRecDepth 100000 in
theorem inner (hL : ∀ xs ∈ L, ∀ x ∈ xs, Lite x) (hLL : L.length ≤ 50) (i : Nat) (xs : List SIns) (hi : L[i]? = some xs) (hxl : xs.length ≤ 300) (r : ByteArray × Int) (g : List UInt8 × Int → ByteArray × Int) (hg : ∀ s : List UInt8 × Int, s.2 ≠ 0 → g s = (emp, s.2)) :
 ∀ (l : List SIns) (j : Nat) (s : List UInt8), xs.drop j = l → j ≤ xs.length → s.length ≤ 1000000000 + 20000 * j →
  ((l.foldl (insText code) (s, 0)).2 = 0 → Ev (fun k => cubbyref08_print.l0 k L code ⟨(l.foldl (insText code) (s, 0)).1.toArray⟩ ((i + 1 : Nat) : Int)) (g (l.foldl (insText code) (s, 0)))) →
  Ev (fun k => cubbyref08_print.l1 k L code ⟨s.toArray⟩ (i : Int) (j : Int)) (g (l.foldl (insText code) (s, 0)))
 | [], j, s, hl, hj, hs, hK => by
  have hil : i < L.length := (List.getElem?_eq_some_iff.1 hi).1
  have hjl : xs.length = j := by have := congrArg List.length hl; simp at this; omega
  refine Ev.step (fun k => ?_) (hK rfl)
  simp only [cubbyref08_print.l1]
  rw [zC (by omega), zC (by omega), rd_LIns_at hi, zD (by omega)]
  rw [wrap_nat (by omega)]
  rfl
 | x :: l, j, s, hl, hj, hs, hK => by
  have hil : i < L.length := (List.getElem?_eq_some_iff.1 hi).1
  have hlt : j < xs.length := by
   rcases Nat.lt_or_ge j xs.length with h | h
   ·exact h
   ·rw [List.drop_eq_nil_of_le h] at hl; cases hl
  have hlx := hl
  rw [drop_cons hlt] at hlx
  simp only [List.cons.injEq] at hlx
  obtain ⟨hxv, hl2⟩ := hlx
  have hx : xs[j]? = some x := by rw [List.getElem?_eq_getElem hlt, hxv]
  have hLx : Lite x := hL xs (List.mem_of_getElem? hi) x (List.mem_of_getElem? hx)
  obtain ⟨h1, h2⟩ := insText_R hLx code s
  have h3 := insText_grow hLx code (s, 0)
  have h5 := hLx.ln
  have step : ∀ k, cubbyref08_print.l1 (k + 1) L code ⟨s.toArray⟩ (i : Int) (j : Int) = (cubbyref08_word.f k x.f0 code).bind fun t164 => (cubbyref08_numbers.f k x.f0 x.f1 x.f2 x.f3 x.f4 x.f5 code).bind fun t165 => (cubbyref08_line.f k t164 x.f4 (x.f0 == 11) 1 t165).bind fun bt168 => if bt168.2 = 0 then (if (⟨s.toArray⟩ : ByteArray).size + bt168.1.size ≤ 9223372036854775807 then cubbyref08_print.l1 k L code ((⟨s.toArray⟩ : ByteArray) ++ bt168.1) (i : Int) (wrap64 ((j : Int) + 1)) else none) else some (emp, bt168.2) := fun k => by
   simp only [cubbyref08_print.l1]
   rw [zC (by omega), zC (by omega), rd_LIns_at hi, zC (by omega), zC (by omega), rd_TIns_at hx]
   rfl
  refine Ev.step step (Ev.bind (word_ev x.f0 code) (f := fun k t164 => (cubbyref08_numbers.f k x.f0 x.f1 x.f2 x.f3 x.f4 x.f5 code).bind fun t165 => (cubbyref08_line.f k t164 x.f4 (x.f0 == 11) 1 t165).bind fun bt168 => if bt168.2 = 0 then (if (⟨s.toArray⟩ : ByteArray).size + bt168.1.size ≤ 9223372036854775807 then cubbyref08_print.l1 k L code ((⟨s.toArray⟩ : ByteArray) ++ bt168.1) (i : Int) (wrap64 ((j : Int) + 1)) else none) else some (emp, bt168.2)) (Ev.bind (numbers_ev x code (by omega)) (f := fun k t165 => (cubbyref08_line.f k (wordR x.f0 code) x.f4 (x.f0 == 11) 1 t165).bind fun bt168 => if bt168.2 = 0 then (if (⟨s.toArray⟩ : ByteArray).size + bt168.1.size ≤ 9223372036854775807 then cubbyref08_print.l1 k L code ((⟨s.toArray⟩ : ByteArray) ++ bt168.1) (i : Int) (wrap64 ((j : Int) + 1)) else none) else some (emp, bt168.2)) (Ev.bind (a := insR x code) ?_ ?_)))
  ·refine line_ev _ _ _ _ _ (word_size x.f0 code) (by have := hLx.nm; omega) (nums_len x code (by omega))
  ·rw [List.foldl_cons] at hK ⊢
   by_cases h0 : (insR x code).2 = 0
   ·have e : insText code (s, 0) x = (s ++ (insR x code).1.data.toList, 0) := Prod.ext (h2 h0) (h1.trans h0)
    rw [e] at hK h3 ⊢
    have e2 : (⟨s.toArray⟩ : ByteArray) ++ (insR x code).1 = ⟨(s ++ (insR x code).1.data.toList).toArray⟩ := ba_ext (by rw [apl])
    have e3 : (⟨s.toArray⟩ : ByteArray).size = s.length := by show s.toArray.size = _; simp
    have e4 : (insR x code).1.size = (insR x code).1.data.toList.length := by simp
    have h6 : s.length + (insR x code).1.data.toList.length ≤ s.length + 20000 := by simpa using h3
    have hz : (s ++ (insR x code).1.data.toList).length ≤ 1000000000 + 20000 * (j + 1) := by have h9 : (s ++ (insR x code).1.data.toList).length = s.length + (insR x code).1.data.toList.length := List.length_append; omega
    have ih := inner hL hLL i xs hi hxl r g hg l (j + 1) (s ++ (insR x code).1.data.toList) hl2 (by omega) hz hK
    refine Ev.congr (fun k => ?_) ih
    rw [zC h0, e3, e4, zC (by omega), e2, wrap_nat (by omega)]
   ·have hne : (insText code (s, 0) x).2 ≠ 0 := by rw [h1]; exact h0
    have he := fold_err (f := insText code) (fun s x h => keep_err h) l _ hne
    rw [hg _ (by rw [he]; exact hne), he, h1]
    exact Ev.congr (fun k => by rw [zD h0]) (Ev.now _)
theorem outer (h : Light L) (code : Bool) : ∀ (l : List (List SIns)) (i : Nat) (s : List UInt8), L.drop i = l → i ≤ L.length → s.length ≤ 100000000 + 10000000 * i →
 Ev (fun k => cubbyref08_print.l0 k L code ⟨s.toArray⟩ (i : Int)) (fin (blksText code (s, 0) l))
 | [], i, s, hl, hi, hs => by
  have hil : L.length = i := by have := congrArg List.length hl; simp at this; omega
  refine ⟨1, fun k hk => ?_⟩
  obtain ⟨q, rfl⟩ : ∃ q, k = q + 1 := ⟨k - 1, by omega⟩
  simp only [cubbyref08_print.l0]
  rw [zD (by omega)]
  rfl
 | xs :: l, i, s, hl, hi, hs => by
  have hlt : i < L.length := by
   rcases Nat.lt_or_ge i L.length with h | h
   ·exact h
   ·rw [List.drop_eq_nil_of_le h] at hl; cases hl
  rw [drop_cons hlt] at hl
  simp only [List.cons.injEq] at hl
  obtain ⟨hxv, hl2⟩ := hl
  have hx : L[i]? = some xs := by rw [List.getElem?_eq_getElem hlt, hxv]
  have hxm : xs ∈ L := List.mem_of_getElem? hx
  have hLL := h.len
  have hxl : xs.length ≤ 300 := Nat.le_trans (mem_total hxm) h.tot
  have e0 : (⟨s.toArray⟩ : ByteArray).size = s.length := by show s.toArray.size = _; simp
  have e1 : (⟨s.toArray⟩ : ByteArray) ++ (⟨#[98, 108, 111, 99, 107, 10]⟩ : ByteArray) = ⟨(s ++ [98, 108, 111, 99, 107, 10]).toArray⟩ := ba_ext (by rw [apl])
  have hgr := blk_grow (code := code) xs (h.lite xs hxm) (s ++ [98, 108, 111, 99, 107, 10], 0)
  have hz : (s ++ ([98, 108, 111, 99, 107, 10] : List UInt8)).length = s.length + 6 := by rw [List.length_append]; rfl
  have hz2 : ((s ++ ([98, 108, 111, 99, 107, 10] : List UInt8), (0 : Int)).1).length = s.length + 6 := hz
  rw [hz2] at hgr
  have hi2 := inner (code := code) h.lite hLL i xs hx hxl (emp, 0) (fun s => fin (blksText code s l)) (fun s hs => by
   have := blks_err (code := code) (l := l) hs
   rw [fin_err (by rw [this]; exact hs), this]) xs 0 (s ++ [98, 108, 111, 99, 107, 10]) rfl (Nat.zero_le _) (by have := hz; omega) (fun h0 => by
    have h4 := outer h code l (i + 1) (xs.foldl (insText code) (s ++ [98, 108, 111, 99, 107, 10], 0)).1 hl2 (by omega) (by omega)
    have e : xs.foldl (insText code) (s ++ [98, 108, 111, 99, 107, 10], 0) = ((xs.foldl (insText code) (s ++ [98, 108, 111, 99, 107, 10], 0)).1, 0) := Prod.ext rfl h0
    rw [← e] at h4
    exact h4)
  refine Ev.step (fun k => ?_) hi2
  simp only [cubbyref08_print.l0]
  rw [zC (by omega), e0, zC (by omega), e1]
  rfl
end
theorem head_R (a0 : ByteArray) (a1 a2 : Int) (h0 : a0.size ≤ 256) : (printHead a0 a1 a2).2 = (lineR (⟨#[102, 117, 110, 99]⟩ : ByteArray) a0 true 0 [a1, a2]).2 ∧ ((lineR (⟨#[102, 117, 110, 99]⟩ : ByteArray) a0 true 0 [a1, a2]).2 = 0 → (printHead a0 a1 a2).1 = (lineR (⟨#[102, 117, 110, 99]⟩ : ByteArray) a0 true 0 [a1, a2]).1.data.toList) := by
 have hw : ¬ (⟨#[102, 117, 110, 99]⟩ : ByteArray).toList = [] := by rw [toList_data]; decide
 have he : errsOf 0 [.nm a0, .num a1, .num a2] = if [a1, a2].all good = true then 0 else 81 := by
  have h1 : errsOf 0 [.nm a0, .num a1, .num a2] = errsOf (keepE 0 0) ([a1, a2].map .num) := rfl
  rw [h1, keepE_z, errs_nums]
 unfold printHead
 rw [name_eq]
 by_cases hn : nameOk a0 = true
 ·have e : lineR (⟨#[102, 117, 110, 99]⟩ : ByteArray) a0 true 0 [a1, a2] = if [a1, a2].all good = true then (⟨((⟨#[102, 117, 110, 99]⟩ : ByteArray).data.toList ++ tailB a0 true 0 0 [a1, a2] ++ [10]).toArray⟩, 0) else (emp, 81) := zD (by
   rintro (h | ⟨_, h⟩)
   ·exact hw h
   ·rw [hn] at h; cases h)
  rw [e, hn]
  dsimp only [Option.getD_some]
  rw [zC rfl, he]
  by_cases hg : [a1, a2].all good = true
  ·rw [zC hg, zC hg]
   refine ⟨rfl, fun _ => ?_⟩
   rw [lineBytes_flat]
   have e1 : tailB a0 true 0 0 [a1, a2] = (32 :: a0.data.toList) ++ ([a1, a2].map Part.num).flatMap (fun p => 32 :: p.str.data.toList) := by
    have hg2 := hg
    simp only [List.all_cons, Bool.and_eq_true] at hg2
    rw [tailB, zC ⟨rfl, rfl⟩, tail_plain a0 true 0 [a2] _ (fun _ => by omega) (by simpa using hg2.2)]
    simp [str_num hg2.1]
   rw [e1]
   have e3 : (Part.nm a0).str = a0 := rfl
   simp [e3]
  ·rw [zD hg, zD hg]
   exact ⟨rfl, fun h => absurd h (by decide)⟩
 ·have hn2 : nameOk a0 = false := by simpa using hn
  have e : lineR (⟨#[102, 117, 110, 99]⟩ : ByteArray) a0 true 0 [a1, a2] = (emp, 80) := zC (.inr ⟨rfl, hn2⟩)
  rw [e, hn2]
  dsimp only [Option.getD_some]
  rw [zD (show ¬ (false = true) by decide), errsOf_keep]
  exact ⟨rfl, fun h => absurd h (by decide)⟩
def told (a0 : ByteArray) (a1 a2 : Int) (l : List (List SIns)) : ByteArray × Int := fin (printS a0 a1 a2 l)
theorem head_len (a0 : ByteArray) (a1 a2 : Int) (h0 : a0.size ≤ 256) (h1 : -9223372036854775808 ≤ a1 ∧ a1 ≤ 9223372036854775807) (h2 : -9223372036854775808 ≤ a2 ∧ a2 ≤ 9223372036854775807) : (printHead a0 a1 a2).1.length ≤ 1000 := by
 unfold printHead
 have hf := flat_len [.nm a0, .num a1, .num a2] (fun p hp => by
  simp only [List.mem_cons, List.not_mem_nil, or_false] at hp
  rcases hp with rfl | rfl | rfl
  ·exact str_len trivial (fun s e => by cases e; exact h0)
  ·exact str_len (p := .num a1) h1 (fun s e => by cases e)
  ·exact str_len (p := .num a2) h2 (fun s e => by cases e))
 rw [lineBytes_flat, List.length_append, List.length_append]
 have : (⟨#[102, 117, 110, 99]⟩ : ByteArray).data.toList.length = 4 := rfl
 simp only [List.length_singleton, List.length_cons, List.length_nil] at hf ⊢
 omega
theorem print_len {a0 : ByteArray} {a1 a2 : Int} {l : List (List SIns)} (h0 : a0.size ≤ 256) (h1 : -9223372036854775808 ≤ a1 ∧ a1 ≤ 9223372036854775807) (h2 : -9223372036854775808 ≤ a2 ∧ a2 ≤ 9223372036854775807) (h : Light l) : (printS a0 a1 a2 l).1.length ≤ 10000000 := by
 have h3 := head_len a0 a1 a2 h0 h1 h2
 have h4 := blks_grow (code := false) l h.lite (printHead a0 a1 a2)
 have h5 := h.len
 have h6 := h.tot
 unfold printS
 omega
theorem print_eq {a0 : ByteArray} {a1 a2 : Int} {l : List (List SIns)} (h0 : a0.size ≤ 256) (h1 : -9223372036854775808 ≤ a1 ∧ a1 ≤ 9223372036854775807) (h2 : -9223372036854775808 ≤ a2 ∧ a2 ≤ 9223372036854775807) (h : Light l) : text_Print.f a0 a1 a2 l = some (told a0 a1 a2 l) := by
 unfold text_Print.f
 rw [zC]
 ·unfold told fin
  split
  ·next hz => rw [hz]
  ·rfl
 ·have h7 := print_len h0 h1 h2 h
  simp only [printOkB, Bool.and_eq_true, decide_eq_true_eq]
  refine ⟨⟨⟨⟨by rw [name_eq]; rfl, zF (show -9223372036854775808 ≤ a1 ∧ a1 ≤ 9223372036854775807 from h1)⟩, zF (show -9223372036854775808 ≤ a2 ∧ a2 ≤ 9223372036854775807 from h2)⟩, ?_⟩, by omega⟩
  exact List.all_eq_true.2 fun xs hx => List.all_eq_true.2 fun x hy => insOk_of (h.lite xs hx x hy) false
theorem refprint_ev {a0 : ByteArray} {a1 a2 : Int} {l : List (List SIns)} (h0 : a0.size ≤ 256) (h1 : -9223372036854775808 ≤ a1 ∧ a1 ≤ 9223372036854775807) (h2 : -9223372036854775808 ≤ a2 ∧ a2 ≤ 9223372036854775807) (h : Light l) : Ev (fun k => cubbyref08_Print.f k a0 a1 a2 l) (told a0 a1 a2 l) := by
 obtain ⟨e1, e2⟩ := head_R a0 a1 a2 h0
 have h3 := head_len a0 a1 a2 h0 h1 h2
 unfold cubbyref08_Print.f
 refine Ev.bind (line_ev (⟨#[102, 117, 110, 99]⟩ : ByteArray) a0 true 0 [a1, a2] (by decide) (by omega) (by simp)) ?_
 by_cases hz : (lineR (⟨#[102, 117, 110, 99]⟩ : ByteArray) a0 true 0 [a1, a2]).2 = 0
 ·have e3 : printHead a0 a1 a2 = ((printHead a0 a1 a2).1, 0) := Prod.ext rfl (e1.trans hz)
  have e4 : (lineR (⟨#[102, 117, 110, 99]⟩ : ByteArray) a0 true 0 [a1, a2]).1 = ⟨(printHead a0 a1 a2).1.toArray⟩ := ba_ext (by rw [e2 hz])
  simp only [zC hz]
  rw [e4]
  have ho := outer h false l 0 (printHead a0 a1 a2).1 rfl (Nat.zero_le _) (by omega)
  rw [← e3] at ho
  exact Ev.bind (f := fun k bt176 => some (bt176.1, bt176.2)) ho (Ev.now _)
 ·simp only [zD hz]
  have e5 : told a0 a1 a2 l = (emp, (lineR (⟨#[102, 117, 110, 99]⟩ : ByteArray) a0 true 0 [a1, a2]).2) := by
   unfold told printS
   have hb := blks_err (code := false) (s := printHead a0 a1 a2) (l := l) (by rw [e1]; exact hz)
   rw [fin_err (by rw [hb, e1]; exact hz), hb, e1]
  rw [e5]
  exact Ev.now _
def Thin (x : SIns) : Prop := x.f5.length ≤ 20 ∧ x.f4.size ≤ 256
section
variable {L : List (List SIns)}
theorem heavy_inner (i : Nat) (xs : List SIns) (hi : L[i]? = some xs) (hLL : L.length ≤ 50) (n : Nat) : ∀ (d k : Nat), xs.length - k = d → k ≤ 1000 →
 Ev (fun q => cubbylaw08_heavy.l1 q L (n : Int) (i : Int) (k : Int)) true ∨ ((∀ m x, k ≤ m → m ≤ 300 → xs[m]? = some x → Thin x) ∧ ∀ r, Ev (fun q => cubbylaw08_heavy.l0 q L (n : Int) ((i + 1 : Nat) : Int)) r → Ev (fun q => cubbylaw08_heavy.l1 q L (n : Int) (i : Int) (k : Int)) r) := by
 have hil : i < L.length := (List.getElem?_eq_some_iff.1 hi).1
 have out : ∀ (k : Nat), (∀ q, cubbylaw08_heavy.l1 (q + 1) L (n : Int) (i : Int) (k : Int) = cubbylaw08_heavy.j3 q L (n : Int) (i : Int) (k : Int) false) → ∀ r, Ev (fun q => cubbylaw08_heavy.l0 q L (n : Int) ((i + 1 : Nat) : Int)) r → Ev (fun q => cubbylaw08_heavy.l1 q L (n : Int) (i : Int) (k : Int)) r := fun k hk r hr => by
  refine Ev.step hk (Ev.step (fun q => ?_) hr)
  simp only [cubbylaw08_heavy.j3]
  rw [zD (by simp), wrap_nat (by omega)]
 intro d
 induction d with
 | zero =>
  intro k hd hk
  refine .inr ⟨fun m x hm _ hx => absurd (List.getElem?_eq_some_iff.1 hx).1 (by omega), out k (fun q => ?_)⟩
  simp only [cubbylaw08_heavy.l1]
  rw [zC (by omega), zC (by omega), rd_LIns_at hi, zD (by omega)]
 | succ d ih =>
  intro k hd hk
  have hlt : k < xs.length := by omega
  by_cases h3 : k ≤ 300
  ·obtain ⟨x, hx⟩ : ∃ x, xs[k]? = some x := ⟨_, List.getElem?_eq_getElem hlt⟩
   have st : ∀ q, cubbylaw08_heavy.l1 (q + 2) L (n : Int) (i : Int) (k : Int) = if (x.f5.length : Int) > 20 then some true else if (x.f4.size : Int) > 256 then some true else cubbylaw08_heavy.l1 q L (n : Int) (i : Int) ((k + 1 : Nat) : Int) := fun q => by
    simp only [cubbylaw08_heavy.l1]
    rw [zC (by omega), zC (by omega), rd_LIns_at hi, zC (by omega), zF (show ((k : Int) ≤ 300) by omega)]
    simp only [cubbylaw08_heavy.j3]
    rw [zC (by simp), zC (by omega), zC (by omega), zC (by omega), rd_LIns_at hi, zC (by omega), rd_TIns_at hx, wrap_nat (by omega)]
   have mk : ∀ (f : Nat → Option Bool) (r : Bool), (∀ q, cubbylaw08_heavy.l1 (q + 2) L (n : Int) (i : Int) (k : Int) = f q) → Ev f r → Ev (fun q => cubbylaw08_heavy.l1 q L (n : Int) (i : Int) (k : Int)) r := fun f r h ⟨K, hK⟩ => ⟨K + 2, fun q hq => by
    obtain ⟨p, rfl⟩ : ∃ p, q = p + 2 := ⟨q - 2, by omega⟩
    exact (h p).trans (hK p (by omega))⟩
   by_cases h4 : (x.f5.length : Int) > 20
   ·exact .inl (mk _ _ (fun q => (st q).trans (zC h4)) (Ev.now _))
   by_cases h5 : (x.f4.size : Int) > 256
   ·exact .inl (mk _ _ (fun q => (st q).trans (by rw [zD h4, zC h5])) (Ev.now _))
   have st2 : ∀ q, cubbylaw08_heavy.l1 (q + 2) L (n : Int) (i : Int) (k : Int) = cubbylaw08_heavy.l1 q L (n : Int) (i : Int) ((k + 1 : Nat) : Int) := fun q => (st q).trans (by rw [zD h4, zD h5])
   rcases ih (k + 1) (by omega) (by omega) with h | ⟨h1, h2⟩
   ·exact .inl (mk _ _ st2 h)
   ·refine .inr ⟨fun m y hm hm3 hy => ?_, fun r hr => mk _ _ st2 (h2 r hr)⟩
    rcases Nat.lt_or_ge k m with h | h
    ·exact h1 m y (by omega) hm3 hy
    ·obtain rfl : k = m := by omega
     rw [hx] at hy
     injection hy with hy
     rw [← hy]
     exact ⟨by omega, by omega⟩
  ·refine .inr ⟨fun m x hm hm3 _ => absurd hm3 (by omega), out k (fun q => ?_)⟩
   simp only [cubbylaw08_heavy.l1]
   rw [zC (by omega), zC (by omega), rd_LIns_at hi, zC (by omega), zG (show ¬ ((k : Int) ≤ 300) by omega)]
theorem heavy_outer (hLL : L.length ≤ 50) : ∀ (l : List (List SIns)) (i n : Nat), L.drop i = l → i ≤ L.length → n ≤ 10000000 →
 ∃ b, Ev (fun q => cubbylaw08_heavy.l0 q L (n : Int) (i : Int)) b ∧ (b = false → n + total l ≤ 300 ∧ ∀ xs ∈ l, ∀ x ∈ xs, Thin x)
 | [], i, n, hl, hi, hn => by
  have hil : L.length = i := by have := congrArg List.length hl; simp at this; omega
  refine ⟨decide ((n : Int) > 300), Ev.step (f := fun q => cubbylaw08_heavy.j1 q L (n : Int) (i : Int) false) (fun q => by simp only [cubbylaw08_heavy.l0]; rw [zD (by omega)]) (Ev.step (f := fun _ => some (decide ((n : Int) > 300))) (fun q => by simp only [cubbylaw08_heavy.j1]; rw [zD (by simp)]) (Ev.now _)), fun h => ⟨?_, fun xs hx => by cases hx⟩⟩
  have := of_decide_eq_false h
  simp [total]; omega
 | xs :: l, i, n, hl, hi, hn => by
  have hlt : i < L.length := by
   rcases Nat.lt_or_ge i L.length with h | h
   ·exact h
   ·rw [List.drop_eq_nil_of_le h] at hl; cases hl
  rw [drop_cons hlt] at hl
  simp only [List.cons.injEq] at hl
  obtain ⟨hxv, hl2⟩ := hl
  have hx : L[i]? = some xs := by rw [List.getElem?_eq_getElem hlt, hxv]
  have et : total (xs :: l) = xs.length + total l := by simp [total]
  by_cases h3 : n ≤ 300
  ·have hmn : mn ((xs.length : Nat) : Int) 1048576 = ((min xs.length 1048576 : Nat) : Int) := by
    unfold mn
    split <;> omega
   have st : ∀ r, Ev (fun q => cubbylaw08_heavy.l1 q L ((n + min xs.length 1048576 : Nat) : Int) (i : Int) ((0 : Nat) : Int)) r → Ev (fun q => cubbylaw08_heavy.l0 q L (n : Int) (i : Int)) r := fun r hr => by
    refine Ev.step (f := fun q => cubbylaw08_heavy.j1 q L (n : Int) (i : Int) true) (fun q => by simp only [cubbylaw08_heavy.l0]; rw [zC (by omega), zF (show ((n : Int) ≤ 300) by omega)]) (Ev.step (fun q => ?_) hr)
    simp only [cubbylaw08_heavy.j1]
    rw [zC (by simp), zC (by omega), zC (by omega), rd_LIns_at hx, hmn, wrap_id (by omega) (by omega)]
    rfl
   rcases heavy_inner i xs hx hLL (n + min xs.length 1048576) _ 0 rfl (by omega) with h | ⟨h1, h2⟩
   ·exact ⟨true, st _ h, fun h => by cases h⟩
   ·obtain ⟨b, hb, hb2⟩ := heavy_outer hLL l (i + 1) (n + min xs.length 1048576) hl2 (by omega) (by omega)
    refine ⟨b, st _ (h2 b hb), fun h => ?_⟩
    obtain ⟨h5, h6⟩ := hb2 h
    have h7 : xs.length ≤ 300 := by omega
    refine ⟨by rw [et]; omega, fun ys hys => ?_⟩
    rcases List.mem_cons.1 hys with rfl | hys
    ·intro x hxm
     obtain ⟨m, hm⟩ := List.getElem?_of_mem hxm
     have := (List.getElem?_eq_some_iff.1 hm).1
     exact h1 m x (Nat.zero_le _) (by omega) hm
    ·exact h6 ys hys
  ·refine ⟨true, Ev.step (f := fun q => cubbylaw08_heavy.j1 q L (n : Int) (i : Int) false) (fun q => by simp only [cubbylaw08_heavy.l0]; rw [zC (by omega), zG (show ¬ ((n : Int) ≤ 300) by omega)]) (Ev.step (f := fun _ => some true) (fun q => by simp only [cubbylaw08_heavy.j1]; rw [zD (by simp), zF (show ((n : Int) > 300) by omega)]) (Ev.now _)), fun h => by cases h⟩
end
theorem heavy_ev (l : List (List SIns)) : ∃ b, Ev (fun q => cubbylaw08_heavy.f q l) b ∧ (b = false → l.length ≤ 50 ∧ total l ≤ 300 ∧ ∀ xs ∈ l, ∀ x ∈ xs, Thin x) := by
 by_cases h : (l.length : Int) > 50
 ·exact ⟨true, Ev.congr (f := fun _ => some true) (fun q => by unfold cubbylaw08_heavy.f; rw [zC h]) (Ev.now _), fun h => by cases h⟩
 ·obtain ⟨b, hb, hb2⟩ := heavy_outer (L := l) (by omega) l 0 0 rfl (Nat.zero_le _) (by omega)
  refine ⟨b, Ev.congr (fun q => by unfold cubbylaw08_heavy.f; rw [zD h]; rfl) hb, fun h2 => ⟨by omega, ?_⟩⟩
  have := hb2 h2
  exact ⟨by omega, this.2⟩
end Go.Proofs.YtniknpjeknmpjaaDoor.PlainText
namespace Go.Proofs.YtniknpjeknmpjaaDoor.RTextLines.Pure
open Go Go.RowKit Go.Proofs.YtniknpjeknmpjaaDoorW.PrintWords Go.Proofs.YtniknpjeknmpjaaDoorW.PrintMore Go.Proofs.YtniknpjeknmpjaaDoor.Q Go.Proofs.YtniknpjeknmpjaaDoor.Plain Go.Proofs.YtniknpjeknmpjaaDoor.PlainNum Go.Proofs.YtniknpjeknmpjaaDoor.PlainName Go.Proofs.YtniknpjeknmpjaaDoor.PlainText
set_option linter.unusedVariables false
set_option linter.unusedSimpArgs false
theorem no10_num (n : Nat) : (Lib.decDigits n).count 10 = 0 := List.count_eq_zero.2 fun h => by have := dec_mem n 10 h; simp at this
theorem no10_name {s : ByteArray} (h : nameOk s = true) : s.data.toList.count 10 = 0 := by
 unfold nameOk at h
 simp only [Bool.and_eq_true] at h
 exact List.count_eq_zero.2 fun hm => by have := List.all_eq_true.1 h.2 10 hm; simp [lowD] at this
theorem tail_count (name : ByteArray) (named : Bool) (b : Int) (h : named = true → nameOk name = true) : ∀ (l : List Int) (i : Int), (tailB name named b i l).count 10 = 0
 | [], i => by
  unfold tailB
  split
  ·next hc => rw [List.count_cons, no10_name (h hc.1)]; rfl
  ·rfl
 | n :: l, i => by
  unfold tailB
  rw [List.count_append, List.count_append, List.count_cons, no10_num, tail_count name named b h l]
  split
  ·next hc => rw [List.count_cons, no10_name (h hc.1)]; rfl
  ·rfl
theorem line_count {w name : ByteArray} {named : Bool} {b : Int} {l : List Int} (hw : w.data.toList.count 10 = 0) (h : (lineR w name named b l).2 = 0) : (lineR w name named b l).1.data.toList.count 10 = 1 := by
 unfold lineR at *
 by_cases hc : w.toList = [] ∨ (named = true ∧ nameOk name = false)
 ·rw [zC hc] at h; exact absurd h (by decide)
 rw [zD hc] at h ⊢
 by_cases hg : l.all good = true
 ·rw [zC hg]
  have ht := tail_count name named b (fun h1 => by
   cases hn : nameOk name with
   | true => rfl
   | false => exact absurd (.inr ⟨h1, hn⟩) hc) l 0
  show (w.data.toList ++ tailB name named b 0 l ++ [10]).count 10 = 1
  rw [List.count_append, List.count_append, hw, ht]; rfl
 ·rw [zD hg] at h; exact absurd h (by decide)
theorem word_count (op : Int) (code : Bool) : (wordR op code).data.toList.count 10 = 0 := by
 unfold wordR
 rcases op_cases op with e | e | e | e | e | e | e | e | e | e | e | e | e | e | e | e | e
 all_goals first
  | (rw [e]; cases code <;> decide)
  | (rw [text_of_none (by omega)]; decide)
theorem ins_count {x : SIns} (hx : Lite x) {code : Bool} {s : List UInt8 × Int} (h : (insText code s x).2 = 0) : (insText code s x).1.count 10 = s.1.count 10 + 1 := by
 have hs : s.2 = 0 := by
  by_cases h0 : s.2 = 0
  ·exact h0
  ·rw [keep_err h0] at h; exact absurd h h0
 have e : s = (s.1, 0) := Prod.ext rfl hs
 rw [e] at h ⊢
 obtain ⟨h1, h2⟩ := insText_R hx code s.1
 rw [h1] at h
 rw [h2 h, List.count_append]
 have : (insR x code).1.data.toList.count 10 = 1 := line_count (word_count _ _) h
 rw [this]
theorem blk_count {code : Bool} : ∀ (xs : List SIns) (s : List UInt8 × Int), (∀ x ∈ xs, Lite x) → (xs.foldl (insText code) s).2 = 0 → (xs.foldl (insText code) s).1.count 10 = s.1.count 10 + xs.length
 | [], s, _, _ => rfl
 | x :: xs, s, hx, h => by
  rw [List.foldl_cons] at h ⊢
  have h0 : (insText code s x).2 = 0 := by
   by_cases h0 : (insText code s x).2 = 0
   ·exact h0
   ·rw [fold_err (fun s x h => keep_err h) xs _ h0] at h; exact absurd h h0
  rw [blk_count xs _ (fun y hy => hx y (List.mem_cons_of_mem _ hy)) h, ins_count (hx x List.mem_cons_self) h0, List.length_cons]
  omega
theorem blks_count {code : Bool} : ∀ (l : List (List SIns)) (s : List UInt8 × Int), (∀ xs ∈ l, ∀ x ∈ xs, Lite x) → (blksText code s l).2 = 0 → (blksText code s l).1.count 10 = s.1.count 10 + l.length + total l
 | [], s, _, _ => by simp [blksText, total]
 | xs :: l, s, hx, h => by
  have e1 : blksText code s (xs :: l) = blksText code (blkText code s xs) l := rfl
  rw [e1] at h ⊢
  have h0 : (blkText code s xs).2 = 0 := by
   by_cases h0 : (blkText code s xs).2 = 0
   ·exact h0
   ·rw [blks_err h0] at h; exact absurd h h0
  have h1 := blk_count xs (s.1 ++ [98, 108, 111, 99, 107, 10], s.2) (hx xs List.mem_cons_self) h0
  have h2 : (blkText code s xs).1.count 10 = s.1.count 10 + 1 + xs.length := by
   refine h1.trans ?_
   rw [List.count_append]; rfl
  rw [blks_count l _ (fun y hy => hx y (List.mem_cons_of_mem _ hy)) h, h2, List.length_cons]
  have e2 : total (xs :: l) = xs.length + total l := by simp [total]
  omega
theorem fold_pre {α : Type} {f : List UInt8 × Int → α → List UInt8 × Int} (hf : ∀ s x, ∃ t, (f s x).1 = s.1 ++ t) : ∀ (l : List α) (s : List UInt8 × Int), ∃ t, (l.foldl f s).1 = s.1 ++ t
 | [], s => ⟨[], (List.append_nil _).symm⟩
 | x :: l, s => by
  obtain ⟨t, ht⟩ := hf s x
  obtain ⟨t2, ht2⟩ := fold_pre hf l (f s x)
  exact ⟨t ++ t2, by rw [List.foldl_cons, ht2, ht, List.append_assoc]⟩
theorem ins_pre (code : Bool) (s : List UInt8 × Int) (x : SIns) : ∃ t, (insText code s x).1 = s.1 ++ t := by
 unfold insText
 split
 ·exact ⟨_, rfl⟩
 ·exact ⟨[], (List.append_nil _).symm⟩
theorem blks_pre (code : Bool) (s : List UInt8 × Int) (l : List (List SIns)) : ∃ t, (blksText code s l).1 = s.1 ++ t :=
 fold_pre (fun s xs => by
  obtain ⟨t, ht⟩ := fold_pre (ins_pre code) xs (s.1 ++ [98, 108, 111, 99, 107, 10], s.2)
  exact ⟨[98, 108, 111, 99, 107, 10] ++ t, ht.trans (List.append_assoc _ _ _)⟩) l s
theorem bt_at {s : ByteArray} {j : Nat} (h : j < s.data.toList.length) : bt s (j : Int) = ((s.data.toList[j]).toNat : Int) := PlainName.bt_get h
section
variable {s a0 : ByteArray} {a1 a2 : Int} {L : List (List SIns)} {r : Bool}
theorem count_loop (hs : s.size ≤ 1000000000) (want : Nat) (hw : want = s.data.toList.count 10) (h : Ev (fun k => cubbylaw08_TextLines.l1 k s (want : Int) (wrap64 (1 + (L.length : Int))) 0 a0 a1 a2 L) r) :
 ∀ (d i n : Nat), s.size - i = d → i ≤ s.size → n ≤ i → n + (s.data.toList.drop i).count 10 = want → Ev (fun k => cubbylaw08_TextLines.l0 k s (n : Int) (i : Int) a0 a1 a2 L) r := by
 have hsz : s.data.toList.length = s.size := by simp
 intro d
 induction d with
 | zero =>
  intro i n hd hi hn hc
  rw [List.drop_eq_nil_of_le (by omega)] at hc
  have : n = want := by simpa using hc
  subst this
  refine Ev.step (fun k => ?_) h
  simp only [cubbylaw08_TextLines.l0]
  rw [zD (by omega)]
 | succ d ih =>
  intro i n hd hi hn hc
  have hlt : i < s.data.toList.length := by omega
  have hb := bt_at hlt
  rw [drop_cons hlt, List.count_cons] at hc
  by_cases h10 : s.data.toList[i] = 10
  ·rw [h10] at hb hc
   have ih := ih (i + 1) (n + 1) (by omega) (by omega) (by omega) (by simp at hc; omega)
   refine Ev.step (fun k => ?_) ih
   simp only [cubbylaw08_TextLines.l0]
   rw [zC (by omega), zC (by omega), hb, zC (by decide), wrap_nat (by omega), wrap_nat (by omega)]
  ·have hne : ¬ ((s.data.toList[i]).toNat : Int) = 10 := fun e => h10 (UInt8.toNat_inj.1 (by show _ = 10; omega))
   have ih := ih (i + 1) n (by omega) (by omega) (by omega) (by rw [zD (by simpa using h10)] at hc; omega)
   refine Ev.step (fun k => ?_) ih
   simp only [cubbylaw08_TextLines.l0]
   rw [zC (by omega), zC (by omega), hb, zD hne, wrap_nat (by omega)]
theorem want_loop (hL : L.length ≤ 50) (hT : total L ≤ 300) (n : Nat) (hn : n ≤ 1000000000) (hr : ∀ k, cubbylaw08_TextLines.l1 (k + 1) s (n : Int) ((1 + L.length + total L : Nat) : Int) (L.length : Int) a0 a1 a2 L = some r) :
 ∀ (l : List (List SIns)) (i m : Nat), L.drop i = l → i ≤ L.length → m + total l = 1 + L.length + total L → Ev (fun k => cubbylaw08_TextLines.l1 k s (n : Int) (m : Int) (i : Int) a0 a1 a2 L) r
 | [], i, m, hl, hi, hm => by
  have hil : L.length = i := by have := congrArg List.length hl; simp at this; omega
  have : m = 1 + L.length + total L := by simpa [total] using hm
  subst this
  rw [← hil]
  exact Ev.step hr (Ev.now _)
 | xs :: l, i, m, hl, hi, hm => by
  have hlt : i < L.length := by
   rcases Nat.lt_or_ge i L.length with h | h
   ·exact h
   ·rw [List.drop_eq_nil_of_le h] at hl; cases hl
  rw [drop_cons hlt] at hl
  simp only [List.cons.injEq] at hl
  obtain ⟨hxv, hl2⟩ := hl
  have hx : L[i]? = some xs := by rw [List.getElem?_eq_getElem hlt, hxv]
  have et : total (xs :: l) = xs.length + total l := by simp [total]
  have ih := want_loop hL hT n hn hr l (i + 1) (m + xs.length) hl2 (by omega) (by omega)
  refine Ev.step (fun k => ?_) ih
  simp only [cubbylaw08_TextLines.l1]
  rw [zC (by omega), zC (by omega), rd_LIns_at hx, wrap_nat (by omega), wrap_id (by omega) (by omega)]
  rfl
end
theorem i64w {n : Int} (h : (Lit.int .i64 n).wf = true) : -9223372036854775808 ≤ n ∧ n ≤ 9223372036854775807 := i64_range h
theorem TextLines : TextLines.Pure := by
 intro a0 a1 a2 l h0 h1 h2 ⟨_, _, hl⟩
 refine Ev.rounds ?_
 obtain ⟨b, hb, hlight⟩ := heavy_ev l
 unfold cubbylaw08_TextLines.f
 refine Ev.bind hb ?_
 have yes : Ev (fun k => cubbylaw08_TextLines.j0 k true a0 a1 a2 l) true := Ev.step (f := fun _ => some true) (fun k => by simp only [cubbylaw08_TextLines.j0]; rw [zC (by simp)]) (Ev.now _)
 cases b with
 | true => exact yes
 | false =>
  obtain ⟨h3, h4, h5⟩ := hlight rfl
  show Ev (fun k => cubbylaw08_TextLines.j0 k (decide ((a0.size : Int) > 256)) a0 a1 a2 l) true
  by_cases h6 : (a0.size : Int) > 256
  ·rw [zF h6]; exact yes
  rw [zG h6]
  have hL : Light l := ⟨h3, h4, fun xs hx x hy => by
   obtain ⟨_, _, hz⟩ := hl xs hx
   obtain ⟨g0, g1, g2, g3, _, _, _, g5⟩ := hz x hy
   obtain ⟨t1, t2⟩ := h5 xs hx x hy
   exact ⟨i64w g1, i64w g2, i64w g3, t2, t1, fun n hn => i64w (g5 n hn)⟩⟩
  have h7 : a0.size ≤ 256 := by omega
  have hp := print_eq h7 (i64w h1) (i64w h2) hL
  have hlen := print_len h7 (i64w h1) (i64w h2) hL
  refine Ev.step (fun k => by simp only [cubbylaw08_TextLines.j0]; rw [zD (by simp), hp]; rfl) (Ev.bind (refprint_ev h7 (i64w h1) (i64w h2) hL) (f := fun k (bt182 : ByteArray × Int) => (if (told a0 a1 a2 l).2 = bt182.2 then (if (told a0 a1 a2 l).2 = 0 then (cubbylaw08_TextLines.l0 k (told a0 a1 a2 l).1 0 0 a0 a1 a2 l) else (some ((told a0 a1 a2 l).1.toList == ([] : List UInt8)))) else (some false))) ?_)
  simp only [if_true]
  by_cases he : (printS a0 a1 a2 l).2 = 0
  ·have et : told a0 a1 a2 l = (⟨(printS a0 a1 a2 l).1.toArray⟩, 0) := zC he
   rw [et]
   simp only [if_true]
   have hd : (⟨(printS a0 a1 a2 l).1.toArray⟩ : ByteArray).data.toList = (printS a0 a1 a2 l).1 := rfl
   have hz : (⟨(printS a0 a1 a2 l).1.toArray⟩ : ByteArray).size = (printS a0 a1 a2 l).1.length := by show (printS a0 a1 a2 l).1.toArray.size = _; simp
   have hh : (printHead a0 a1 a2).2 = 0 := by
    by_cases hh : (printHead a0 a1 a2).2 = 0
    ·exact hh
    ·have := blks_err (code := false) (l := l) hh
     unfold printS at he
     rw [this] at he
     exact absurd he hh
   obtain ⟨e1, e2⟩ := head_R a0 a1 a2 h7
   have hc0 : (printHead a0 a1 a2).1.count 10 = 1 := by
    rw [e2 (e1 ▸ hh)]
    exact line_count (by decide) (e1 ▸ hh)
   have hcount : (printS a0 a1 a2 l).1.count 10 = 1 + l.length + total l := by
    have := blks_count (code := false) l (printHead a0 a1 a2) hL.lite he
    unfold printS
    rw [this, hc0]
   have hpre : (printS a0 a1 a2 l).1.take 5 = [102, 117, 110, 99, 32] := by
    obtain ⟨t, ht⟩ := blks_pre false (printHead a0 a1 a2) l
    unfold printS
    rw [ht]
    have : ∃ t, (printHead a0 a1 a2).1 = [102, 117, 110, 99, 32] ++ t := by
     unfold printHead
     rw [lineBytes_flat]
     exact ⟨_, rfl⟩
    obtain ⟨t2, ht2⟩ := this
    rw [ht2]
    rfl
   have h5l : 5 ≤ (printS a0 a1 a2 l).1.length := by
    have := congrArg List.length hpre
    simp at this
    omega
   refine count_loop (want := 1 + l.length + total l) (by rw [hz]; omega) (by rw [hd, hcount]) ?_ _ 0 0 rfl (Nat.zero_le _) (Nat.le_refl _) (by rw [hd, List.drop_zero, hcount]; omega)
   rw [show wrap64 (1 + (l.length : Int)) = ((1 + l.length : Nat) : Int) from by rw [wrap_id (by omega) (by omega)]; rfl]
   refine want_loop hL.len hL.tot _ (by omega) (fun k => ?_) l 0 (1 + l.length) rfl (Nat.zero_le _) rfl
   simp only [cubbylaw08_TextLines.l1]
   rw [zD (by omega), zC trivial, zC (by decide), zC (by rw [hz]; omega)]
   congr 1
   rw [toList_data, beq_iff_eq, ByteArray.data_extract, Array.toList_extract]
   show (((printS a0 a1 a2 l).1.drop 0).take 5) = _
   rw [List.drop_zero, hpre]
  ·have et : told a0 a1 a2 l = (emp, (printS a0 a1 a2 l).2) := zD he
   rw [et]
   simp only [zD he]
   refine Ev.congr (f := fun _ => some true) (fun k => ?_) (Ev.now _)
   rw [toList_data]
   rfl
end Go.Proofs.YtniknpjeknmpjaaDoor.RTextLines.Pure
namespace Go.Proofs.YtniknpjeknmpjaaDoor.RTextLines
open Go.ChangeShapes Go.WideShapes Go.ChangeAt
open Go.ChangeMaps (open_string shut_string)
open Go Go.RowKit Go.Proofs.YtniknpjeknmpjaaDoorW.PrintWords Go.Proofs.YtniknpjeknmpjaaDoorW.PrintLast Go.Proofs.YtniknpjeknmpjaaDoorW.PrintMore Go.Proofs.YtniknpjeknmpjaaDoor.Q Go.Proofs.YtniknpjeknmpjaaDoor.Open
set_option linter.unusedVariables false
theorem own : ownKnob Tryd.prog.godebug = none := by kernel_rfl
theorem laidOut : laidOutB Tryd.prog = true := by kernel_rfl
theorem opensIns : Opens Tryd.prog 43 kIns GIns :=
 (Opens.iso (fun x : SIns => (x.f0, x.f1, x.f2, x.f3, x.f4, x.f5)) (fun y => ⟨y.1, y.2.1, y.2.2.1, y.2.2.2.1, y.2.2.2.2.1, y.2.2.2.2.2⟩) (fun _ => rfl) (Opens.struct Tryd.underlying43 (by kernel_rfl) (OpensFs.cons rfl (Opens.int (Tryd.underlying3) (by kernel_rfl)) (OpensFs.cons rfl (Opens.int (Tryd.underlying3) (by kernel_rfl)) (OpensFs.cons rfl (Opens.int (Tryd.underlying3) (by kernel_rfl)) (OpensFs.cons rfl (Opens.int (Tryd.underlying3) (by kernel_rfl)) (OpensFs.cons rfl (Opens.string (Tryd.underlying9) (by kernel_rfl)) (OpensFs.one rfl (Opens.slice (B := 8) (Tryd.underlying41) (by kernel_rfl) (by kernel_rfl) (Opens.int (Tryd.underlying3) (by kernel_rfl))))))))))).imp (fun _ h => h)
set_option maxRecDepth 100000 in
theorem lifted (os : Os) (started : os.Started) (H : Type) (enc : TypeId × Value → H) :
 ReturnsInHanded {} Tryd.checked os 3 .any (fun w args => (Rows.textLinesSpec.pre enc Tryd.prog Tryd.f3 [] false w args ∧ laidMetH Tryd.prog Rows.textLinesRow.laid w) ∧ sizedMet enc Tryd.prog Tryd.f3 (OpenSpec.ofChange Rows.textLinesSpec) false w args) (Rows.textLinesSpec.post enc Tryd.prog Tryd.f3 false true false false) := by
 refine returnsInHanded_of_change_and (C := Tryd.checked) (X := fun w _ => laidMetH Tryd.prog Rows.textLinesRow.laid w) (fun _ _ _ hh h => h.of_heap hh) own started (by kernel_rfl) Tryd.func3
  (ChangeSpec.witness_shaped (enc := enc) (C := Tryd.checked) (os := os) (X := fun w _ => laidMetH Tryd.prog Rows.textLinesRow.laid w) false (World.laidAll Tryd.prog os Rows.textLinesRow.laid) #[.agg #[.string ByteArray.empty, .int .i64 0, .int .i64 0, .slice none 0 0]] 8 (World.laidAll_os _ _ _)
    (World.shaped_of_ZipB (by kernel_rfl) (by kernel_rfl)) (by kernel_rfl) (by kernel_rfl) (by kernel_rfl)
    (by rw [MakeChecks.laidMetH_plain _ _ _ (by kernel_rfl)]; exact laidMet_laidAll _ (by kernel_rfl) (by kernel_rfl))) ?_
 intro W base args ds gs before hval0 hW hcnd hsz0 hL0 _
 rw [MakeChecks.laidMetH_plain _ _ _ (by kernel_rfl)] at hL0
 have LAIDF : LaidW W := LaidW.of_met (show laidMet Tryd.prog laidList W from hL0)
 have hsz : (DataW.weightsEach Tryd.prog (Tryd.f3.params.toList ++ Rows.textLinesSpec.plain.varTypes Tryd.prog) (ds ++ gs)).all (· ≤ reachBytes) = true := hsz0
 have hval : ∀ (j : Nat) t v, Tryd.f3.params[j]? = some t → args[j]? = some v → Value.okWide Tryd.prog W .any base t v := hval0
 have hW' := hW
 obtain ⟨p, q, hA0, hV, rfl, hfz, hnd⟩ := hW
 have hA : DataW.TrodAll enc Tryd.prog W 0 (fun _ => true) true Tryd.f3.params.toList args.toList ds p := hA0
 rw [Tryd.params3] at hA hval hsz
 obtain ⟨v0, vs0, d0, ds0, p0, q0, hargs, rfl, rfl, h0, r0⟩ := trodAll_cons hA
 obtain ⟨rfl, rfl, rfl⟩ := trodAll_nil r0
 obtain rfl : args = #[v0] := by cases args; simp_all
 obtain ⟨rfl, rfl⟩ := trodVars_none hV
 have lt0 : ∀ x ∈ p0, x.block < W.heap.size := by obtain ⟨m, hm⟩ := h0; exact DataW.trod_lt m _ _ _ hm
 obtain ⟨cs0, rfl, -⟩ := okWide_struct Tryd.underlying24 (hval 0 24 v0 rfl rfl)
 obtain ⟨⟨a0_0, a0_1, a0_2, l0_3⟩, hk0, gg0⟩ := (Opens.struct Tryd.underlying24 (by kernel_rfl) (OpensFs.cons rfl (Opens.string (Tryd.underlying9) (by kernel_rfl)) (OpensFs.cons rfl (Opens.int (Tryd.underlying3) (by kernel_rfl)) (OpensFs.cons rfl (Opens.int (Tryd.underlying3) (by kernel_rfl)) (OpensFs.one rfl (Opens.slice (B := 24) (Tryd.underlying22) (by kernel_rfl) (by kernel_rfl) (Opens.slice (B := 72) (Tryd.underlying29) (by kernel_rfl) (by kernel_rfl) opensIns)))))) : Opens Tryd.prog 24 (Kd.pair Kd.string (Kd.pair (Kd.int .i64) (Kd.pair (Kd.int .i64) (Kd.slice 29 (Kd.slice 43 kIns))))) (fun y => ((y.1).size ≤ 140737488351232 ∧ ((Lit.int .i64 (y.2.1)).wf = true ∧ ((Lit.int .i64 (y.2.2.1)).wf = true ∧ ((y.2.2.2).length * 24 ≤ 140737488351232 ∧ (y.2.2.2).length ≤ maxLen ∧ ∀ y1 ∈ (y.2.2.2), ((y1).length * 72 ≤ 140737488351232 ∧ (y1).length ≤ maxLen ∧ ∀ y2 ∈ (y1), GIns (y2)))))))).arg h0 hsz (j := 0) rfl rfl
 obtain ⟨g0_0, g0_1, g0_2, g0_3⟩ := gg0
 obtain ⟨_, _, h0_, rfl, ⟨_, _, rfl, rfl, ⟨_, _, rfl, rfl, ⟨A0_3, c0_3, rfl, hc0_3, hr0_3⟩⟩⟩⟩ := hk0
 obtain rfl : cs0 = #[.string a0_0, .int .i64 a0_1, .int .i64 a0_2, .slice A0_3 l0_3.length c0_3] := by
  cases cs0
  simp [Value.cells] at h0_
  simp [h0_]
 clear hA0 hval0 hsz0 hsz
 obtain ⟨k, hf⟩ := Pure.TextLines a0_0 a0_1 a0_2 l0_3 g0_0 g0_1 g0_2 g0_3
 refine (Q.cubbylaw08_TextLines.calls k a0_0 a0_1 a0_2 A0_3 c0_3 l0_3 true W LAIDF rfl hr0_3 hc0_3 hf).mono ?_
 rintro e W' ⟨rfl, hd⟩
 have bel : Below W.heap.size W W' := hd
 exact ⟨_, rfl, _, _, _, [], _, [], hW', trodAll_mk1 (shut_bool Tryd.underlying4 _), (trodAll_cons_mk (Below.trod laidOut (by kernel_rfl) (zB (by kernel_rfl)) h0 bel lt0) trodAll_mk0), rfl, bel.frame _, fun h => by cases h⟩
theorem over : Rows.textLinesRow.holds Tryd.pinned (OpenSpec.ofChange Rows.textLinesSpec) :=
 OpenClaim.holds_of_wide 3 Tryd.f3 rfl rfl rfl rfl rfl rfl rfl ⟨rfl, rfl, rfl, rfl, rfl⟩ rfl rfl rfl rfl rfl (by kernel_rfl) Tryd.func3 (by kernel_rfl)
  (zB (by kernel_rfl)) (by unfold Func.isWrapper; first | (rw [zC (by decide +kernel)]; kernel_rfl) | (rw [zD (by decide +kernel)]; exact ⟨rfl, rfl⟩))
  (fun os started H enc _ => lifted os started H enc)
end Go.Proofs.YtniknpjeknmpjaaDoor.RTextLines
namespace Go.Proofs.YtniknpjeknmpjaaDoor
theorem textLines_holds : Rows.TextLinesSaid := RTextLines.over
theorem textLines_card : Rows.TextLinesCardSaid :=
 Claim7.holds_tied_plain_at .later [] [.data, .data, .data, .data, .pinned] true (true, "64ed12e29481133d0d5e38a7650bb05b5cd406cb972e4cbf7ac4169d9b68e1d6") true textLines_holds (fun _ h => by cases h) (by kernel_rfl) (fun _ h => by cases h) textLines_row_tie rfl ⟨rfl, rfl⟩ (by kernel_rfl) rfl
  (fun f fn hf hfn => by
    obtain rfl : f = 3 := zI ((show Tryd.prog.funcNamed "cubby/cubbylaw08.TextLines" = some 3 by kernel_rfl).symm.trans hf) |>.symm
    obtain rfl : fn = Tryd.f3 := (zI (Tryd.func3.symm.trans hfn)).symm
    exact ⟨by kernel_rfl, fun j t ht => by
     rw [Tryd.params3] at ht
     have hm : t ∈ [24] := by simpa using Array.mem_of_getElem? ht
     have hall : ([24].all fun u => !Tryd.prog.wantsStandIn u) = true := by kernel_rfl
     exact (show Tryd.prog.wantsStandIn t = false by simpa using List.all_eq_true.1 hall t hm)⟩)
  (by kernel_rfl)
#print axioms textLines_card
end Go.Proofs.YtniknpjeknmpjaaDoor
