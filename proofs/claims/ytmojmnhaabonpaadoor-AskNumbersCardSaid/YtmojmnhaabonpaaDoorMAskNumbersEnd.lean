/- For every input the law AskNumbers returns true, and its arguments read behind the call as they did: no condition. -/
import Derived.SizedLaws
import Derived.Deep.Slices
import Derived.ProofKit
import Derived.Test.YtmojmnhaabonpaaDoorProg
import Derived.Below
import Derived.Deep.Draws
import Derived.Deep.AppendLies
import Derived.Maps.AppendAt
import Derived.OwnWalk
import Derived.Laws.BytesArg
import Derived.Laws.MakeOwn
import Derived.Laws.OwnMore
import Derived.Deep.OwnRows
import Derived.Tactics
import Derived.Lib.ConvBytes
import Derived.Laws.Slices
import Derived.WalkKit
import Derived.KernelRfl
import Derived.RowKit3
import Derived.Deep.LoopGhost
import Derived.Deep.QuietTactic
import Derived.BigQuiet
import Derived.WideLaws
import Derived.Deep.DeepCutAuto
import Derived.Deep.CutBlock
import Derived.Deep.RegionHeld3
import Derived.Laws.Rows
import Derived.Lib.AppendStr
import Derived.ArgAppend
import Derived.Laws.IdiomCopy
import Derived.OrdersHeld
import Derived.Laws.BitsLemmas
import Derived.RowKit
import Derived.Ground.NamesProg
import Derived.Shelf.SlGeneric
import Derived.Shelf.LaysM
import Derived.Shelf.Strings.SlTrimAscii
import Derived.Shelf.Strings.Search2
import Derived.Shelf.Strings.Search3
import Derived.Shelf.Strings.Count
import Derived.Shelf.Strings.Split
import Derived.Shelf.Strconv.ErrVarAll
import Derived.Shelf.Strconv.Itoa3
import Derived.Test.YtmojmnhaabonpaaDoorRows
import Derived.Lib.LaidU8
import Derived.Lib.LaidTab
import Derived.Stop.LaidErr
import Derived.Lib.QuietBelow
import Derived.OpenShut
import Derived.Lib.AtoiAllCases
import Derived.Lib.AtoiTie
import Derived.Lib.ItoaNum
import Derived.Lib.ItoaMem
import Derived.ShutString
import Derived.ChangeOld
import Derived.Test.YtmojmnhaabonpaaDoorCards
import Derived.Test.YtmojmnhaabonpaaDoorTie
import Derived.LaidMore
import Derived.Lay
import Derived.SevenTiedAt
import Derived.Stop.Joined
import Derived.Test.YtmojmnhaabonpaaDoorMAskNumbers1
namespace Go.Proofs.YtmojmnhaabonpaaDoor.Open
open Go Go.Proofs.YtmojmnhaabonpaaDoorW.PrintWords
def Opens (P : Program) (t : TypeId) {α : Type} (d : Kd α) (G : α → Prop) : Prop :=
 P.cellsOf t = d.sz ∧ ∀ {H : Type} (enc : TypeId × Value → H) (w : World) (fuel : Nat) (cs : List Value) (x : DataW H × List MemPlace),
  DataW.trod enc P w 0 (fun _ => true) true fuel t cs = some x → (∀ n ∈ x.1.weights P t, n ≤ 140737488351232) → ∃ y, d.K w y cs ∧ G y
theorem Opens.int {P : Program} {t : TypeId} {k : IntKind} (ht : P.underlying t = some (.int k)) (hc : P.cellsOf t = 1) : Opens P t (Kd.int k) (fun n => (Lit.int k n).wf = true) := by
 refine ⟨hc, fun enc w fuel cs x h _ => ?_⟩
 obtain ⟨n, rfl, _, hw⟩ := DataW.trod_int ht h
 exact ⟨n, rfl, hw⟩
theorem Opens.bool {P : Program} {t : TypeId} (ht : P.underlying t = some .bool) (hc : P.cellsOf t = 1) : Opens P t Kd.bool (fun _ => True) := by
 refine ⟨hc, fun enc w fuel cs x h _ => ?_⟩
 obtain ⟨b, rfl, _⟩ := DataW.trod_bool ht h
 exact ⟨b, rfl, trivial⟩
theorem Opens.string {P : Program} {t : TypeId} (ht : P.underlying t = some .string) (hc : P.cellsOf t = 1) : Opens P t Kd.string (fun s => s.size ≤ 140737488351232) := by
 refine ⟨hc, fun enc w fuel cs x h hz => ?_⟩
 obtain ⟨s, rfl, rfl, _⟩ := DataW.trod_string ht h
 refine ⟨s, rfl, ?_⟩
 have := hz s.data.toList.length (by simp [DataW.weights])
 simpa using this
theorem weightsAll_mem {H : Type} {P : Program} {e : TypeId} : ∀ {l : List (DataW H)} {d : DataW H}, d ∈ l → ∀ n ∈ d.weights P e, n ∈ DataW.weightsAll P e l
 | a :: l, d, hd, n, hn => by
  simp only [DataW.weightsAll, List.mem_append]
  rcases List.mem_cons.1 hd with rfl | hd
  ·exact Or.inl hn
  ·exact Or.inr (weightsAll_mem hd n hn)
theorem choose_list {α : Type} {Q : Nat → α → Prop} : ∀ (n : Nat), (∀ i, i < n → ∃ y, Q i y) → ∃ ys : List α, ys.length = n ∧ ∀ i y, ys[i]? = some y → Q i y
 | 0, _ => ⟨[], rfl, fun i y h => by simp at h⟩
 | n + 1, h => by
  obtain ⟨ys, hl, hq⟩ := choose_list n (fun i hi => h i (by omega))
  obtain ⟨y, hy⟩ := h n (by omega)
  refine ⟨ys ++ [y], by simp [hl], fun i z hz => ?_⟩
  rcases Nat.lt_or_ge i n with hi | hi
  ·rw [List.getElem?_append_left (by omega)] at hz
   exact hq i z hz
  ·rw [List.getElem?_append_right (by omega)] at hz
   have : i = n := by
    have := (List.getElem?_eq_some_iff.1 hz).1
    simp at this
    omega
   subst this
   rw [hl, Nat.sub_self] at hz
   simp at hz
   subst hz
   exact hy
theorem Opens.slice {P : Program} {t e : TypeId} {α : Type} {d : Kd α} {G : α → Prop} {B : Nat} (ht : P.underlying t = some (.slice e)) (hc : P.cellsOf t = 1) (hB : P.bytesOf e = B) (hd : Opens P e d G) :
 Opens P t (Kd.slice e d) (fun xs => xs.length * B ≤ 140737488351232 ∧ xs.length ≤ maxLen ∧ ∀ x ∈ xs, G x) := by
 refine ⟨hc, fun enc w fuel cs x h hz => ?_⟩
 rcases Go.Deep.open_slice ht h with ⟨rfl, rfl⟩ | ⟨a, len, cap, m, n, D, Pl, rfl, _, hl, hm, hmc, rfl, hel⟩
 ·refine ⟨[], ⟨none, 0, rfl, Nat.le_refl _, ?_⟩, by simp [maxLen]⟩
  exact ⟨rfl, by simp, fun h => absurd h (by simp)⟩
 ·replace hmc : m = cap := by rw [hmc]; rfl
  subst hmc
  have hw : ∀ i, i < len → ∀ q ∈ (D i).weights P e, q ≤ 140737488351232 := by
   intro i hi q hq
   apply hz
   simp only [DataW.weights, ht, List.mem_cons, List.mem_append]
   right; left
   exact weightsAll_mem (d := D i) (List.mem_map.2 ⟨i, by simpa using hi, rfl⟩) q hq
  have hbig : (len + (m - len)) * B ≤ 140737488351232 := by
   apply hz
   simp only [DataW.weights, ht, List.mem_cons, List.length_map, List.length_range, hB]
   left; trivial
  obtain ⟨ys, hyl, hys⟩ := choose_list (Q := fun i y => ∃ c, w.cells? 0 (a.add (i * P.cellsOf e)) (P.cellsOf e) = some c ∧ d.K w y c ∧ G y) len (fun i hi => by
   obtain ⟨c, h1, h2⟩ := hel i (by omega)
   obtain ⟨y, hk, hg⟩ := hd.2 enc w _ _ _ h2 (hw i hi)
   exact ⟨y, c, h1, hk, hg⟩)
  refine ⟨ys, ⟨some a, m, by rw [hyl], by omega, ?_⟩, ?_, by omega, ?_⟩
  ·refine ⟨rfl, by unfold maxLen at hm; omega, fun _ => ⟨a, rfl, fun j p hj => ?_⟩⟩
   obtain ⟨c, h1, hk, hg⟩ := hys j p hj
   obtain ⟨_, h3, h4⟩ := World.cells?_some h1
   refine ⟨c, by rw [h3, hd.1], hk, fun i u hu => ?_⟩
   have hi : i < P.cellsOf e := by
    have := (List.getElem?_eq_some_iff.1 hu).1
    omega
   have h5 := h4 i hi
   rw [hu] at h5
   rw [← h5, ← hd.1]
   congr 1
   rw [Addr.add_add]
  ·rw [hyl]
   exact Nat.le_trans (Nat.mul_le_mul_right _ (by omega)) hbig
  ·intro y hy
   obtain ⟨i, hi⟩ := List.getElem?_of_mem hy
   obtain ⟨_, _, _, hg⟩ := hys i y hi
   exact hg
structure OpensFs (P : Program) (fs : List Field) (off : Nat) {α : Type} (d : Kd α) (G : α → Prop) : Prop where
 out : ∀ (H : Type) (enc : TypeId × Value → H) (w : World) (fuel : Nat) (cs : List Value) (xs : List (DataW H × List MemPlace)), cs.length = off + d.sz → xs.length = fs.length →
  (∀ (i : Nat) (f : Field), fs[i]? = some f → DataW.trod enc P w 0 (fun _ => true) true fuel f.type ((cs.drop f.offset).take (P.cellsOf f.type)) = xs[i]?) →
  (∀ n ∈ DataW.weightsEach P (fs.map (·.type)) (xs.map (·.1)), n ≤ 140737488351232) → ∃ y, d.K w y (cs.drop off) ∧ G y
theorem OpensFs.one {P : Program} {f : Field} {off : Nat} {α : Type} {d : Kd α} {G : α → Prop} (ho : f.offset = off) (hd : Opens P f.type d G) : OpensFs P [f] off d G := by
 refine ⟨fun H enc w fuel cs xs hl hx hf hz => ?_⟩
 have h0 := hf 0 f rfl
 obtain ⟨x, rfl⟩ : ∃ x, xs = [x] := by
  match xs, hx with
  | [x], _ => exact ⟨x, rfl⟩
 have h1 : (cs.drop f.offset).take (P.cellsOf f.type) = cs.drop off := by
  rw [ho, hd.1, List.take_of_length_le (by simp; omega)]
 rw [h1] at h0
 exact hd.2 enc w fuel _ x h0 (fun n hn => hz n (by simpa [DataW.weightsEach] using hn))
theorem OpensFs.cons {P : Program} {f : Field} {fs : List Field} {off : Nat} {α β : Type} {d : Kd α} {d2 : Kd β} {G : α → Prop} {G2 : β → Prop} (ho : f.offset = off) (hd : Opens P f.type d G) (h2 : OpensFs P fs (off + d.sz) d2 G2) :
 OpensFs P (f :: fs) off (Kd.pair d d2) (fun y => G y.1 ∧ G2 y.2) := by
 refine ⟨fun H enc w fuel cs xs hl hx hf hz => ?_⟩
 have hp : (Kd.pair d d2).sz = d.sz + d2.sz := rfl
 match xs, hx with
 | x :: xs, hx =>
  have h0 := hf 0 f rfl
  simp only [List.getElem?_cons_zero] at h0
  obtain ⟨y, hk, hg⟩ := hd.2 enc w fuel _ x h0 (fun n hn => hz n (by simp only [List.map_cons, DataW.weightsEach, List.mem_append]; exact Or.inl hn))
  obtain ⟨y2, hk2, hg2⟩ := h2.out H enc w fuel cs xs (by omega) (by simpa using hx) (fun i g hi => by simpa using hf (i + 1) g (by simpa using hi)) (fun n hn => hz n (by simp only [List.map_cons, DataW.weightsEach, List.mem_append]; exact Or.inr hn))
  refine ⟨(y, y2), ⟨_, _, ?_, hk, hk2⟩, hg, hg2⟩
  rw [ho, hd.1, ← List.drop_drop, List.take_append_drop]
theorem Opens.struct {P : Program} {t : TypeId} {fs : Array Field} {α : Type} {d : Kd α} {G : α → Prop} (ht : P.underlying t = some (.struct fs)) (hc : P.cellsOf t = d.sz) (hf : OpensFs P fs.toList 0 d G) : Opens P t d G := by
 refine ⟨hc, fun enc w fuel cs x h hz => ?_⟩
 obtain ⟨xs, n, rfl, rfl, hl, hx, hi⟩ := DataW.trod_struct ht h
 have := hf.out _ enc w n cs xs (by omega) (by simpa using hx) (fun i f h => hi i f (by simpa using h)) (fun q hq => hz q (by simpa [DataW.weights, ht] using hq))
 simpa using this
theorem Opens.iso {P : Program} {t : TypeId} {α β : Type} {d : Kd α} {G : α → Prop} (f : β → α) (g : α → β) (hg : ∀ y, f (g y) = y) (h : Opens P t d G) : Opens P t (Kd.iso d f) (fun x => G (f x)) := by
 refine ⟨h.1, fun enc w fuel cs x hx hz => ?_⟩
 obtain ⟨y, hk, hy⟩ := h.2 enc w fuel cs x hx hz
 exact ⟨g y, by show d.K w (f (g y)) cs; rw [hg]; exact hk, by show G (f (g y)); rw [hg]; exact hy⟩
theorem Opens.imp {P : Program} {t : TypeId} {α : Type} {d : Kd α} {G G' : α → Prop} (h : Opens P t d G) (hG : ∀ y, G y → G' y) : Opens P t d G' :=
 ⟨h.1, fun enc w fuel cs x hx hz => by
  obtain ⟨y, hk, hy⟩ := h.2 enc w fuel cs x hx hz
  exact ⟨y, hk, hG y hy⟩⟩
end Go.Proofs.YtmojmnhaabonpaaDoor.Open
namespace Go.Proofs.YtmojmnhaabonpaaDoor.Q
open Go.RowKit Go.Proofs.YtmojmnhaabonpaaDoorW.PrintWords Go.Proofs.YtmojmnhaabonpaaDoorW.PrintLast Go.Proofs.YtmojmnhaabonpaaDoorW.PrintMore
attribute [local go_sem] max2_int min2_int max_two min_two max_three min_three max_four min_four
set_option linter.unusedVariables false
set_option linter.unusedSimpArgs false
def errW : Option Int → Value
 | none => .nilIface
 | some c => .iface 78 (.int .i64 c)
theorem errW_none : errW none = .nilIface := rfl
theorem errW_some (c : Int) : errW (some c) = .iface 78 (.int .i64 c) := rfl
-- the values' own types

end Go.Proofs.YtmojmnhaabonpaaDoor.Q
namespace Go.Proofs.YtmojmnhaabonpaaDoor.Q
open Go.RowKit Go.Proofs.YtmojmnhaabonpaaDoorW.PrintWords Go.Proofs.YtmojmnhaabonpaaDoorW.PrintLast Go.Proofs.YtmojmnhaabonpaaDoorW.PrintMore
set_option linter.unusedVariables false
section
variable {P Q : Prop}
theorem qB (h : P := by repeat (first | (with_reducible first | exact HB.out | apply below_alloc | apply pw_below_drewN | apply below_drew1 | refine below_set ?_ (Aside0.out (by assumption))) | exact HB.out)) : P := h
theorem qA (h : P := by first | (with_reducible assumption) | assumption) : P := h
theorem qE (h : P := by first | rfl | (simp [errW_none, errW_some] <;> rfl) | (simp [*, errW_none, errW_some] <;> rfl)) : P := h
theorem qT (h : P := by first | rfl | (simp; done) | (simp [*]; done)) : P := h
theorem qO (h : P := by first | omega | exact Nat.le_refl _) : P := h
theorem qD (h : P := by repeat (first | exact Drawn0.refl _ | apply Drawn0.step)) : P := h
theorem qL (h : P := by (try simp only [List.map_toArray, List.map_cons, List.map_nil]); first | done | rfl | (simp only [List.length_drop, List.length_take]; rfl)) : P := h
theorem qK (q : Q) (h : Q → P := by intro h_; (with_reducible repeat (first | refine blk_drewN ?_ _ | refine blk_drew ?_ | refine blk_alloc ?_ _)); exact h_) : P := h q
theorem qR (q : Q) (h : Q → P := by intro h_; (with_reducible repeat (first | apply Kd.R_alloc | apply Kd.R_drewN | apply Kd.R_drew)); exact h_) : P := h q
end
theorem qW {w0 w w1 : World} {g : Nat} {o : Obj} (bk : Aside0 (w0.heap[g]? = some o)) (hb : Below w.heap.size w w1) (h : w0.heap[g]? = some o → w.heap[g]? = some o := by intro h_; (with_reducible repeat (first | refine blk_drewN ?_ _ | refine blk_drew ?_ | refine blk_alloc ?_ _)); exact h_) : Aside0 (w1.heap[g]? = some o) := ⟨blk_below (h bk.out) hb⟩
theorem qH {w W w2 : World} (hb : Below W.heap.size W w2) (h : Below w.heap.size w W := by repeat (first | (with_reducible first | exact HB.out | apply below_alloc | apply pw_below_drewN | apply below_drew1 | refine below_set ?_ (Aside0.out (by assumption))) | exact HB.out)) : Aside0 (Below w.heap.size w w2) := ⟨below_step h hb⟩
theorem qG {w W : World} {g : Nat} (hg : g = W.heap.size) (h : Below w.heap.size w W := by repeat (first | (with_reducible first | exact HB.out | apply below_alloc | apply pw_below_drewN | apply below_drew1 | refine below_set ?_ (Aside0.out (by assumption))) | exact HB.out)) : Aside0 (w.heap.size ≤ g) := ⟨by rw [hg]; exact below_size h⟩
theorem qb {α β : Type} {x : Option α} {f : α → Option β} {r : β} (h : x.bind f = some r) : ∃ t, Aside0 (x = some t) ∧ f t = some r := by
 obtain ⟨t, h1, h2⟩ := Option.bind_eq_some_iff.mp h
 exact ⟨t, ⟨h1⟩, h2⟩
theorem qe {α : Type} [BEq α] [LawfulBEq α] {a b : α} (h : a = b) : (a == b) = true ∧ (a != b) = false := ⟨beq_iff_eq.mpr h, bne_eq_false_iff_eq.mpr h⟩
theorem qn {α : Type} [BEq α] [LawfulBEq α] {a b : α} (h : ¬ a = b) : (a == b) = false ∧ (a != b) = true := ⟨beq_eq_false_iff_ne.mpr h, bne_iff_ne.mpr h⟩
theorem bk1 {w : World} {g : Nat} {t : TypeId} {c0 : Value} (h : w.heap[g]? = some (.cells #[c0] t (0, 0))) : w.cell? ⟨g, 0, none⟩ = some c0 ∧ w.frozen? ⟨g, 0, none⟩ = false := ⟨(blk_cell h 0).trans rfl, blk_frozen h 0⟩
theorem bk5 {w : World} {g : Nat} {t : TypeId} {c0 c1 c2 c3 c4 : Value} (h : w.heap[g]? = some (.cells #[c0, c1, c2, c3, c4] t (0, 0))) : w.cell? ⟨g, 0, none⟩ = some c0 ∧ w.cell? ⟨g, 1, none⟩ = some c1 ∧ w.cell? ⟨g, 2, none⟩ = some c2 ∧ w.cell? ⟨g, 3, none⟩ = some c3 ∧ w.cell? ⟨g, 4, none⟩ = some c4 ∧ w.frozen? ⟨g, 0, none⟩ = false ∧ w.frozen? ⟨g, 1, none⟩ = false ∧ w.frozen? ⟨g, 2, none⟩ = false ∧ w.frozen? ⟨g, 3, none⟩ = false ∧ w.frozen? ⟨g, 4, none⟩ = false := ⟨(blk_cell h 0).trans rfl, (blk_cell h 1).trans rfl, (blk_cell h 2).trans rfl, (blk_cell h 3).trans rfl, (blk_cell h 4).trans rfl, blk_frozen h 0, blk_frozen h 1, blk_frozen h 2, blk_frozen h 3, blk_frozen h 4⟩
def bA (n m : Nat) : Array Bool := ((List.range n).map m.testBit).toArray
section
variable {P : Program} {ops : Array Oper} {Q : Exit → Act → World → Prop} {md : Region.Mode} {S : World → Prop} {ds : List Nat}
end
end Go.Proofs.YtmojmnhaabonpaaDoor.Q
namespace Go.Proofs
open Go.Shelf
def Tryd.lays146_ren : Go.Shelf.Ren := ⟨fun | 146 => 26 | 221 => 33 | 268 => 45 | 138 => 46 | 143 => 47 | 195 => 62 | 197 => 59 | 218 => 63 | 219 => 37 | 260 => 73 | 217 => 54 | 225 => 55 | 224 => 56 | 267 => 57 | 266 => 71 | 314 => 72 | n => n, fun | 9 => 9 | 31 => 48 | 3 => 3 | 4 => 4 | 0 => 0 | 105 => 90 | 21 => 21 | 5 => 5 | 46 => 88 | 119 => 119 | 139 => 122 | 138 => 121 | 146 => 107 | 51 => 106 | n => n, fun | 1 => 0 | 3 => 4 | 4 => 5 | n => n⟩
theorem Tryd.lays146 : Go.Proofs.LaysM.n146 Tryd.prog Tryd.lays146_ren := {
 mixed := by kernel_rfl
 f138 := Tryd.func46.trans (congrArg some (by kernel_rfl))
 f143 := Tryd.func47.trans (congrArg some (by kernel_rfl))
 f146 := Tryd.func26.trans (congrArg some (by kernel_rfl))
 f195 := Tryd.func62.trans (congrArg some (by kernel_rfl))
 f197 := Tryd.func59.trans (congrArg some (by kernel_rfl))
 f217 := Tryd.func54.trans (congrArg some (by kernel_rfl))
 f218 := Tryd.func63.trans (congrArg some (by kernel_rfl))
 f219 := Tryd.func37.trans (congrArg some (by kernel_rfl))
 f221 := Tryd.func33.trans (congrArg some (by kernel_rfl))
 f224 := Tryd.func56.trans (congrArg some (by kernel_rfl))
 f225 := Tryd.func55.trans (congrArg some (by kernel_rfl))
 f260 := Tryd.func73.trans (congrArg some (by kernel_rfl))
 f266 := Tryd.func71.trans (congrArg some (by kernel_rfl))
 f267 := Tryd.func57.trans (congrArg some (by kernel_rfl))
 f268 := Tryd.func45.trans (congrArg some (by kernel_rfl))
 f314 := Tryd.func72.trans (congrArg some (by kernel_rfl))
 t0 := Tryd.underlying0
 a0 := Tryd.isAgg0
 z0 := Tryd.sizeOf0
 v0 := Tryd.zeroValue0
 t3 := Tryd.underlying3
 a3 := Tryd.isAgg3
 z3 := Tryd.sizeOf3
 v3 := Tryd.zeroValue3
 t4 := Tryd.underlying4
 a4 := Tryd.isAgg4
 z4 := Tryd.sizeOf4
 v4 := Tryd.zeroValue4
 t5 := Tryd.underlying5
 a5 := Tryd.isAgg5
 z5 := Tryd.sizeOf5
 v5 := Tryd.zeroValue5
 t9 := Tryd.underlying9
 a9 := Tryd.isAgg9
 z9 := Tryd.sizeOf9
 v9 := Tryd.zeroValue9
 t21 := Tryd.underlying21
 a21 := Tryd.isAgg21
 z21 := Tryd.sizeOf21
 v21 := Tryd.zeroValue21
 t31 := Tryd.underlying48
 a31 := Tryd.isAgg48
 z31 := Tryd.sizeOf48
 v31 := Tryd.zeroValue48
 t46 := Tryd.underlying88
 a46 := Tryd.isAgg88
 z46 := Tryd.sizeOf88
 v46 := Tryd.zeroValue88
 t51 := Tryd.underlying106
 a51 := Tryd.isAgg106
 z51 := Tryd.sizeOf106
 v51 := Tryd.zeroValue106
 t105 := Tryd.underlying90
 a105 := Tryd.isAgg90
 z105 := Tryd.sizeOf90
 v105 := Tryd.zeroValue90
 t119 := Tryd.underlying119
 a119 := Tryd.isAgg119
 z119 := Tryd.sizeOf119
 t138 := Tryd.underlying121
 a138 := Tryd.isAgg121
 z138 := Tryd.sizeOf121
 v138 := Tryd.zeroValue121
 t139 := Tryd.underlying122
 a139 := Tryd.isAgg122
 z139 := Tryd.sizeOf122
 v139 := Tryd.zeroValue122
 t146 := Tryd.underlying107
 a146 := Tryd.isAgg107
 z146 := Tryd.sizeOf107
 v146 := Tryd.zeroValue107
 g1 := by kernel_rfl
 g3 := by kernel_rfl
 g4 := by kernel_rfl
 i0 := by kernel_rfl
 i3 := by kernel_rfl
 i4 := by kernel_rfl
 i5 := by kernel_rfl
 i9 := by kernel_rfl
 i21 := by kernel_rfl
 i31 := by kernel_rfl
 i46 := by kernel_rfl
 i51 := by kernel_rfl
 i105 := by kernel_rfl
 i138 := by kernel_rfl
 i139 := by kernel_rfl
 i146 := by kernel_rfl
 m1 := by kernel_rfl
 s1_3 := fun w h => Go.Proofs.cell_of_shapedOpen_int (zero := #[.int .i64 0]) (t := 3) h (zB (by kernel_rfl)) (by kernel_rfl) rfl (by kernel_rfl) (by kernel_rfl) Tryd.underlying3
 m3 := by kernel_rfl
 m4 := by kernel_rfl }
def Tryd.lays172_ren : Go.Shelf.Ren := ⟨fun | 172 => 27 | 244 => 34 | 245 => 35 | 247 => 48 | 279 => 49 | 280 => 50 | 281 => 51 | 282 => 52 | 287 => 64 | 316 => 65 | 171 => 28 | 205 => 66 | 321 => 76 | 322 => 77 | 243 => 36 | 246 => 53 | 283 => 67 | 284 => 68 | 285 => 69 | 286 => 70 | 129 => 79 | 317 => 78 | 318 => 80 | 319 => 81 | 320 => 82 | 337 => 85 | 338 => 86 | n => n, fun | 9 => 9 | 3 => 3 | 75 => 62 | 76 => 63 | 4 => 4 | 5 => 5 | 167 => 78 | 37 => 79 | 0 => 0 | 85 => 80 | 2 => 2 | 168 => 82 | 53 => 94 | 175 => 95 | 46 => 88 | 210 => 99 | 127 => 111 | 145 => 114 | 143 => 112 | 21 => 21 | 171 => 101 | 173 => 104 | 212 => 116 | 51 => 106 | 20 => 20 | 213 => 117 | 232 => 125 | 233 => 126 | 80 => 127 | n => n, fun | 15 => 1 | 16 => 2 | 17 => 3 | 18 => 6 | 19 => 7 | n => n⟩
theorem Tryd.lays172 : Go.Proofs.LaysC.n172 Tryd.prog Tryd.lays172_ren := {
 mixed := by kernel_rfl
 f129 := Tryd.func79.trans (congrArg some (by kernel_rfl))
 f171 := Tryd.func28.trans (congrArg some (by kernel_rfl))
 f172 := Tryd.func27.trans (congrArg some (by kernel_rfl))
 f205 := Tryd.func66.trans (congrArg some (by kernel_rfl))
 f243 := Tryd.func36.trans (congrArg some (by kernel_rfl))
 f244 := Tryd.func34.trans (congrArg some (by kernel_rfl))
 f245 := Tryd.func35.trans (congrArg some (by kernel_rfl))
 f246 := Tryd.func53.trans (congrArg some (by kernel_rfl))
 f247 := Tryd.func48.trans (congrArg some (by kernel_rfl))
 f279 := Tryd.func49.trans (congrArg some (by kernel_rfl))
 f280 := Tryd.func50.trans (congrArg some (by kernel_rfl))
 f281 := Tryd.func51.trans (congrArg some (by kernel_rfl))
 f282 := Tryd.func52.trans (congrArg some (by kernel_rfl))
 f283 := Tryd.func67.trans (congrArg some (by kernel_rfl))
 f284 := Tryd.func68.trans (congrArg some (by kernel_rfl))
 f285 := Tryd.func69.trans (congrArg some (by kernel_rfl))
 f286 := Tryd.func70.trans (congrArg some (by kernel_rfl))
 f287 := Tryd.func64.trans (congrArg some (by kernel_rfl))
 f316 := Tryd.func65.trans (congrArg some (by kernel_rfl))
 f317 := Tryd.func78.trans (congrArg some (by kernel_rfl))
 f318 := Tryd.func80.trans (congrArg some (by kernel_rfl))
 f319 := Tryd.func81.trans (congrArg some (by kernel_rfl))
 f320 := Tryd.func82.trans (congrArg some (by kernel_rfl))
 f321 := Tryd.func76.trans (congrArg some (by kernel_rfl))
 f322 := Tryd.func77.trans (congrArg some (by kernel_rfl))
 f337 := Tryd.func85.trans (congrArg some (by kernel_rfl))
 f338 := Tryd.func86.trans (congrArg some (by kernel_rfl))
 t0 := Tryd.underlying0
 a0 := Tryd.isAgg0
 z0 := Tryd.sizeOf0
 v0 := Tryd.zeroValue0
 t2 := Tryd.underlying2
 a2 := Tryd.isAgg2
 z2 := Tryd.sizeOf2
 v2 := Tryd.zeroValue2
 t3 := Tryd.underlying3
 a3 := Tryd.isAgg3
 z3 := Tryd.sizeOf3
 v3 := Tryd.zeroValue3
 t4 := Tryd.underlying4
 a4 := Tryd.isAgg4
 z4 := Tryd.sizeOf4
 v4 := Tryd.zeroValue4
 t5 := Tryd.underlying5
 a5 := Tryd.isAgg5
 z5 := Tryd.sizeOf5
 v5 := Tryd.zeroValue5
 t9 := Tryd.underlying9
 a9 := Tryd.isAgg9
 z9 := Tryd.sizeOf9
 v9 := Tryd.zeroValue9
 t20 := Tryd.underlying20
 a20 := Tryd.isAgg20
 z20 := Tryd.sizeOf20
 v20 := Tryd.zeroValue20
 t21 := Tryd.underlying21
 a21 := Tryd.isAgg21
 z21 := Tryd.sizeOf21
 v21 := Tryd.zeroValue21
 t37 := Tryd.underlying79
 a37 := Tryd.isAgg79
 z37 := Tryd.sizeOf79
 v37 := Tryd.zeroValue79
 t46 := Tryd.underlying88
 a46 := Tryd.isAgg88
 z46 := Tryd.sizeOf88
 v46 := Tryd.zeroValue88
 t51 := Tryd.underlying106
 a51 := Tryd.isAgg106
 z51 := Tryd.sizeOf106
 v51 := Tryd.zeroValue106
 t53 := Tryd.underlying94
 a53 := Tryd.isAgg94
 z53 := Tryd.sizeOf94
 v53 := Tryd.zeroValue94
 t75 := Tryd.underlying62
 a75 := Tryd.isAgg62
 z75 := Tryd.sizeOf62
 v75 := Tryd.zeroValue62
 t76 := Tryd.underlying63
 a76 := Tryd.isAgg63
 z76 := Tryd.sizeOf63
 v76 := Tryd.zeroValue63
 t85 := Tryd.underlying80
 a85 := Tryd.isAgg80
 z85 := Tryd.sizeOf80
 v85 := Tryd.zeroValue80
 t127 := Tryd.underlying111
 a127 := Tryd.isAgg111
 z127 := Tryd.sizeOf111
 v127 := Tryd.zeroValue111
 t143 := Tryd.underlying112
 a143 := Tryd.isAgg112
 z143 := Tryd.sizeOf112
 v143 := Tryd.zeroValue112
 t145 := Tryd.underlying114
 a145 := Tryd.isAgg114
 z145 := Tryd.sizeOf114
 v145 := Tryd.zeroValue114
 t167 := Tryd.underlying78
 a167 := Tryd.isAgg78
 z167 := Tryd.sizeOf78
 v167 := Tryd.zeroValue78
 t168 := Tryd.underlying82
 a168 := Tryd.isAgg82
 z168 := Tryd.sizeOf82
 v168 := Tryd.zeroValue82
 t171 := Tryd.underlying101
 a171 := Tryd.isAgg101
 z171 := Tryd.sizeOf101
 v171 := Tryd.zeroValue101
 t173 := Tryd.underlying104
 a173 := Tryd.isAgg104
 z173 := Tryd.sizeOf104
 v173 := Tryd.zeroValue104
 t175 := Tryd.underlying95
 a175 := Tryd.isAgg95
 z175 := Tryd.sizeOf95
 v175 := Tryd.zeroValue95
 t210 := Tryd.underlying99
 a210 := Tryd.isAgg99
 z210 := Tryd.sizeOf99
 v210 := Tryd.zeroValue99
 t212 := Tryd.underlying116
 a212 := Tryd.isAgg116
 z212 := Tryd.sizeOf116
 v212 := Tryd.zeroValue116
 t213 := Tryd.underlying117
 a213 := Tryd.isAgg117
 z213 := Tryd.sizeOf117
 t232 := Tryd.underlying125
 a232 := Tryd.isAgg125
 z232 := Tryd.sizeOf125
 v232 := Tryd.zeroValue125
 t233 := Tryd.underlying126
 a233 := Tryd.isAgg126
 z233 := Tryd.sizeOf126
 v233 := Tryd.zeroValue126
 g15 := by kernel_rfl
 g16 := by kernel_rfl
 g17 := by kernel_rfl
 g18 := by kernel_rfl
 g19 := by kernel_rfl
 t80 := Tryd.underlying127
 a80 := Tryd.isAgg127
 z80 := Tryd.sizeOf127
 v80 := Tryd.zeroValue127
 i0 := by kernel_rfl
 i2 := by kernel_rfl
 i3 := by kernel_rfl
 i4 := by kernel_rfl
 i5 := by kernel_rfl
 i9 := by kernel_rfl
 i20 := by kernel_rfl
 i21 := by kernel_rfl
 i37 := by kernel_rfl
 i46 := by kernel_rfl
 i51 := by kernel_rfl
 i53 := by kernel_rfl
 i75 := by kernel_rfl
 i76 := by kernel_rfl
 i80 := by kernel_rfl
 i85 := by kernel_rfl
 i127 := by kernel_rfl
 i143 := by kernel_rfl
 i145 := by kernel_rfl
 i167 := by kernel_rfl
 i168 := by kernel_rfl
 i171 := by kernel_rfl
 i173 := by kernel_rfl
 i175 := by kernel_rfl
 i210 := by kernel_rfl
 i212 := by kernel_rfl
 i232 := by kernel_rfl
 i233 := by kernel_rfl
 m15 := by kernel_rfl
 m16 := by kernel_rfl
 m17 := by kernel_rfl
 m18 := by kernel_rfl
 m19 := by kernel_rfl
 c0 := by kernel_rfl
 c2 := by kernel_rfl
 c3 := by kernel_rfl
 c4 := by kernel_rfl
 c5 := by kernel_rfl
 c9 := by kernel_rfl
 c20 := by kernel_rfl
 c21 := by kernel_rfl
 c37 := by kernel_rfl
 c46 := by kernel_rfl
 c51 := by kernel_rfl
 c53 := by kernel_rfl
 c75 := by kernel_rfl
 c76 := by kernel_rfl
 c80 := by kernel_rfl
 c85 := by kernel_rfl
 c127 := by kernel_rfl
 c143 := by kernel_rfl
 c145 := by kernel_rfl
 c167 := by kernel_rfl
 c168 := by kernel_rfl
 c171 := by kernel_rfl
 c173 := by kernel_rfl
 c175 := by kernel_rfl
 c210 := by kernel_rfl
 c212 := by kernel_rfl
 c213 := by kernel_rfl
 c232 := by kernel_rfl
 c233 := by kernel_rfl }
def Tryd.lays171_ren : Go.Shelf.Ren := ⟨fun | 171 => 28 | 243 => 36 | 246 => 53 | 283 => 67 | 284 => 68 | 285 => 69 | 286 => 70 | 129 => 79 | 317 => 78 | 318 => 80 | 319 => 81 | 320 => 82 | 337 => 85 | 338 => 86 | n => n, fun | 3 => 3 | 9 => 9 | 2 => 2 | 4 => 4 | 171 => 101 | 0 => 0 | 53 => 94 | 37 => 79 | 5 => 5 | 173 => 104 | 212 => 116 | 51 => 106 | 20 => 20 | 213 => 117 | 46 => 88 | 232 => 125 | 233 => 126 | n => n, fun | 17 => 3 | 18 => 6 | 19 => 7 | n => n⟩
theorem Tryd.lays171 : Go.Proofs.LaysM.n171 Tryd.prog Tryd.lays171_ren := {
 mixed := by kernel_rfl
 f129 := Tryd.func79.trans (congrArg some (by kernel_rfl))
 f171 := Tryd.func28.trans (congrArg some (by kernel_rfl))
 f243 := Tryd.func36.trans (congrArg some (by kernel_rfl))
 f246 := Tryd.func53.trans (congrArg some (by kernel_rfl))
 f283 := Tryd.func67.trans (congrArg some (by kernel_rfl))
 f284 := Tryd.func68.trans (congrArg some (by kernel_rfl))
 f285 := Tryd.func69.trans (congrArg some (by kernel_rfl))
 f286 := Tryd.func70.trans (congrArg some (by kernel_rfl))
 f317 := Tryd.func78.trans (congrArg some (by kernel_rfl))
 f318 := Tryd.func80.trans (congrArg some (by kernel_rfl))
 f319 := Tryd.func81.trans (congrArg some (by kernel_rfl))
 f320 := Tryd.func82.trans (congrArg some (by kernel_rfl))
 f337 := Tryd.func85.trans (congrArg some (by kernel_rfl))
 f338 := Tryd.func86.trans (congrArg some (by kernel_rfl))
 t0 := Tryd.underlying0
 a0 := Tryd.isAgg0
 z0 := Tryd.sizeOf0
 v0 := Tryd.zeroValue0
 t2 := Tryd.underlying2
 a2 := Tryd.isAgg2
 z2 := Tryd.sizeOf2
 v2 := Tryd.zeroValue2
 t3 := Tryd.underlying3
 a3 := Tryd.isAgg3
 z3 := Tryd.sizeOf3
 v3 := Tryd.zeroValue3
 t4 := Tryd.underlying4
 a4 := Tryd.isAgg4
 z4 := Tryd.sizeOf4
 v4 := Tryd.zeroValue4
 t5 := Tryd.underlying5
 a5 := Tryd.isAgg5
 z5 := Tryd.sizeOf5
 v5 := Tryd.zeroValue5
 t9 := Tryd.underlying9
 a9 := Tryd.isAgg9
 z9 := Tryd.sizeOf9
 v9 := Tryd.zeroValue9
 t20 := Tryd.underlying20
 a20 := Tryd.isAgg20
 z20 := Tryd.sizeOf20
 v20 := Tryd.zeroValue20
 t37 := Tryd.underlying79
 a37 := Tryd.isAgg79
 z37 := Tryd.sizeOf79
 v37 := Tryd.zeroValue79
 t46 := Tryd.underlying88
 a46 := Tryd.isAgg88
 z46 := Tryd.sizeOf88
 v46 := Tryd.zeroValue88
 t51 := Tryd.underlying106
 a51 := Tryd.isAgg106
 z51 := Tryd.sizeOf106
 v51 := Tryd.zeroValue106
 t53 := Tryd.underlying94
 a53 := Tryd.isAgg94
 z53 := Tryd.sizeOf94
 v53 := Tryd.zeroValue94
 t171 := Tryd.underlying101
 a171 := Tryd.isAgg101
 z171 := Tryd.sizeOf101
 v171 := Tryd.zeroValue101
 t173 := Tryd.underlying104
 a173 := Tryd.isAgg104
 z173 := Tryd.sizeOf104
 v173 := Tryd.zeroValue104
 t212 := Tryd.underlying116
 a212 := Tryd.isAgg116
 z212 := Tryd.sizeOf116
 v212 := Tryd.zeroValue116
 t213 := Tryd.underlying117
 a213 := Tryd.isAgg117
 z213 := Tryd.sizeOf117
 t232 := Tryd.underlying125
 a232 := Tryd.isAgg125
 z232 := Tryd.sizeOf125
 v232 := Tryd.zeroValue125
 t233 := Tryd.underlying126
 a233 := Tryd.isAgg126
 z233 := Tryd.sizeOf126
 v233 := Tryd.zeroValue126
 g17 := by kernel_rfl
 g18 := by kernel_rfl
 g19 := by kernel_rfl
 i0 := by kernel_rfl
 i2 := by kernel_rfl
 i3 := by kernel_rfl
 i4 := by kernel_rfl
 i5 := by kernel_rfl
 i9 := by kernel_rfl
 i20 := by kernel_rfl
 i37 := by kernel_rfl
 i46 := by kernel_rfl
 i51 := by kernel_rfl
 i53 := by kernel_rfl
 i171 := by kernel_rfl
 i173 := by kernel_rfl
 i212 := by kernel_rfl
 i232 := by kernel_rfl
 i233 := by kernel_rfl
 m17 := by kernel_rfl
 m18 := by kernel_rfl
 m19 := by kernel_rfl }
end Go.Proofs
namespace Go.Proofs.YtmojmnhaabonpaaDoor.Q
open Go.RowKit Go.Shelf Go.Proofs.YtmojmnhaabonpaaDoorW.PrintWords Go.Proofs.YtmojmnhaabonpaaDoorW.PrintLast Go.Proofs.YtmojmnhaabonpaaDoorW.PrintMore
set_option linter.unusedVariables false
theorem var_below {P : Program} {w w1 : World} {n : String} {cs : Array Value} (h : w.var? P n = some cs) (hb : Below w.heap.size w w1) : w1.var? P n = some cs := by
 unfold World.var? at *
 cases hg : P.globalNamed n with
 | none => rw [hg] at h; simp at h
 | some g =>
  rw [hg] at h
  simp only [zJ] at h ⊢
  cases hk : w.heap[g]? with
  | none => rw [hk] at h; simp at h
  | some o => rw [hb.block g (Array.getElem?_eq_some_iff.1 hk).1]; exact h
structure LaidW (w : World) : Prop where
 tab : Lib.TabIs Tryd.prog w "internal/strconv.uint64pow10" .u64 Lib.pow10Tab
 syn : ∃ tp p, w.var? Tryd.prog "strconv.ErrSyntax" = some #[.iface tp p]
 rng : ∃ tp p, w.var? Tryd.prog "strconv.ErrRange" = some #[.iface tp p]
theorem LaidW.below {w w1 : World} (h : LaidW w) (hb : Below w.heap.size w w1) : LaidW w1 := by
 obtain ⟨h1, ⟨t1, p1, h2⟩, t2, p2, h3⟩ := h
 exact ⟨var_below h1 hb, ⟨t1, p1, var_below h2 hb⟩, t2, p2, var_below h3 hb⟩
theorem LaidW.alloc {w : World} (h : LaidW w) (o : Obj) : LaidW (w.alloc o) := h.below (below_alloc (Below.refl _ _) o)
theorem LaidW.drewN {w : World} (h : LaidW w) (n : Nat) : LaidW (w.drewN n) := h.below (pw_below_drewN (Below.refl _ _) n)
theorem LaidW.drew {w : World} (h : LaidW w) : LaidW w.drew := h.below (below_drew (Below.refl _ _))
theorem star_name : "*" ++ "errors.errorString" = "*errors.errorString" := by decide
theorem row_err (u : TypeId) (h : Tryd.prog.typeName? 3 u = some "*errors.errorString") : u = 112 :=
 typeName_ptr_named (nm := "errors.errorString") (by rw [star_name]; kernel_rfl) (by kernel_rfl) (by decide) u (by rw [star_name]; exact h)
theorem err_of {n : String} {text : List UInt8} {r : List (String × DataW Unit)} {W : World} {g : Nat}
 (h : laidMet Tryd.prog ((n, .iface "*errors.errorString" (.ptr (.agg [.lit (.string text)]))) :: r) W) (hg : Tryd.prog.globalNamed n = some g) (ht : (Tryd.prog.globals[g]?).map (·.type) = some 62) :
 ∃ tp p, W.var? Tryd.prog n = some #[.iface tp p] := by
 obtain ⟨a0, s0, hv0, -, -, -⟩ := laid_sentinel h hg ht Tryd.underlying62 row_err Tryd.underlying112 Tryd.underlying114 rfl rfl Tryd.underlying9 (by kernel_rfl) (by kernel_rfl)
 exact ⟨_, _, hv0⟩
def laidList : List (String × DataW Unit) := [("math/bits.deBruijn32tab", Rows.laid_math_bits_deBruijn32tab), ("math/bits.deBruijn64tab", Rows.laid_math_bits_deBruijn64tab), ("internal/strconv.uint64pow10", Rows.laid_internal_strconv_uint64pow10), ("unicode/utf8.acceptRanges", Rows.laid_unicode_utf8_acceptRanges), ("strconv.ErrRange", Rows.laid_strconv_ErrRange), ("strconv.ErrSyntax", Rows.laid_strconv_ErrSyntax), ("unicode/utf8.first", Rows.laid_unicode_utf8_first)]
theorem LaidW.of_met {W : World} (h : laidMet Tryd.prog laidList W) : LaidW W := by
 have h2 := laidMet.tail (laidMet.tail h)
 have h4 := laidMet.tail (laidMet.tail h2)
 have h5 := laidMet.tail h4
 exact ⟨Lib.tabIs_of_head (g := 3) (by kernel_rfl) (by kernel_rfl) Tryd.underlying116 Tryd.underlying94 (by kernel_rfl) (by kernel_rfl) h2,
  err_of h5 (g := 1) (by kernel_rfl) (by kernel_rfl), err_of h4 (g := 2) (by kernel_rfl) (by kernel_rfl)⟩
def strconv_Itoa_28.f (a0 : Int) : Option ByteArray := if -9223372036854775808 ≤ a0 ∧ a0 ≤ 9223372036854775807 then some ⟨(Lib.itoa a0).toArray⟩ else none
theorem strconv_Itoa_28.calls (a0 : Int) (r : ByteArray) (w : World) (hL : LaidW w) (h : strconv_Itoa_28.f a0 = some r) :
 Calls Tryd.prog 28 #[.int .i64 a0] w fun e w' => e = .returned (.string r) ∧ Below w.heap.size w w' := by
 unfold strconv_Itoa_28.f at h
 split at h
 ·next c =>
  obtain rfl := zI h
  refine (Any.strconv_Itoa Tryd.lays171 a0 c.1 c.2 w hL.tab).mono ?_
  rintro e w' ⟨rfl, k, os, rfl⟩
  exact ⟨rfl, below_regrown w (w.drawn + k) os⟩
 ·cases h
end Go.Proofs.YtmojmnhaabonpaaDoor.Q
namespace Go.Proofs.YtmojmnhaabonpaaDoor.Q
open Go.RowKit Go.Shelf Go.Proofs.YtmojmnhaabonpaaDoorW.PrintWords Go.Proofs.YtmojmnhaabonpaaDoorW.PrintLast Go.Proofs.YtmojmnhaabonpaaDoorW.PrintMore
set_option linter.unusedVariables false
set_option linter.unusedSimpArgs false
def blank1 : ByteArray := ⟨#[32]⟩
def wordsOf (s : ByteArray) : List ByteArray := Lib.splitB blank1 0 (Lib.countB s blank1) s
theorem wordsOf_len (s : ByteArray) : (wordsOf s).length = Lib.countB s blank1 + 1 := Lib.splitB_all blank1 (by decide) 0 _ s rfl
theorem split_calls (s : ByteArray) (w : World) (hs : s.size < 4294967281) :
 Calls Tryd.prog 26 #[.string s, .string blank1] w fun e w' => e = .returned (.slice (some ⟨w.heap.size, 0, none⟩) (wordsOf s).length (wordsOf s).length) ∧ w' = w.alloc (.cells ((wordsOf s).map Value.string).toArray 9) := by
 have hle := Lib.countB_le blank1 (by decide) s.size s (Nat.le_refl _)
 have hlen := Lib.splitB_all blank1 (by decide) 0 _ s rfl
 have c := Any.strings_genSplit_core { Tryd.lays146 with } Tryd.lays146.i9 s blank1 0 (-1) (Lib.countB s blank1 + 1) w hs (by decide) (Nat.zero_le _)
  (fun x c hx => (Any.strings_Index_one { Tryd.lays146 with } x 32 _).mono fun e w' ⟨he, hw⟩ => ⟨by rw [he]; show _ = Ending.returned (Value.int .i64 (Lib.index x.data.toList [32])); rw [Lib.index_one], hw⟩)
  ((Any.strings_Count_one { Tryd.lays146 with } s 32 w).mono fun e w' ⟨he, hw⟩ => ⟨by rw [he]; show _ = Ending.returned (Value.int .i64 ((Lib.count s.data.toList [32] : Nat) : Int)); rw [Lib.count_one]; rfl, hw⟩) (by decide) (by decide) (by rw [zC (by decide)]; omega)
 rw [Nat.add_sub_cancel, hlen] at c
 have e2 : Lib.cellsOf (Lib.splitB blank1 0 (Lib.countB s blank1) s) (Lib.countB s blank1 + 1) = ((wordsOf s).map Value.string).toArray := by rw [← hlen]; exact Lib.cellsOf_full _
 rw [e2] at c
 have c' : Calls Tryd.prog 33 #[.string s, .string blank1, .int .i64 0, .int .i64 (-1)] w fun e w' => e = .returned (.slice (some ⟨w.heap.size, 0, none⟩) (Lib.countB s blank1 + 1) (Lib.countB s blank1 + 1)) ∧ w' = w.alloc (.cells ((wordsOf s).map Value.string).toArray 9) := c
 clear c e2
 rw [wordsOf_len]
 go_enter Tryd.func26, Tryd.ntmps26
 go_wp2_with (go_at_call 33; refine c'.mono ?_; rintro e w' ⟨rfl, hw⟩; rw [hw])
 go_ret
 exact ⟨rfl, rfl⟩
theorem split_at (s : ByteArray) (w : World) (hs : s.size < 4294967281) : Calls Tryd.prog 26 #[.string s, .string blank1] w fun e w' => ∃ g, e = .returned (.slice (some ⟨g, 0, none⟩) (wordsOf s).length (wordsOf s).length) ∧ w'.heap[g]? = some (.cells ((wordsOf s).map Value.string).toArray 9 (0, 0)) ∧ Below w.heap.size w w' ∧ w.heap.size ≤ g := by
 refine (split_calls s w hs).mono ?_
 rintro e w' ⟨rfl, rfl⟩
 exact ⟨_, rfl, blk_new w _, below_alloc (Below.refl _ _) _, Nat.le_refl _⟩
def numOf (t : ByteArray) : Option Int :=
 match Lib.atoiAll t.data.toList with
 | .ok v => if 0 ≤ v ∧ v < 2147483648 ∧ (⟨(Lib.itoa v).toArray⟩ : ByteArray) = t then some v else none
 | _ => none
theorem numOf_ok {t : ByteArray} {v : Int} (h : Lib.atoiAll t.data.toList = .ok v) : numOf t = if 0 ≤ v ∧ v < 2147483648 ∧ (⟨(Lib.itoa v).toArray⟩ : ByteArray) = t then some v else none := by unfold numOf; rw [h]
theorem atoi_ok {t : ByteArray} {v : Int} (h : Lib.atoiAll t.data.toList = .ok v) (w : World) (hs : t.size ≤ 281474976710656) :
 Calls Tryd.prog 27 #[.string t] w fun e w' => e = .returned (.tuple #[.int .i64 v, .nilIface]) ∧ Below w.heap.size w w' := by
 refine (Any.strconv_Atoi_ok Tryd.lays172 t (by omega) v h w).mono ?_
 rintro e w' ⟨rfl, hw⟩
 refine ⟨rfl, ?_⟩
 rcases hw with rfl | ⟨t, rfl⟩
 ·exact Below.refl _ _
 ·exact Lib.bytesWorld_below _ _ _
theorem atoi_bad {t : ByteArray} (h : ∀ v, Lib.atoiAll t.data.toList ≠ .ok v) (w : World) (hL : LaidW w) (hs : t.size ≤ 281474976710656) :
 numOf t = none ∧ Calls Tryd.prog 27 #[.string t] w fun e w' => ∃ (v : Int) (q : Value), e = .returned (.tuple #[.int .i64 v, .iface 82 q]) ∧ Below w.heap.size w w' := by
 obtain ⟨-, ⟨t1, p1, h2⟩, t2, p2, h3⟩ := hL
 rcases h' : Lib.atoiAll t.data.toList with v | _ | _
 ·exact absurd h' (h v)
 ·refine ⟨by unfold numOf; rw [h'], (Any.strconv_Atoi_syntax_var Tryd.lays172 t hs h' t1 p1 w h2).mono ?_⟩
  rintro e w' ⟨N, rfl, _, _, hb⟩
  exact ⟨_, _, rfl, hb⟩
 ·refine ⟨by unfold numOf; rw [h'], (Any.strconv_Atoi_range_var Tryd.lays172 t hs h' t2 p2 w h3).mono ?_⟩
  rintro e w' ⟨N, rfl, _, _, hb⟩
  exact ⟨_, _, rfl, hb⟩
theorem splitB_small (sep : ByteArray) : ∀ (k : Nat) (s : ByteArray), ∀ t ∈ Lib.splitB sep 0 k s, t.size ≤ s.size
 | 0, s, t, h => by rw [List.mem_singleton.1 h]; exact Nat.le_refl _
 | k + 1, s, t, h => by
  unfold Lib.splitB at h
  split at h
  ·rw [List.mem_singleton.1 h]; exact Nat.le_refl _
  ·rcases List.mem_cons.1 h with h | h
   ·rw [h]; simp only [ByteArray.size_extract]; omega
   ·have := splitB_small sep k _ t h
    simp only [ByteArray.size_extract] at this
    omega
theorem wordsOf_small (s : ByteArray) : ∀ t ∈ wordsOf s, t.size ≤ s.size := splitB_small _ _ _
end Go.Proofs.YtmojmnhaabonpaaDoor.Q
namespace Go.Proofs.YtmojmnhaabonpaaDoor.Plain
open Go Go.RowKit Go.Proofs.YtmojmnhaabonpaaDoorW.PrintWords Go.Proofs.YtmojmnhaabonpaaDoorW.PrintMore
theorem wrap_nat {j : Nat} (h : j ≤ 4611686018427387904) : wrap64 ((j : Int) + 1) = ((j + 1 : Nat) : Int) := by
 unfold wrap64
 omega
theorem wrap_id {i : Int} (h0 : -4611686018427387904 ≤ i) (h : i ≤ 4611686018427387904) : wrap64 i = i := by
 unfold wrap64
 omega
theorem rd_nat (l : List Int) (j : Nat) : rd l (j : Int) = l.getD j 0 := rfl
theorem rd_get {l : List Int} {j : Nat} (h : j < l.length) : rd l (j : Int) = l[j] := by
 rw [rd_nat, List.getD_eq_getElem?_getD, List.getElem?_eq_getElem h]
 rfl
theorem drop_cons {α : Type} {l : List α} {j : Nat} (h : j < l.length) : l.drop j = l[j] :: l.drop (j + 1) := by
 rw [List.drop_eq_getElem_cons h]
theorem loop_eq (bs : ByteArray) : ∀ (n i : Nat) (r : List UInt8), bs.size - i = n → ByteArray.toList.loop bs i r = r.reverse ++ bs.data.toList.drop i := by
 intro n
 induction n with
 | zero =>
  intro i r h
  unfold ByteArray.toList.loop
  rw [zD (by omega), List.drop_eq_nil_of_le (by simp; have : bs.data.size = bs.size := rfl; omega), List.append_nil]
 | succ n ih =>
  intro i r h
  unfold ByteArray.toList.loop
  have hs : bs.data.size = bs.size := rfl
  rw [zC (by omega), ih (i + 1) _ (by omega), List.drop_eq_getElem_cons (i := i) (by simp; omega)]
  have : bs.get! i = bs.data.toList[i]'(by simp; omega) := by
   show bs.data[i]! = _
   rw [getElem!_pos bs.data i (by omega)]
   simp
  rw [this]
  simp
theorem toList_data (bs : ByteArray) : bs.toList = bs.data.toList := by
 unfold ByteArray.toList
 rw [loop_eq bs _ 0 [] rfl]
 simp
theorem toList_inj {a b : ByteArray} : a.toList = b.toList ↔ a = b := by
 rw [toList_data, toList_data]
 constructor
 ·intro h
  cases a
  cases b
  simp at h
  rw [h]
 ·rintro rfl
  rfl
end Go.Proofs.YtmojmnhaabonpaaDoor.Plain
namespace Go.Proofs.YtmojmnhaabonpaaDoor.Q
open Go.RowKit Go.Shelf Go.Proofs.YtmojmnhaabonpaaDoor.Plain Go.Proofs.YtmojmnhaabonpaaDoorW.PrintWords Go.Proofs.YtmojmnhaabonpaaDoorW.PrintLast Go.Proofs.YtmojmnhaabonpaaDoorW.PrintMore
set_option linter.unusedVariables false
set_option linter.unusedSimpArgs false
def Boxes (w : World) (gs : List Nat) (xs : List Int) : Prop := gs.length = xs.length ∧ ∀ (i g : Nat), gs[i]? = some g → ∃ x, xs[i]? = some x ∧ w.heap[g]? = some (.cells #[.int .i64 x] 3 (0, 0))
theorem Boxes.below {w w1 : World} {gs : List Nat} {xs : List Int} (h : Boxes w gs xs) (hb : Below w.heap.size w w1) : Boxes w1 gs xs :=
 ⟨h.1, fun i g hg => by obtain ⟨x, hx, hk⟩ := h.2 i g hg; exact ⟨x, hx, blk_below hk hb⟩⟩
theorem Boxes.put {w : World} {gs : List Nat} {xs : List Int} (h : Boxes w gs xs) (hn : gs.Nodup) {i g : Nat} (hg : gs[i]? = some g) (v : Int) : Boxes (w.setCell ⟨g, 0, none⟩ (.int .i64 v)) gs (xs.set i v) := by
 refine ⟨by rw [List.length_set]; exact h.1, fun j q hq => ?_⟩
 obtain ⟨x, hx, hk⟩ := h.2 j q hq
 by_cases e : i = j
 ·subst e
  obtain rfl : g = q := zI (hg.symm.trans hq)
  have hj := (List.getElem?_eq_some_iff.1 hx).1
  exact ⟨v, by rw [List.getElem?_set_self hj], blk_put hk 0 _ rfl⟩
 ·have hi := (List.getElem?_eq_some_iff.1 hg).1
  have hj := (List.getElem?_eq_some_iff.1 hq).1
  have hne : q ≠ g := by
   intro e2
   have a := (List.getElem?_eq_some_iff.1 hg).2
   have b := (List.getElem?_eq_some_iff.1 hq).2
   rcases Nat.lt_or_gt_of_ne e with h1 | h1
   ·exact List.pairwise_iff_getElem.1 hn i j hi hj h1 (a.trans (e2.symm.trans b.symm))
   ·exact List.pairwise_iff_getElem.1 hn j i hj hi h1 (b.trans (e2.trans a.symm))
  exact ⟨x, by rw [List.getElem?_set_ne e]; exact hx, blk_far hk (p := ⟨g, 0, none⟩) hne _⟩
def numbersOf (s wd : ByteArray) (n : Nat) : Option (List Int) := if (wordsOf s)[0]? = some wd ∧ (wordsOf s).length = n + 1 then ((wordsOf s).drop 1).mapM numOf else none
theorem take_all {α β : Type} {f : α → Option β} : ∀ {l : List α} {xs : List β}, l.length = xs.length → (∀ (j : Nat) t, l[j]? = some t → ∃ x, xs[j]? = some x ∧ f t = some x) → l.mapM f = some xs
 | [], [], _, _ => rfl
 | a :: l, x :: xs, hl, h => by
  obtain ⟨y, hy, hf⟩ := h 0 a rfl
  simp only [List.getElem?_cons_zero, Option.some.injEq] at hy
  subst hy
  simp only [List.mapM_cons, hf, Option.bind_eq_bind, zJ]
  rw [take_all (by simpa using hl) (fun j t ht => by simpa using h (j + 1) t (by simpa using ht))]
  rfl
theorem miss_one {α β : Type} {f : α → Option β} : ∀ {l : List α} {j : Nat} {t : α}, l[j]? = some t → f t = none → l.mapM f = none
 | a :: l, 0, t, h, hf => by
  simp only [List.getElem?_cons_zero, Option.some.injEq] at h
  subst h
  simp [List.mapM_cons, hf]
 | a :: l, j + 1, t, h, hf => by
  simp only [List.mapM_cons, Option.bind_eq_bind]
  rw [miss_one (l := l) (j := j) (t := t) (by simpa using h) hf]
  cases f a <;> simp
set_option maxHeartbeats 8000000 in
set_option maxRecDepth 100000 in
theorem ask_numbers.calls (s wd : ByteArray) (n : Nat) (hn1 : 1 ≤ n) (hn2 : n ≤ 1000) (gs : List Nat) (hgl : gs.length = n) (hnd : gs.Nodup) (gt : Nat) (xs : List Int) (w0 w : World) (hL : LaidW w0) (hs : s.size < 4294967281) (hB : Below w0.heap.size w0 w) (hbx : Boxes w gs xs) (hge : ∀ g ∈ gs, w0.heap.size ≤ g)
 (hto : w.heap[gt]? = some (.cells ((gs.map fun g => Value.pointer (some ⟨g, 0, none⟩)).toArray) 47 (0, 0))) :
 Calls Tryd.prog 14 #[.string s, .string wd, .slice (some ⟨gt, 0, none⟩) n n] w fun e w' => ∃ (b : Bool) (ys : List Int), e = .returned (.bool b) ∧ Boxes w' gs ys ∧ (numbersOf s wd n = if b then some ys else none) ∧ Below w0.heap.size w0 w' ∧ Kept w w' (fun k => k ∈ gs) := by
 have HL := zA hL
 have HB := zA hB
 have HX := zA hbx
 have HG := zA hge
 have HT := zA hto
 have HD := zA hnd
 have HGL := zA hgl
 clear hL hB hbx hge hto hnd hgl
 have hwl := wordsOf_len s
 obtain ⟨ws, hws⟩ : ∃ ws, ws = wordsOf s := ⟨_, rfl⟩
 obtain ⟨w0d, rest, hwe⟩ : ∃ a l, ws = a :: l := by
  cases ws with
  | nil => rw [← hws] at hwl; simp at hwl
  | cons a l => exact ⟨a, l, rfl⟩
 have HWS := zA hws
 have HWE := zA hwe
 clear hwl hws hwe
 have HSM := zA (show ∀ t ∈ ws, t.size ≤ 281474976710656 from fun t ht => by have := wordsOf_small s t (HWS.out ▸ ht); omega)
 have HN : Aside0 (numbersOf s wd n = if ws[0]? = some wd ∧ ws.length = n + 1 then (ws.drop 1).mapM numOf else none) := ⟨by unfold numbersOf; rw [← HWS.out]⟩
 have hpos : 0 < ws.length := by rw [HWE.out]; simp
 by_cases c1 : w0d.toList = wd.toList
 case neg =>
  obtain ⟨c1a, c1b⟩ := qn c1
  go_enter Tryd.func14, Tryd.ntmps14
  go_wp2_with (go_at_call 26; refine (split_at s w hs).mono ?_; rintro e w1 ⟨gw, rfl, hk, hb, hgw⟩; rw [← HWS.out] at hk ⊢; replace HB := zA (below_step HB.out hb); replace HX := zA (HX.out.below hb); have HKp := zA (Kept.of_below hb (fun k => k ∈ gs)); have hx0 : w1.cell? ⟨gw, 0, none⟩ = some (.string w0d) := (blk_cell hk 0).trans (by rw [HWE.out]; first | done | rfl); clear hb hk hgw)
  go_ret
  refine ⟨false, xs, rfl, HX.out, ?_, HB.out, HKp.out⟩
  rw [HN.out, zD (fun h => c1 (by have := h.1; rw [HWE.out] at this; simp only [List.getElem?_cons_zero, Option.some.injEq] at this; rw [this]))]
  rfl
 obtain ⟨c1a, c1b⟩ := qe c1
 obtain rfl : w0d = wd := toList_inj.1 c1
 clear c1
 by_cases c2 : ws.length = n + 1
 case neg =>
  obtain ⟨c2a, c2b⟩ := qn (show ¬ (ws.length : Int) = (n : Int) + 1 by omega)
  obtain ⟨c2c, c2d⟩ := qn c2
  go_enter Tryd.func14, Tryd.ntmps14
  go_wp2_with (go_at_call 26; refine (split_at s w hs).mono ?_; rintro e w1 ⟨gw, rfl, hk, hb, hgw⟩; rw [← HWS.out] at hk ⊢; replace HB := zA (below_step HB.out hb); replace HX := zA (HX.out.below hb); have HKp := zA (Kept.of_below hb (fun k => k ∈ gs)); have hx0 : w1.cell? ⟨gw, 0, none⟩ = some (.string w0d) := (blk_cell hk 0).trans (by rw [HWE.out]; first | done | rfl); clear hb hk hgw)
  go_ret
  refine ⟨false, xs, rfl, HX.out, ?_, HB.out, HKp.out⟩
  rw [HN.out, zD (fun h => c2 h.2)]
  rfl
 obtain ⟨c2a, c2b⟩ := qe (show (ws.length : Int) = (n : Int) + 1 by omega)
 obtain ⟨c2c, c2d⟩ := qe c2
 have HLn := zA c2
 have d1 : (1 : Int) ≤ (ws.length : Int) := by omega
 have d2 : 1 < ws.length := by omega
 clear c2
 go_enter Tryd.func14, Tryd.ntmps14
 go_wp2_with (go_at_call 26; refine (split_at s w hs).mono ?_; rintro e w1 ⟨gw, rfl, hk, hb, hgw⟩; rw [← HWS.out] at hk ⊢; replace HB := zA (below_step HB.out hb); replace HX := zA (HX.out.below hb); have HKp := zA (Kept.of_below hb (fun k => k ∈ gs)); have hx0 : w1.cell? ⟨gw, 0, none⟩ = some (.string w0d) := (blk_cell hk 0).trans (by rw [HWE.out]; first | done | rfl); replace HT := zA (blk_below HT.out hb); have HK := zA hk; have HGW := zA (show ∀ g ∈ gs, g ≠ gw from fun g hg e => by subst e; obtain ⟨i, hi⟩ := List.getElem?_of_mem hg; obtain ⟨x, _, hx⟩ := HX.out.2 i _ hi; have := hk.symm.trans hx; simp at this); clear hb hk hgw)
 rw [show ws.length - 1 = n by have := HLn.out; omega]
 go_loopg [30] n (fun kq v30 w' => ∃ (i : Nat) (ys : List Int), v30 = .int .i64 (i : Int) ∧ Aside0 (kq + i = n) ∧ Aside0 (w'.heap[gw]? = some (.cells ((ws.map Value.string).toArray) 9 (0, 0))) ∧ Aside0 (w'.heap[gt]? = some (.cells ((gs.map fun g => Value.pointer (some ⟨g, 0, none⟩)).toArray) 47 (0, 0))) ∧
  Aside0 (Boxes w' gs ys) ∧ Aside0 (∀ (j : Nat) t, j < i → ws[j + 1]? = some t → ∃ x, ys[j]? = some x ∧ numOf t = some x) ∧ Aside0 (Below w0.heap.size w0 w') ∧ Aside0 (Kept w w' (fun k => k ∈ gs)))
 case atStart => exact ⟨0, xs, by first | rfl | simp, ⟨by omega⟩, HK, HT, HX, ⟨fun j t h => absurd h (by omega)⟩, HB, HKp⟩
 case round =>
  clear HK HX HB HKp HT
  obtain ⟨i, ys, rfl, HKQ, HK, HT, HX, HY, HB, HKp⟩ := hrel
  cases gk with
  | zero =>
   have e1b := zG (show ¬ ((i : Int) < (n : Int)) by have := HKQ.out; omega)
   have e1c := zG (show ¬ (i < n) by have := HKQ.out; omega)
   go_wp2_with fail
   go_ret
   refine ⟨true, ys, rfl, HX.out, ?_, HB.out, HKp.out⟩
   have hi : i = n := by have := HKQ.out; omega
   rw [HN.out, zC ⟨by rw [HWE.out]; rfl, HLn.out⟩]
   refine take_all (by rw [List.length_drop, HLn.out, ← HX.out.1, HGL.out]; rfl) (fun j t ht => ?_)
   rw [List.getElem?_drop, Nat.add_comm] at ht
   exact HY.out j t (by have := (List.getElem?_eq_some_iff.1 ht).1; rw [HLn.out] at this; omega) ht
  | succ k1 =>
   have hin : i < n := by have := HKQ.out; omega
   have e1b := zF (show ((i : Int) < (n : Int)) by omega)
   have e1c := zF hin
   obtain ⟨t, ht⟩ : ∃ t, ws[i + 1]? = some t := ⟨_, List.getElem?_eq_getElem (by have := HLn.out; omega)⟩
   have hx1 : wr.cell? ⟨gw, 1 + i, none⟩ = some (.string t) := (blk_cell HK.out (1 + i)).trans (by rw [Nat.add_comm]; simp [ht])
   have HTT := zA ht
   have hts := HSM.out t (List.mem_of_getElem? ht)
   clear ht
   have HBad := zA (show numOf t = none → numbersOf s w0d n = none from fun h => by
    rw [HN.out, zC ⟨by rw [HWE.out]; rfl, HLn.out⟩]
    exact miss_one (j := i) (by rw [List.getElem?_drop, Nat.add_comm]; exact HTT.out) h)
   have HLr := zA (HL.out.below HB.out)
   by_cases hat : ∃ v, Lib.atoiAll t.data.toList = .ok v
   case neg =>
    have hbad := atoi_bad (fun v h => hat ⟨v, h⟩) wr HLr.out hts
    have HNo := zA (HBad.out hbad.1)
    have HCl := zA hbad.2
    clear hbad hat HBad
    go_wp2_with (go_at_call 27; refine HCl.out.mono ?_; rintro e w2 ⟨v, q, rfl, hb⟩; replace HX := zA (HX.out.below hb); replace HB := zA (below_step HB.out hb); replace HKp := zA (HKp.out.below hb); clear hb hx1)
    go_ret
    exact ⟨false, ys, rfl, HX.out, HNo.out, HB.out, HKp.out⟩
   obtain ⟨v, hv⟩ := hat
   have hno := numOf_ok hv
   have hvb := Lib.atoiAll_bounds hv
   have HV := zA hv
   clear hv
   have FAIL : Aside0 (¬ (0 ≤ v ∧ v < 2147483648 ∧ (⟨(Lib.itoa v).toArray⟩ : ByteArray) = t) → numbersOf s w0d n = none) := ⟨fun h => HBad.out (by rw [hno, zD h])⟩
   have GOOD : Aside0 ((0 ≤ v ∧ v < 2147483648 ∧ (⟨(Lib.itoa v).toArray⟩ : ByteArray) = t) → numOf t = some v) := ⟨fun h => by rw [hno, zC h]⟩
   clear hno HBad
   by_cases f1 : v < 0
   ·have f1b := zF f1
    go_wp2_with (go_at_call 27; refine (atoi_ok HV.out wr hts).mono ?_; rintro e w2 ⟨rfl, hb⟩; replace HX := zA (HX.out.below hb); replace HB := zA (below_step HB.out hb); replace HKp := zA (HKp.out.below hb); clear hb hx1)
    go_ret
    exact ⟨false, ys, rfl, HX.out, FAIL.out (fun h => by omega), HB.out, HKp.out⟩
   have f1b := zG f1
   by_cases f2 : 2147483648 ≤ v
   ·have f2b := zF f2
    go_wp2_with (go_at_call 27; refine (atoi_ok HV.out wr hts).mono ?_; rintro e w2 ⟨rfl, hb⟩; replace HX := zA (HX.out.below hb); replace HB := zA (below_step HB.out hb); replace HKp := zA (HKp.out.below hb); clear hb hx1)
    go_ret
    exact ⟨false, ys, rfl, HX.out, FAIL.out (fun h => by omega), HB.out, HKp.out⟩
   have f2b := zG f2
   obtain ⟨u, hu⟩ : ∃ u, u = (⟨(Lib.itoa v).toArray⟩ : ByteArray) := ⟨_, rfl⟩
   have HF := zA (show strconv_Itoa_28.f v = some u by unfold strconv_Itoa_28.f; rw [zC (by omega), hu])
   rw [← hu] at FAIL GOOD
   clear hu
   by_cases f3 : u.toList = t.toList
   case neg =>
    obtain ⟨f3a, f3b⟩ := qn f3
    go_wp2_with (first
     | (go_at_call 27; refine (atoi_ok HV.out wr hts).mono ?_; rintro e w2 ⟨rfl, hb⟩; replace HX := zA (HX.out.below hb); replace HB := zA (below_step HB.out hb); replace HKp := zA (HKp.out.below hb); replace HLr := zA (HLr.out.below hb); clear hb hx1)
     | (go_at_call 28; refine (strconv_Itoa_28.calls v u _ HLr.out HF.out).mono ?_; rintro e w3 ⟨rfl, hb⟩; replace HX := zA (HX.out.below hb); replace HB := zA (below_step HB.out hb); replace HKp := zA (HKp.out.below hb); clear hb))
    go_ret
    exact ⟨false, ys, rfl, HX.out, FAIL.out (fun h => f3 (by rw [h.2.2])), HB.out, HKp.out⟩
   obtain ⟨f3a, f3b⟩ := qe f3
   have HG1 := zA (GOOD.out ⟨by omega, by omega, toList_inj.1 f3⟩)
   clear f3 FAIL GOOD f1 f2
   obtain ⟨g, hg⟩ : ∃ g, gs[i]? = some g := ⟨_, List.getElem?_eq_getElem (by rw [HGL.out]; exact hin)⟩
   have HGi := zA hg
   clear hg
   go_wp2_with (first
    | (go_at_call 27; refine (atoi_ok HV.out wr hts).mono ?_; rintro e w2 ⟨rfl, hb⟩; replace HX := zA (HX.out.below hb); replace HB := zA (below_step HB.out hb); replace HKp := zA (HKp.out.below hb); replace HLr := zA (HLr.out.below hb); replace HK := zA (blk_below HK.out hb); replace HT := zA (blk_below HT.out hb); clear hb hx1)
    | (go_at_call 28; refine (strconv_Itoa_28.calls v u _ HLr.out HF.out).mono ?_; rintro e w3 ⟨rfl, hb⟩; replace HX := zA (HX.out.below hb); replace HB := zA (below_step HB.out hb); replace HKp := zA (HKp.out.below hb); replace HK := zA (blk_below HK.out hb); replace HT := zA (blk_below HT.out hb); clear hb; have hx2 : w3.cell? ⟨gt, i, none⟩ = some (.pointer (some ⟨g, 0, none⟩)) := (blk_cell HT.out i).trans (by simp [HGi.out]); obtain ⟨x0, _, hxb⟩ := HX.out.2 i g HGi.out; have hx3 : w3.cell? ⟨g, 0, none⟩ = some (.int .i64 x0) := (blk_cell hxb 0).trans rfl; have hf3 := blk_frozen hxb 0; clear hxb))
   have hgm := List.mem_of_getElem? HGi.out
   have HN1 := zA (show gw ≠ g from fun e => HGW.out g hgm e.symm)
   have HN2 := zA (show gt ≠ g from fun e => by subst e; obtain ⟨x, _, hx⟩ := HX.out.2 i _ HGi.out; have := HT.out.symm.trans hx; simp at this)
   have hil : i < ys.length := by rw [← HX.out.1, HGL.out]; exact hin
   go_roundg k1
   case measure => have := HKQ.out; omega
   case rel =>
    exact ⟨i + 1, ys.set i v, by go_num, ⟨by have := HKQ.out; omega⟩, ⟨blk_far HK.out (p := ⟨g, 0, none⟩) HN1.out _⟩, ⟨blk_far HT.out (p := ⟨g, 0, none⟩) HN2.out _⟩, ⟨HX.out.put HD.out HGi.out v⟩, ⟨fun j t' hj ht' => by
     rcases Nat.lt_or_ge j i with h1 | h1
     ·obtain ⟨x, hx, hxn⟩ := HY.out j t' h1 ht'
      exact ⟨x, by rw [List.getElem?_set_ne (by omega)]; exact hx, hxn⟩
     ·obtain rfl : j = i := by omega
      obtain rfl : t = t' := zI (HTT.out.symm.trans ht')
      exact ⟨v, by rw [List.getElem?_set_self hil], HG1.out⟩⟩, ⟨below_set HB.out (HG.out g hgm)⟩, ⟨Kept.setCell HKp.out (.inl hgm) _⟩⟩
end Go.Proofs.YtmojmnhaabonpaaDoor.Q
namespace Go.Proofs.YtmojmnhaabonpaaDoor.Q
open Go.RowKit Go.Proofs.YtmojmnhaabonpaaDoorW.PrintWords Go.Proofs.YtmojmnhaabonpaaDoorW.PrintLast Go.Proofs.YtmojmnhaabonpaaDoorW.PrintMore
attribute [local go_sem] max2_int min2_int max_two min_two max_three min_three max_four min_four
set_option linter.unusedVariables false
set_option linter.unusedSimpArgs false

def stringslite_HasPrefix.f (a0 : ByteArray) (a1 : ByteArray) : Option (Bool) := if (a0.size : Int) ≥ (a1.size : Int) then (if 0 ≤ (a1.size : Int) then (if (a1.size : Int) ≤ (a0.size : Int) then (some ((a0.extract 0 ((a1.size : Int) : Int).toNat).toList == a1.toList)) else (none)) else (none)) else (some false)
set_option maxHeartbeats 8000000 in
set_option maxRecDepth 100000 in
theorem stringslite_HasPrefix.calls (a0 : ByteArray) (a1 : ByteArray) (r : Bool) (w : World) (h : stringslite_HasPrefix.f a0 a1 = some r) :
 Calls Tryd.prog 32 #[.string a0, .string a1] w fun e w' => e = .returned (.bool r) ∧ Drawn0 w w' := by
 have H := h; clear h; unfold stringslite_HasPrefix.f at H
 by_cases c3 : (a0.size : Int) ≥ (a1.size : Int)
 ·rw [zC c3] at H
  have c3b0 : decide ((a1.size : Int) ≤ (a0.size : Int)) = true := zF c3
  have c3b1 : decide (a1.size ≤ a0.size) = true := zF (Int.ofNat_le.mp c3)
  clear c3
  by_cases c4 : 0 ≤ (a1.size : Int)
  ·rw [zC c4] at H
   have c4b0 := eq_true c4
   have c4b1 := zF c4
   clear c4
   by_cases c5 : (a1.size : Int) ≤ (a0.size : Int)
   ·rw [zC c5] at H
    have c5b0 := eq_true c5
    have c5b1 := zF c5
    clear c5
    obtain rfl := zI H
    go_enter Tryd.func32, Tryd.ntmps32
    go_wp2
    go_ret
    exact ⟨by first | rfl | (simp; done) | (simp [*]; done), qD⟩
   ·rw [zD c5] at H
    exact absurd H (by simp)
  ·rw [zD c4] at H
   exact absurd H (by simp)
 ·rw [zD c3] at H
  have c3b0 : decide ((a1.size : Int) ≤ (a0.size : Int)) = false := zG c3
  have c3b1 : decide (a1.size ≤ a0.size) = false := zG (fun h => c3 (Int.ofNat_le.mpr h))
  clear c3
  obtain rfl := zI H
  go_enter Tryd.func32, Tryd.ntmps32
  go_wp2
  go_ret
  exact ⟨by first | rfl | (simp; done) | (simp [*]; done), qD⟩

def stringslite_CutPrefix.f (a0 : ByteArray) (a1 : ByteArray) : Option (ByteArray × Bool) := (stringslite_HasPrefix.f a0 a1).bind fun t101 => (if t101 = true then (if 0 ≤ (a1.size : Int) then (if (a1.size : Int) ≤ (a0.size : Int) then (some (a0.extract ((a1.size : Int) : Int).toNat a0.size, true)) else (none)) else (none)) else (some (a0, false)))
set_option maxHeartbeats 8000000 in
set_option maxRecDepth 100000 in
theorem stringslite_CutPrefix.calls (a0 : ByteArray) (a1 : ByteArray) (r1 : ByteArray) (r2 : Bool) (w : World) (h : stringslite_CutPrefix.f a0 a1 = some (r1, r2)) :
 Calls Tryd.prog 25 #[.string a0, .string a1] w fun e w' => e = .returned (.tuple #[.string r1, .bool r2]) ∧ Drawn0 w w' := by
 have H := h; clear h; unfold stringslite_CutPrefix.f at H
 replace H := qb H; obtain ⟨t101, A3, H⟩ := H
 by_cases c4 : t101 = true
 ·subst c4
  have H1 : (if 0 ≤ (a1.size : Int) then (if (a1.size : Int) ≤ (a0.size : Int) then (some (a0.extract ((a1.size : Int) : Int).toNat a0.size, true)) else (none)) else (none)) = some (r1, r2) := by rw [zC rfl] at H; exact H
  clear H
  have H := H1
  clear H1
  by_cases c5 : 0 ≤ (a1.size : Int)
  ·rw [zC c5] at H
   have c5b0 := eq_true c5
   have c5b1 := zF c5
   clear c5
   by_cases c6 : (a1.size : Int) ≤ (a0.size : Int)
   ·rw [zC c6] at H
    have c6b0 := eq_true c6
    have c6b1 := zF c6
    clear c6
    simp only [Option.some.injEq, Prod.mk.injEq] at H
    obtain ⟨rfl, rfl⟩ := H
    go_enter Tryd.func25, Tryd.ntmps25
    go_wp2_with (first | ((with_reducible refine gate_callee (f := 32) rfl ?_); refine goesL_ (some 8) rfl rfl Tryd.func32 (by kernel_rfl) rfl #[.string a0, .string a1] rfl qL ?_; (with_reducible refine (stringslite_HasPrefix.calls a0 a1 true _ A3.out).mono ?_); rintro e w' ⟨rfl, ⟨nd, rfl⟩⟩; refine ⟨_, rfl, ?_⟩))
    go_ret2
    exact ⟨by first | rfl | (simp; done) | (simp [*]; done), qD⟩
   ·rw [zD c6] at H
    exact absurd H (by simp)
  ·rw [zD c5] at H
   exact absurd H (by simp)
 ·replace c4 := Bool.eq_false_iff.mpr c4
  subst c4
  have H1 : (some (a0, false)) = some (r1, r2) := by rw [zD (show ¬ (false = true) by decide)] at H; exact H
  clear H
  have H := H1
  clear H1
  simp only [Option.some.injEq, Prod.mk.injEq] at H
  obtain ⟨rfl, rfl⟩ := H
  go_enter Tryd.func25, Tryd.ntmps25
  go_wp2_with (first | ((with_reducible refine gate_callee (f := 32) rfl ?_); refine goesL_ (some 8) rfl rfl Tryd.func32 (by kernel_rfl) rfl #[.string a0, .string a1] rfl qL ?_; (with_reducible refine (stringslite_HasPrefix.calls a0 a1 false _ A3.out).mono ?_); rintro e w' ⟨rfl, ⟨nd, rfl⟩⟩; refine ⟨_, rfl, ?_⟩))
  go_ret2
  exact ⟨by first | rfl | (simp; done) | (simp [*]; done), qD⟩

def strings_CutPrefix.f (a0 : ByteArray) (a1 : ByteArray) : Option (ByteArray × Bool) := (stringslite_CutPrefix.f a0 a1).bind fun bt102 => (some (bt102.1, bt102.2))
set_option maxHeartbeats 8000000 in
set_option maxRecDepth 100000 in
theorem strings_CutPrefix.calls (a0 : ByteArray) (a1 : ByteArray) (r1 : ByteArray) (r2 : Bool) (w : World) (h : strings_CutPrefix.f a0 a1 = some (r1, r2)) :
 Calls Tryd.prog 13 #[.string a0, .string a1] w fun e w' => e = .returned (.tuple #[.string r1, .bool r2]) ∧ Drawn0 w w' := by
 have H := h; clear h; unfold strings_CutPrefix.f at H
 replace H := Option.bind_eq_some_iff.mp H
 obtain ⟨⟨t102, t103⟩, A30, H⟩ := H
 replace H : (some (t102, t103)) = some (r1, r2) := H
 have A3 := zA A30
 clear A30
 simp only [Option.some.injEq, Prod.mk.injEq] at H
 obtain ⟨rfl, rfl⟩ := H
 go_enter Tryd.func13, Tryd.ntmps13
 go_wp2_with (first | ((with_reducible refine gate_callee (f := 25) rfl ?_); refine goesL_ (some 8) rfl rfl Tryd.func25 (by kernel_rfl) rfl #[.string a0, .string a1] rfl qL ?_; (with_reducible refine (stringslite_CutPrefix.calls a0 a1 t102 t103 _ A3.out).mono ?_); rintro e w' ⟨rfl, ⟨nd, rfl⟩⟩; refine ⟨_, rfl, ?_⟩))
 go_ret2
 exact ⟨by first | rfl | (simp; done) | (simp [*]; done), qD⟩
end Go.Proofs.YtmojmnhaabonpaaDoor.Q
namespace Go.Proofs.YtmojmnhaabonpaaDoor.Q
open Go.RowKit Go.Shelf Go.Proofs.YtmojmnhaabonpaaDoor.Plain Go.Proofs.YtmojmnhaabonpaaDoorW.PrintWords Go.Proofs.YtmojmnhaabonpaaDoorW.PrintLast Go.Proofs.YtmojmnhaabonpaaDoorW.PrintMore
set_option linter.unusedVariables false
set_option linter.unusedSimpArgs false
def okS : ByteArray := ⟨#[111, 107]⟩
def errorS : ByteArray := ⟨#[101, 114, 114, 111, 114]⟩
def statsS : ByteArray := ⟨#[115, 116, 97, 116, 115]⟩
def missS : ByteArray := ⟨#[109, 105, 115, 115]⟩
theorem missL : missS.toList = [109, 105, 115, 115] := by rw [toList_data]; rfl
def codeS : ByteArray := ⟨#[99, 111, 100, 101, 10]⟩
def noS : ByteArray := ⟨#[]⟩
def heardOf (s : ByteArray) : Int × Int × Int × Int × ByteArray × Int :=
 match numbersOf s okS 1 with
 | some ys => (1, ys.getD 0 0, 0, 0, noS, 0)
 | none => match numbersOf s errorS 2 with
  | some ys => (4, ys.getD 0 0, ys.getD 1 0, 0, noS, 0)
  | none => match numbersOf s statsS 3 with
   | some ys => (5, ys.getD 0 0, ys.getD 1 0, ys.getD 2 0, noS, 0)
   | none => (0, 0, 0, 0, noS, 210)
def ask_Hear.f (a0 : ByteArray) : Option (Int × Int × Int × Int × ByteArray × Int) :=
 (strings_CutPrefix.f a0 codeS).bind fun t => if t.2 = true then some (2, 0, 0, 0, t.1, 0) else if a0.toList = missS.toList then some (3, 0, 0, 0, noS, 0) else if a0.size < 4294967281 then some (heardOf a0) else none
structure HearSt (w0 w : World) (gr ga gb gc : Nat) (xa xb xc : Int) : Prop where
 hr : w.heap[gr]? = some (.cells #[.int .i64 0, .int .i64 0, .int .i64 0, .int .i64 0, .string noS] 23 (0, 0))
 ha : w.heap[ga]? = some (.cells #[.int .i64 xa] 3 (0, 0))
 hb : w.heap[gb]? = some (.cells #[.int .i64 xb] 3 (0, 0))
 hc : w.heap[gc]? = some (.cells #[.int .i64 xc] 3 (0, 0))
 hB : Below w0.heap.size w0 w
 ne : ga ≠ gb ∧ ga ≠ gc ∧ gb ≠ gc
 ge : w0.heap.size ≤ gr ∧ w0.heap.size ≤ ga ∧ w0.heap.size ≤ gb ∧ w0.heap.size ≤ gc
theorem HearSt.below {w0 w w1 : World} {gr ga gb gc : Nat} {xa xb xc : Int} (h : HearSt w0 w gr ga gb gc xa xb xc) (hb : Below w.heap.size w w1) : HearSt w0 w1 gr ga gb gc xa xb xc :=
 ⟨blk_below h.hr hb, blk_below h.ha hb, blk_below h.hb hb, blk_below h.hc hb, below_step h.hB hb, h.ne, h.ge⟩
theorem num1 {w0 w : World} {gr ga gb gc : Nat} {xa xb xc : Int} (h : HearSt w0 w gr ga gb gc xa xb xc) (s wd : ByteArray) (hL : LaidW w0) (hs : s.size < 4294967281) (gt : Nat) (ht : w.heap[gt]? = some (.cells #[.pointer (some ⟨ga, 0, none⟩)] 47 (0, 0))) :
 Calls Tryd.prog 14 #[.string s, .string wd, .slice (some ⟨gt, 0, none⟩) 1 1] w fun e w' => ∃ (b : Bool) (ya : Int), e = .returned (.bool b) ∧ HearSt w0 w' gr ga gb gc ya xb xc ∧ numbersOf s wd 1 = if b then some [ya] else none := by
 have hbx : Boxes w [ga] [xa] := ⟨rfl, fun i g hg => by
  match i, hg with
  | 0, hg => obtain rfl := zI hg; exact ⟨_, rfl, h.ha⟩
  | i + 1, hg => simp at hg⟩
 refine (ask_numbers.calls s wd 1 (by omega) (by omega) [ga] rfl (by have := h.ne; simp; try omega) gt [xa] w0 w hL hs h.hB hbx (by have := h.ge; simp; omega) ht).mono ?_
 rintro e w' ⟨b, ys, rfl, hy, hn, hb, hk⟩
 obtain ⟨ya, rfl⟩ : ∃ ya, ys = [ya] := by
  match ys, hy.1 with
  | [ya], _ => exact ⟨ya, rfl⟩
 obtain ⟨_, e0, k0⟩ := hy.2 0 ga rfl
 obtain rfl := zI e0
 refine ⟨b, ya, rfl, ⟨blk_kept h.hr hk (fun hm => ?_), k0, blk_kept h.hb hk (by have := h.ne; simp; omega), blk_kept h.hc hk (by have := h.ne; simp; omega), hb, h.ne, h.ge⟩, hn⟩
 obtain ⟨i, hi⟩ := List.getElem?_of_mem hm
 obtain ⟨x, _, hx⟩ := hbx.2 i _ hi
 have := h.hr.symm.trans hx
 simp at this
theorem num2 {w0 w : World} {gr ga gb gc : Nat} {xa xb xc : Int} (h : HearSt w0 w gr ga gb gc xa xb xc) (s wd : ByteArray) (hL : LaidW w0) (hs : s.size < 4294967281) (gt : Nat) (ht : w.heap[gt]? = some (.cells #[.pointer (some ⟨ga, 0, none⟩), .pointer (some ⟨gb, 0, none⟩)] 47 (0, 0))) :
 Calls Tryd.prog 14 #[.string s, .string wd, .slice (some ⟨gt, 0, none⟩) 2 2] w fun e w' => ∃ (b : Bool) (ya yb : Int), e = .returned (.bool b) ∧ HearSt w0 w' gr ga gb gc ya yb xc ∧ numbersOf s wd 2 = if b then some [ya, yb] else none := by
 have hbx : Boxes w [ga, gb] [xa, xb] := ⟨rfl, fun i g hg => by
  match i, hg with
  | 0, hg => obtain rfl := zI hg; exact ⟨_, rfl, h.ha⟩
  | 1, hg => obtain rfl := zI hg; exact ⟨_, rfl, h.hb⟩
  | i + 2, hg => simp at hg⟩
 refine (ask_numbers.calls s wd 2 (by omega) (by omega) [ga, gb] rfl (by have := h.ne; simp; try omega) gt [xa, xb] w0 w hL hs h.hB hbx (by have := h.ge; simp; omega) ht).mono ?_
 rintro e w' ⟨b, ys, rfl, hy, hn, hb, hk⟩
 obtain ⟨ya, yb, rfl⟩ : ∃ ya yb, ys = [ya, yb] := by
  match ys, hy.1 with
  | [ya, yb], _ => exact ⟨ya, yb, rfl⟩
 obtain ⟨_, e0, k0⟩ := hy.2 0 ga rfl
 obtain rfl := zI e0
 obtain ⟨_, e1, k1⟩ := hy.2 1 gb rfl
 obtain rfl := zI e1
 refine ⟨b, ya, yb, rfl, ⟨blk_kept h.hr hk (fun hm => ?_), k0, k1, blk_kept h.hc hk (by have := h.ne; simp; omega), hb, h.ne, h.ge⟩, hn⟩
 obtain ⟨i, hi⟩ := List.getElem?_of_mem hm
 obtain ⟨x, _, hx⟩ := hbx.2 i _ hi
 have := h.hr.symm.trans hx
 simp at this
theorem num3 {w0 w : World} {gr ga gb gc : Nat} {xa xb xc : Int} (h : HearSt w0 w gr ga gb gc xa xb xc) (s wd : ByteArray) (hL : LaidW w0) (hs : s.size < 4294967281) (gt : Nat) (ht : w.heap[gt]? = some (.cells #[.pointer (some ⟨ga, 0, none⟩), .pointer (some ⟨gb, 0, none⟩), .pointer (some ⟨gc, 0, none⟩)] 47 (0, 0))) :
 Calls Tryd.prog 14 #[.string s, .string wd, .slice (some ⟨gt, 0, none⟩) 3 3] w fun e w' => ∃ (b : Bool) (ya yb yc : Int), e = .returned (.bool b) ∧ HearSt w0 w' gr ga gb gc ya yb yc ∧ numbersOf s wd 3 = if b then some [ya, yb, yc] else none := by
 have hbx : Boxes w [ga, gb, gc] [xa, xb, xc] := ⟨rfl, fun i g hg => by
  match i, hg with
  | 0, hg => obtain rfl := zI hg; exact ⟨_, rfl, h.ha⟩
  | 1, hg => obtain rfl := zI hg; exact ⟨_, rfl, h.hb⟩
  | 2, hg => obtain rfl := zI hg; exact ⟨_, rfl, h.hc⟩
  | i + 3, hg => simp at hg⟩
 refine (ask_numbers.calls s wd 3 (by omega) (by omega) [ga, gb, gc] rfl (by have := h.ne; simp; try omega) gt [xa, xb, xc] w0 w hL hs h.hB hbx (by have := h.ge; simp; omega) ht).mono ?_
 rintro e w' ⟨b, ys, rfl, hy, hn, hb, hk⟩
 obtain ⟨ya, yb, yc, rfl⟩ : ∃ ya yb yc, ys = [ya, yb, yc] := by
  match ys, hy.1 with
  | [ya, yb, yc], _ => exact ⟨ya, yb, yc, rfl⟩
 obtain ⟨_, e0, k0⟩ := hy.2 0 ga rfl
 obtain rfl := zI e0
 obtain ⟨_, e1, k1⟩ := hy.2 1 gb rfl
 obtain rfl := zI e1
 obtain ⟨_, e2, k2⟩ := hy.2 2 gc rfl
 obtain rfl := zI e2
 refine ⟨b, ya, yb, yc, rfl, ⟨blk_kept h.hr hk (fun hm => ?_), k0, k1, k2, hb, h.ne, h.ge⟩, hn⟩
 obtain ⟨i, hi⟩ := List.getElem?_of_mem hm
 obtain ⟨x, _, hx⟩ := hbx.2 i _ hi
 have := h.hr.symm.trans hx
 simp at this
theorem reply_put {w0 w : World} {gr : Nat} {v0 v1 v2 v3 v4 : Value} (hr : w.heap[gr]? = some (.cells #[v0, v1, v2, v3, v4] 23 (0, 0))) (hB : Below w0.heap.size w0 w) (hg : w0.heap.size ≤ gr) (k a b c : Int) (t : ByteArray) :
 (((((w.setCell ⟨gr, 0, none⟩ (.int .i64 k)).setCell ⟨gr, 1, none⟩ (.int .i64 a)).setCell ⟨gr, 2, none⟩ (.int .i64 b)).setCell ⟨gr, 3, none⟩ (.int .i64 c)).setCell ⟨gr, 4, none⟩ (.string t)).heap[gr]? = some (.cells #[.int .i64 k, .int .i64 a, .int .i64 b, .int .i64 c, .string t] 23 (0, 0)) ∧
 Below w0.heap.size w0 (((((w.setCell ⟨gr, 0, none⟩ (.int .i64 k)).setCell ⟨gr, 1, none⟩ (.int .i64 a)).setCell ⟨gr, 2, none⟩ (.int .i64 b)).setCell ⟨gr, 3, none⟩ (.int .i64 c)).setCell ⟨gr, 4, none⟩ (.string t)) :=
 ⟨blk_put (blk_put (blk_put (blk_put (blk_put hr 0 _ rfl) 1 _ rfl) 2 _ rfl) 3 _ rfl) 4 _ rfl, below_set (below_set (below_set (below_set (below_set hB hg) hg) hg) hg) hg⟩
set_option maxHeartbeats 8000000 in
set_option maxRecDepth 100000 in
theorem ask_Hear.calls (a0 : ByteArray) (r1 r2 r3 r4 : Int) (r5 : ByteArray) (r6 : Int) (w : World) (hL : LaidW w) (h : ask_Hear.f a0 = some (r1, r2, r3, r4, r5, r6)) :
 Calls Tryd.prog 6 #[.string a0] w fun e w' => e = .returned (.tuple #[.agg #[.int .i64 r1, .int .i64 r2, .int .i64 r3, .int .i64 r4, .string r5], .int .i64 r6]) ∧ Below w.heap.size w w' := by
 have HL := zA hL
 have HB := zA (Below.refl w.heap.size w)
 have H := h
 clear hL h
 unfold ask_Hear.f at H
 replace H := qb H; obtain ⟨⟨t, is⟩, A1, H⟩ := H
 dsimp only at H
 have huR := Tryd.underlying23
 by_cases c1 : is = true
 ·subst c1
  rw [zC rfl] at H
  simp only [Option.some.injEq, Prod.mk.injEq] at H
  obtain ⟨rfl, rfl, rfl, rfl, rfl, rfl⟩ := H
  go_enter Tryd.func6, Tryd.ntmps6
  go_wp2_with (first
   | ((with_reducible refine gate_dst (N := 2) rfl ?_); refine box_event (by rfl) (N := 2) (by rfl) (cs := #[.int .i64 0, .int .i64 0, .int .i64 0, .int .i64 0, .string noS]) (t := 23) ?hr ?_; (case hr => go_simp <;> rfl); intro gr hg w1 hbox hb; have BR := zA hbox; have GR := zA (Nat.le_of_eq hg.symm); replace HB := zA (below_step HB.out hb); clear hb hbox hg)
   | (go_at_call 13; refine (strings_CutPrefix.calls a0 codeS t true _ A1.out).mono ?_; rintro e w2 ⟨rfl, hd⟩; replace BR := zA (blk_below BR.out hd.below); replace HB := zA (below_step HB.out hd.below); clear hd; have z1 := bk5 BR.out))
  have hp := reply_put BR.out HB.out GR.out 2 0 0 0 t
  refine bodyPost_ret (results_ct rfl _ _ gr 23 #[.int .i64 2, .int .i64 0, .int .i64 0, .int .i64 0, .string t] (0, 0) _ rfl hp.1 huR rfl (by kernel_rfl)) rfl ?_
  exact ⟨rfl, hp.2⟩
 obtain rfl : is = false := by simpa using c1
 rw [zD (by simp)] at H
 by_cases c2 : a0.toList = missS.toList
 ·rw [zC c2] at H
  simp only [Option.some.injEq, Prod.mk.injEq] at H
  obtain ⟨rfl, rfl, rfl, rfl, rfl, rfl⟩ := H
  have c2a : (a0.toList == [109, 105, 115, 115]) = true := by rw [← missL]; exact (qe c2).1
  clear c1 c2
  go_enter Tryd.func6, Tryd.ntmps6
  go_wp2_with (first
   | ((with_reducible refine gate_dst (N := 2) rfl ?_); refine box_event (by rfl) (N := 2) (by rfl) (cs := #[.int .i64 0, .int .i64 0, .int .i64 0, .int .i64 0, .string noS]) (t := 23) ?hr ?_; (case hr => go_simp <;> rfl); intro gr hg w1 hbox hb; have BR := zA hbox; have GR := zA (Nat.le_of_eq hg.symm); replace HB := zA (below_step HB.out hb); clear hb hbox hg)
   | (go_at_call 13; refine (strings_CutPrefix.calls a0 codeS t false _ A1.out).mono ?_; rintro e w2 ⟨rfl, hd⟩; replace BR := zA (blk_below BR.out hd.below); replace HB := zA (below_step HB.out hd.below); clear hd)
   | ((with_reducible refine gate_dst (N := 6) rfl ?_); refine box_event (by rfl) (N := 6) (by rfl) (cs := #[.int .i64 0]) (t := 3) ?hr ?_; (case hr => go_simp <;> rfl); intro ga hg w3 hbox hb; replace BR := zA (blk_below BR.out hb); have BA := zA hbox; have GA := zA (show w.heap.size ≤ ga by rw [hg]; exact below_size HB.out); replace HB := zA (below_step HB.out hb); clear hb hbox hg)
   | ((with_reducible refine gate_dst (N := 7) rfl ?_); refine box_event (by rfl) (N := 7) (by rfl) (cs := #[.int .i64 0]) (t := 3) ?hr ?_; (case hr => go_simp <;> rfl); intro gb hg w4 hbox hb; have hne : ga ≠ gb := (by have := blk_lt BA.out; omega); have NAB := zA hne; replace BR := zA (blk_below BR.out hb); replace BA := zA (blk_below BA.out hb); have BB := zA hbox; have GB := zA (show w.heap.size ≤ gb by rw [hg]; exact below_size HB.out); replace HB := zA (below_step HB.out hb); clear hb hbox hg hne)
   | ((with_reducible refine gate_dst (N := 8) rfl ?_); refine box_event (by rfl) (N := 8) (by rfl) (cs := #[.int .i64 0]) (t := 3) ?hr ?_; (case hr => go_simp <;> rfl); intro gc hg w5 hbox hb; have hn1 : ga ≠ gc := (by have := blk_lt BA.out; omega); have hn2 : gb ≠ gc := (by have := blk_lt BB.out; omega); have HS := zA (show HearSt w w5 gr ga gb gc 0 0 0 from ⟨blk_below BR.out hb, blk_below BA.out hb, blk_below BB.out hb, hbox, below_step HB.out hb, ⟨NAB.out, hn1, hn2⟩, ⟨GR.out, GA.out, GB.out, by rw [hg]; exact below_size HB.out⟩⟩); have z1 := bk5 HS.out.hr; clear hb hbox hg hn1 hn2 BR BA BB GA GB HB NAB))
  have hp := reply_put HS.out.hr HS.out.hB HS.out.ge.1 3 0 0 0 noS
  refine bodyPost_ret (results_ct rfl _ _ gr 23 #[.int .i64 3, .int .i64 0, .int .i64 0, .int .i64 0, .string noS] (0, 0) _ rfl hp.1 huR rfl (by kernel_rfl)) rfl ?_
  exact ⟨rfl, hp.2⟩
 rw [zD c2] at H
 by_cases c3 : a0.size < 4294967281
 case neg => rw [zD c3] at H; cases H
 rw [zC c3] at H
 have hsz := c3
 have c2a : (a0.toList == [109, 105, 115, 115]) = false := by rw [← missL]; exact (qn c2).1
 replace H := zI H
 unfold heardOf at H
 clear c1 c2 c3
 cases N1_ : numbersOf a0 okS 1 with
 | some ys =>
  rw [N1_] at H
  simp only [Prod.mk.injEq] at H
  obtain ⟨rfl, rfl, rfl, rfl, rfl, rfl⟩ := H
  have N1 := zA N1_
  clear N1_
  go_enter Tryd.func6, Tryd.ntmps6
  go_wp2_with (first
   | ((with_reducible refine gate_dst (N := 2) rfl ?_); refine box_event (by rfl) (N := 2) (by rfl) (cs := #[.int .i64 0, .int .i64 0, .int .i64 0, .int .i64 0, .string noS]) (t := 23) ?hr ?_; (case hr => go_simp <;> rfl); intro gr hg w1 hbox hb; have BR := zA hbox; have GR := zA (Nat.le_of_eq hg.symm); replace HB := zA (below_step HB.out hb); clear hb hbox hg)
   | (go_at_call 13; refine (strings_CutPrefix.calls a0 codeS t false _ A1.out).mono ?_; rintro e w2 ⟨rfl, hd⟩; replace BR := zA (blk_below BR.out hd.below); replace HB := zA (below_step HB.out hd.below); clear hd)
   | ((with_reducible refine gate_dst (N := 6) rfl ?_); refine box_event (by rfl) (N := 6) (by rfl) (cs := #[.int .i64 0]) (t := 3) ?hr ?_; (case hr => go_simp <;> rfl); intro ga hg w3 hbox hb; replace BR := zA (blk_below BR.out hb); have BA := zA hbox; have GA := zA (show w.heap.size ≤ ga by rw [hg]; exact below_size HB.out); replace HB := zA (below_step HB.out hb); clear hb hbox hg)
   | ((with_reducible refine gate_dst (N := 7) rfl ?_); refine box_event (by rfl) (N := 7) (by rfl) (cs := #[.int .i64 0]) (t := 3) ?hr ?_; (case hr => go_simp <;> rfl); intro gb hg w4 hbox hb; have hne : ga ≠ gb := (by have := blk_lt BA.out; omega); have NAB := zA hne; replace BR := zA (blk_below BR.out hb); replace BA := zA (blk_below BA.out hb); have BB := zA hbox; have GB := zA (show w.heap.size ≤ gb by rw [hg]; exact below_size HB.out); replace HB := zA (below_step HB.out hb); clear hb hbox hg hne)
   | ((with_reducible refine gate_dst (N := 8) rfl ?_); refine box_event (by rfl) (N := 8) (by rfl) (cs := #[.int .i64 0]) (t := 3) ?hr ?_; (case hr => go_simp <;> rfl); intro gc hg w5 hbox hb; have hn1 : ga ≠ gc := (by have := blk_lt BA.out; omega); have hn2 : gb ≠ gc := (by have := blk_lt BB.out; omega); have HS := zA (show HearSt w w5 gr ga gb gc 0 0 0 from ⟨blk_below BR.out hb, blk_below BA.out hb, blk_below BB.out hb, hbox, below_step HB.out hb, ⟨NAB.out, hn1, hn2⟩, ⟨GR.out, GA.out, GB.out, by rw [hg]; exact below_size HB.out⟩⟩); clear hb hbox hg hn1 hn2 BR BA BB GA GB HB NAB)
   | (go_at_call 14; (with_reducible refine (num1 (HS.out.below (below_alloc (Below.refl _ _) _)) a0 (⟨#[111, 107]⟩ : ByteArray) HL.out hsz _ (blk_new _ _)).mono ?_); rintro e wn1 ⟨b, ya, rfl, hs, hn⟩; replace hn : numbersOf a0 okS 1 = if b then some [ya] else none := hn; obtain rfl : b = true := (by cases b; (rw [N1.out] at hn; cases hn); rfl); replace hn := zI (N1.out.symm.trans hn); have HN := zA hn; replace HS := zA hs; clear hs hn; have z1 := bk5 HS.out.hr; have z2 := bk1 HS.out.ha; have z3 := bk1 HS.out.hb; have z4 := bk1 HS.out.hc))
  have hp := reply_put HS.out.hr HS.out.hB HS.out.ge.1 1 ya 0 0 noS
  refine bodyPost_ret (results_ct rfl _ _ gr 23 #[.int .i64 1, .int .i64 ya, .int .i64 0, .int .i64 0, .string noS] (0, 0) _ rfl hp.1 huR rfl (by kernel_rfl)) rfl ?_
  exact ⟨by rw [HN.out]; rfl, hp.2⟩
 | none =>
 rw [N1_] at H
 simp only at H
 have N1 := zA N1_
 clear N1_
 cases N2_ : numbersOf a0 errorS 2 with
 | some ys =>
  rw [N2_] at H
  simp only [Prod.mk.injEq] at H
  obtain ⟨rfl, rfl, rfl, rfl, rfl, rfl⟩ := H
  have N2 := zA N2_
  clear N2_
  go_enter Tryd.func6, Tryd.ntmps6
  go_wp2_with (first
   | ((with_reducible refine gate_dst (N := 2) rfl ?_); refine box_event (by rfl) (N := 2) (by rfl) (cs := #[.int .i64 0, .int .i64 0, .int .i64 0, .int .i64 0, .string noS]) (t := 23) ?hr ?_; (case hr => go_simp <;> rfl); intro gr hg w1 hbox hb; have BR := zA hbox; have GR := zA (Nat.le_of_eq hg.symm); replace HB := zA (below_step HB.out hb); clear hb hbox hg)
   | (go_at_call 13; refine (strings_CutPrefix.calls a0 codeS t false _ A1.out).mono ?_; rintro e w2 ⟨rfl, hd⟩; replace BR := zA (blk_below BR.out hd.below); replace HB := zA (below_step HB.out hd.below); clear hd)
   | ((with_reducible refine gate_dst (N := 6) rfl ?_); refine box_event (by rfl) (N := 6) (by rfl) (cs := #[.int .i64 0]) (t := 3) ?hr ?_; (case hr => go_simp <;> rfl); intro ga hg w3 hbox hb; replace BR := zA (blk_below BR.out hb); have BA := zA hbox; have GA := zA (show w.heap.size ≤ ga by rw [hg]; exact below_size HB.out); replace HB := zA (below_step HB.out hb); clear hb hbox hg)
   | ((with_reducible refine gate_dst (N := 7) rfl ?_); refine box_event (by rfl) (N := 7) (by rfl) (cs := #[.int .i64 0]) (t := 3) ?hr ?_; (case hr => go_simp <;> rfl); intro gb hg w4 hbox hb; have hne : ga ≠ gb := (by have := blk_lt BA.out; omega); have NAB := zA hne; replace BR := zA (blk_below BR.out hb); replace BA := zA (blk_below BA.out hb); have BB := zA hbox; have GB := zA (show w.heap.size ≤ gb by rw [hg]; exact below_size HB.out); replace HB := zA (below_step HB.out hb); clear hb hbox hg hne)
   | ((with_reducible refine gate_dst (N := 8) rfl ?_); refine box_event (by rfl) (N := 8) (by rfl) (cs := #[.int .i64 0]) (t := 3) ?hr ?_; (case hr => go_simp <;> rfl); intro gc hg w5 hbox hb; have hn1 : ga ≠ gc := (by have := blk_lt BA.out; omega); have hn2 : gb ≠ gc := (by have := blk_lt BB.out; omega); have HS := zA (show HearSt w w5 gr ga gb gc 0 0 0 from ⟨blk_below BR.out hb, blk_below BA.out hb, blk_below BB.out hb, hbox, below_step HB.out hb, ⟨NAB.out, hn1, hn2⟩, ⟨GR.out, GA.out, GB.out, by rw [hg]; exact below_size HB.out⟩⟩); clear hb hbox hg hn1 hn2 BR BA BB GA GB HB NAB)
   | (go_at_call 14; (with_reducible refine (num1 (HS.out.below (below_alloc (Below.refl _ _) _)) a0 (⟨#[111, 107]⟩ : ByteArray) HL.out hsz _ (blk_new _ _)).mono ?_); rintro e wn1 ⟨b, ya, rfl, hs, hn⟩; replace hn : numbersOf a0 okS 1 = if b then some [ya] else none := hn; obtain rfl : b = false := (by cases b; rfl; (rw [N1.out] at hn; cases hn)); replace HS := zA hs; clear hs hn)
   | (go_at_call 14; (with_reducible refine (num2 (HS.out.below (below_alloc (Below.refl _ _) _)) a0 (⟨#[101, 114, 114, 111, 114]⟩ : ByteArray) HL.out hsz _ (blk_new _ _)).mono ?_); rintro e wn2 ⟨b, ya, yb, rfl, hs, hn⟩; replace hn : numbersOf a0 errorS 2 = if b then some [ya, yb] else none := hn; obtain rfl : b = true := (by cases b; (rw [N2.out] at hn; cases hn); rfl); replace hn := zI (N2.out.symm.trans hn); have HN := zA hn; replace HS := zA hs; clear hs hn; have z1 := bk5 HS.out.hr; have z2 := bk1 HS.out.ha; have z3 := bk1 HS.out.hb; have z4 := bk1 HS.out.hc))
  have hp := reply_put HS.out.hr HS.out.hB HS.out.ge.1 4 ya yb 0 noS
  refine bodyPost_ret (results_ct rfl _ _ gr 23 #[.int .i64 4, .int .i64 ya, .int .i64 yb, .int .i64 0, .string noS] (0, 0) _ rfl hp.1 huR rfl (by kernel_rfl)) rfl ?_
  exact ⟨by rw [HN.out]; rfl, hp.2⟩
 | none =>
 rw [N2_] at H
 simp only at H
 have N2 := zA N2_
 clear N2_
 cases N3_ : numbersOf a0 statsS 3 with
 | some ys =>
  rw [N3_] at H
  simp only [Prod.mk.injEq] at H
  obtain ⟨rfl, rfl, rfl, rfl, rfl, rfl⟩ := H
  have N3 := zA N3_
  clear N3_
  go_enter Tryd.func6, Tryd.ntmps6
  go_wp2_with (first
   | ((with_reducible refine gate_dst (N := 2) rfl ?_); refine box_event (by rfl) (N := 2) (by rfl) (cs := #[.int .i64 0, .int .i64 0, .int .i64 0, .int .i64 0, .string noS]) (t := 23) ?hr ?_; (case hr => go_simp <;> rfl); intro gr hg w1 hbox hb; have BR := zA hbox; have GR := zA (Nat.le_of_eq hg.symm); replace HB := zA (below_step HB.out hb); clear hb hbox hg)
   | (go_at_call 13; refine (strings_CutPrefix.calls a0 codeS t false _ A1.out).mono ?_; rintro e w2 ⟨rfl, hd⟩; replace BR := zA (blk_below BR.out hd.below); replace HB := zA (below_step HB.out hd.below); clear hd)
   | ((with_reducible refine gate_dst (N := 6) rfl ?_); refine box_event (by rfl) (N := 6) (by rfl) (cs := #[.int .i64 0]) (t := 3) ?hr ?_; (case hr => go_simp <;> rfl); intro ga hg w3 hbox hb; replace BR := zA (blk_below BR.out hb); have BA := zA hbox; have GA := zA (show w.heap.size ≤ ga by rw [hg]; exact below_size HB.out); replace HB := zA (below_step HB.out hb); clear hb hbox hg)
   | ((with_reducible refine gate_dst (N := 7) rfl ?_); refine box_event (by rfl) (N := 7) (by rfl) (cs := #[.int .i64 0]) (t := 3) ?hr ?_; (case hr => go_simp <;> rfl); intro gb hg w4 hbox hb; have hne : ga ≠ gb := (by have := blk_lt BA.out; omega); have NAB := zA hne; replace BR := zA (blk_below BR.out hb); replace BA := zA (blk_below BA.out hb); have BB := zA hbox; have GB := zA (show w.heap.size ≤ gb by rw [hg]; exact below_size HB.out); replace HB := zA (below_step HB.out hb); clear hb hbox hg hne)
   | ((with_reducible refine gate_dst (N := 8) rfl ?_); refine box_event (by rfl) (N := 8) (by rfl) (cs := #[.int .i64 0]) (t := 3) ?hr ?_; (case hr => go_simp <;> rfl); intro gc hg w5 hbox hb; have hn1 : ga ≠ gc := (by have := blk_lt BA.out; omega); have hn2 : gb ≠ gc := (by have := blk_lt BB.out; omega); have HS := zA (show HearSt w w5 gr ga gb gc 0 0 0 from ⟨blk_below BR.out hb, blk_below BA.out hb, blk_below BB.out hb, hbox, below_step HB.out hb, ⟨NAB.out, hn1, hn2⟩, ⟨GR.out, GA.out, GB.out, by rw [hg]; exact below_size HB.out⟩⟩); clear hb hbox hg hn1 hn2 BR BA BB GA GB HB NAB)
   | (go_at_call 14; (with_reducible refine (num1 (HS.out.below (below_alloc (Below.refl _ _) _)) a0 (⟨#[111, 107]⟩ : ByteArray) HL.out hsz _ (blk_new _ _)).mono ?_); rintro e wn1 ⟨b, ya, rfl, hs, hn⟩; replace hn : numbersOf a0 okS 1 = if b then some [ya] else none := hn; obtain rfl : b = false := (by cases b; rfl; (rw [N1.out] at hn; cases hn)); replace HS := zA hs; clear hs hn)
   | (go_at_call 14; (with_reducible refine (num2 (HS.out.below (below_alloc (Below.refl _ _) _)) a0 (⟨#[101, 114, 114, 111, 114]⟩ : ByteArray) HL.out hsz _ (blk_new _ _)).mono ?_); rintro e wn2 ⟨b, ya, yb, rfl, hs, hn⟩; replace hn : numbersOf a0 errorS 2 = if b then some [ya, yb] else none := hn; obtain rfl : b = false := (by cases b; rfl; (rw [N2.out] at hn; cases hn)); replace HS := zA hs; clear hs hn)
   | (go_at_call 14; (with_reducible refine (num3 (HS.out.below (below_alloc (Below.refl _ _) _)) a0 (⟨#[115, 116, 97, 116, 115]⟩ : ByteArray) HL.out hsz _ (blk_new _ _)).mono ?_); rintro e wn3 ⟨b, ya, yb, yc, rfl, hs, hn⟩; replace hn : numbersOf a0 statsS 3 = if b then some [ya, yb, yc] else none := hn; obtain rfl : b = true := (by cases b; (rw [N3.out] at hn; cases hn); rfl); replace hn := zI (N3.out.symm.trans hn); have HN := zA hn; replace HS := zA hs; clear hs hn; have z1 := bk5 HS.out.hr; have z2 := bk1 HS.out.ha; have z3 := bk1 HS.out.hb; have z4 := bk1 HS.out.hc))
  have hp := reply_put HS.out.hr HS.out.hB HS.out.ge.1 5 ya yb yc noS
  refine bodyPost_ret (results_ct rfl _ _ gr 23 #[.int .i64 5, .int .i64 ya, .int .i64 yb, .int .i64 yc, .string noS] (0, 0) _ rfl hp.1 huR rfl (by kernel_rfl)) rfl ?_
  exact ⟨by rw [HN.out]; rfl, hp.2⟩
 | none =>
 rw [N3_] at H
 simp only at H
 have N3 := zA N3_
 clear N3_
 simp only [Prod.mk.injEq] at H
 obtain ⟨rfl, rfl, rfl, rfl, rfl, rfl⟩ := H
 go_enter Tryd.func6, Tryd.ntmps6
 go_wp2_with (first
  | ((with_reducible refine gate_dst (N := 2) rfl ?_); refine box_event (by rfl) (N := 2) (by rfl) (cs := #[.int .i64 0, .int .i64 0, .int .i64 0, .int .i64 0, .string noS]) (t := 23) ?hr ?_; (case hr => go_simp <;> rfl); intro gr hg w1 hbox hb; have BR := zA hbox; have GR := zA (Nat.le_of_eq hg.symm); replace HB := zA (below_step HB.out hb); clear hb hbox hg)
  | (go_at_call 13; refine (strings_CutPrefix.calls a0 codeS t false _ A1.out).mono ?_; rintro e w2 ⟨rfl, hd⟩; replace BR := zA (blk_below BR.out hd.below); replace HB := zA (below_step HB.out hd.below); clear hd)
  | ((with_reducible refine gate_dst (N := 6) rfl ?_); refine box_event (by rfl) (N := 6) (by rfl) (cs := #[.int .i64 0]) (t := 3) ?hr ?_; (case hr => go_simp <;> rfl); intro ga hg w3 hbox hb; replace BR := zA (blk_below BR.out hb); have BA := zA hbox; have GA := zA (show w.heap.size ≤ ga by rw [hg]; exact below_size HB.out); replace HB := zA (below_step HB.out hb); clear hb hbox hg)
  | ((with_reducible refine gate_dst (N := 7) rfl ?_); refine box_event (by rfl) (N := 7) (by rfl) (cs := #[.int .i64 0]) (t := 3) ?hr ?_; (case hr => go_simp <;> rfl); intro gb hg w4 hbox hb; have hne : ga ≠ gb := (by have := blk_lt BA.out; omega); have NAB := zA hne; replace BR := zA (blk_below BR.out hb); replace BA := zA (blk_below BA.out hb); have BB := zA hbox; have GB := zA (show w.heap.size ≤ gb by rw [hg]; exact below_size HB.out); replace HB := zA (below_step HB.out hb); clear hb hbox hg hne)
  | ((with_reducible refine gate_dst (N := 8) rfl ?_); refine box_event (by rfl) (N := 8) (by rfl) (cs := #[.int .i64 0]) (t := 3) ?hr ?_; (case hr => go_simp <;> rfl); intro gc hg w5 hbox hb; have hn1 : ga ≠ gc := (by have := blk_lt BA.out; omega); have hn2 : gb ≠ gc := (by have := blk_lt BB.out; omega); have HS := zA (show HearSt w w5 gr ga gb gc 0 0 0 from ⟨blk_below BR.out hb, blk_below BA.out hb, blk_below BB.out hb, hbox, below_step HB.out hb, ⟨NAB.out, hn1, hn2⟩, ⟨GR.out, GA.out, GB.out, by rw [hg]; exact below_size HB.out⟩⟩); clear hb hbox hg hn1 hn2 BR BA BB GA GB HB NAB)
  | (go_at_call 14; (with_reducible refine (num1 (HS.out.below (below_alloc (Below.refl _ _) _)) a0 (⟨#[111, 107]⟩ : ByteArray) HL.out hsz _ (blk_new _ _)).mono ?_); rintro e wn1 ⟨b, ya, rfl, hs, hn⟩; replace hn : numbersOf a0 okS 1 = if b then some [ya] else none := hn; obtain rfl : b = false := (by cases b; rfl; (rw [N1.out] at hn; cases hn)); replace HS := zA hs; clear hs hn)
  | (go_at_call 14; (with_reducible refine (num2 (HS.out.below (below_alloc (Below.refl _ _) _)) a0 (⟨#[101, 114, 114, 111, 114]⟩ : ByteArray) HL.out hsz _ (blk_new _ _)).mono ?_); rintro e wn2 ⟨b, ya, yb, rfl, hs, hn⟩; replace hn : numbersOf a0 errorS 2 = if b then some [ya, yb] else none := hn; obtain rfl : b = false := (by cases b; rfl; (rw [N2.out] at hn; cases hn)); replace HS := zA hs; clear hs hn)
  | (go_at_call 14; (with_reducible refine (num3 (HS.out.below (below_alloc (Below.refl _ _) _)) a0 (⟨#[115, 116, 97, 116, 115]⟩ : ByteArray) HL.out hsz _ (blk_new _ _)).mono ?_); rintro e wn3 ⟨b, ya, yb, yc, rfl, hs, hn⟩; replace hn : numbersOf a0 statsS 3 = if b then some [ya, yb, yc] else none := hn; obtain rfl : b = false := (by cases b; rfl; (rw [N3.out] at hn; cases hn)); replace HS := zA hs; clear hs hn; have z1 := bk5 HS.out.hr))
 have hp := reply_put HS.out.hr HS.out.hB HS.out.ge.1 0 0 0 0 noS
 refine bodyPost_ret (results_ct rfl _ _ gr 23 #[.int .i64 0, .int .i64 0, .int .i64 0, .int .i64 0, .string noS] (0, 0) _ rfl hp.1 huR rfl (by kernel_rfl)) rfl ?_
 exact ⟨by rfl, hp.2⟩
end Go.Proofs.YtmojmnhaabonpaaDoor.Q
namespace Go.Proofs.YtmojmnhaabonpaaDoor.Q
open Go.RowKit Go.Proofs.YtmojmnhaabonpaaDoorW.PrintWords Go.Proofs.YtmojmnhaabonpaaDoorW.PrintLast Go.Proofs.YtmojmnhaabonpaaDoorW.PrintMore
attribute [local go_sem] max2_int min2_int max_two min_two max_three min_three max_four min_four
set_option linter.unusedVariables false
set_option linter.unusedSimpArgs false
theorem eqAaskReply (d : Nat) (w : World) (x0 y0 : Int) (x1 y1 : Int) (x2 y2 : Int) (x3 y3 : Int) (x4 y4 : ByteArray) :
 (Op.equalIn (d + 2) 23 (.agg #[.int .i64 x0, .int .i64 x1, .int .i64 x2, .int .i64 x3, .string x4]) (.agg #[.int .i64 y0, .int .i64 y1, .int .i64 y2, .int .i64 y3, .string y4])).run Tryd.prog w = .ok (x0 == y0 && (x1 == y1 && (x2 == y2 && (x3 == y3 && (x4.toList == y4.toList))))) w := by
 refine eqA_of Tryd.underlying23 (by kernel_rfl) ?_
 refine eqf_cons (by rfl) (by go_simp; rfl) (by go_simp; rfl) (by go_simp) ?_
 refine eqf_cons (by rfl) (by go_simp; rfl) (by go_simp; rfl) (by go_simp) ?_
 refine eqf_cons (by rfl) (by go_simp; rfl) (by go_simp; rfl) (by go_simp) ?_
 refine eqf_cons (by rfl) (by go_simp; rfl) (by go_simp; rfl) (by go_simp) ?_
 exact eqf_last (by rfl) (by go_simp; rfl) (by go_simp; rfl) (by go_simp)

def ask_line.l0 : Nat → ByteArray → List Int → Int → Int → Option (ByteArray × Int)
 | 0, _, _, _, _ => none
 | k + 1, x0, x8, x9, x10 => if x10 < x9 then (if 0 ≤ x10 then (if x10 < (x8.length : Int) then (if (rd x8 x10) < 0 then (some ((⟨#[]⟩ : ByteArray), 210)) else (if (rd x8 x10) ≥ 2147483648 then (some ((⟨#[]⟩ : ByteArray), 210)) else ((strconv_Itoa_28.f (rd x8 x10)).bind fun t179 => (if 1 + t179.size ≤ 9223372036854775807 then (if x0.size + ((⟨#[32]⟩ : ByteArray) ++ t179).size ≤ 9223372036854775807 then (ask_line.l0 k (x0 ++ ((⟨#[32]⟩ : ByteArray) ++ t179)) x8 x9 (wrap64 (x10 + 1))) else (none)) else (none))))) else (none)) else (none)) else (some (x0, 0))
def ask_line.f (k : Nat) (a0 : ByteArray) (l1 : List Int) : Option (ByteArray × Int) := ask_line.l0 k a0 l1 (l1.length : Int) 0
set_option maxHeartbeats 8000000 in
set_option maxRecDepth 100000 in
theorem ask_line.calls (k : Nat) (a0 : ByteArray) (A1 : Option Addr) (c1 : Nat) (l1 : List Int) (r1 : ByteArray) (r2 : Int) (w : World) (hL : LaidW w) (hr1 : Kd.C (Kd.int .i64) w A1 l1.length l1) (hc1 : l1.length ≤ c1) (h : ask_line.f k a0 l1 = some (r1, r2)) :
 Calls Tryd.prog 17 #[.string a0, .slice A1 l1.length c1] w fun e w' => e = .returned (.tuple #[.string r1, .int .i64 r2]) ∧ Below w.heap.size w w' := by
 have HR1 := zA hr1
 have HC1 := zA hc1
 clear hr1 hc1
 have HB := zA (Below.refl w.heap.size w)
 have HLd := zA hL
 clear hL
 have H := h; clear h; unfold ask_line.f at H
 have H' := zA H
 clear H
 go_enter Tryd.func17, Tryd.ntmps17
 go_wp2
 go_loopg [0, 10] k (fun kq v0 v10 w' => ∃ (x0_1 : ByteArray) (x10_1 : Int), v0 = .string x0_1 ∧ v10 = .int .i64 x10_1 ∧ Aside0 (ask_line.l0 kq x0_1 l1 (l1.length : Int) x10_1 = some (r1, r2)) ∧ Aside0 (kq ≤ k) ∧ Aside0 (Below w.heap.size w w'))
 case atStart => exact ⟨(a0), (0), qT, qT, H', ⟨Nat.le_refl _⟩, ⟨qB⟩⟩
 case round =>
  clear H'
  try clear c1; try clear p2
  obtain ⟨x0_1, x10_1, rfl, rfl, HA, HK1, HB⟩ := hrel
  cases gk with
  | zero => exact absurd HA.out (by simp [ask_line.l0])
  | succ k1 =>
   have H := HA.out
   clear HA
   simp only [ask_line.l0] at H
   by_cases c3 : x10_1 < (l1.length : Int)
   ·rw [zC c3] at H
    have c3b0 := zF c3
    clear c3
    by_cases c4 : 0 ≤ x10_1
    ·rw [zC c4] at H
     have c4b0 := zF c4
     clear c4
     by_cases c5 : x10_1 < (l1.length : Int)
     ·rw [zC c5] at H
      have c5b0 := zF c5
      clear c5
      by_cases c6 : (rd l1 x10_1) < 0
      ·rw [zC c6] at H
       have c6b0 := zF c6
       clear c6
       simp only [Option.some.injEq, Prod.mk.injEq] at H
       obtain ⟨rfl, rfl⟩ := H
       have p178 : 0 ≤ (x10_1 : Int) := zB qA
       have q178 : x10_1 < (l1.length : Int) := zB qA
       obtain ⟨ad178, e178, hx178_0⟩ := Kd.at_int HR1.out x10_1 p178 q178
       cases e178
       replace hx178_0 := (HB.out.cell (zE w _ hx178_0)).trans hx178_0
       replace p178 := eq_true p178
       replace q178 := eq_true q178
       go_wp2
       go_ret2
       exact ⟨qE, qB⟩
      ·rw [zD c6] at H
       have c6b0 := zG c6
       clear c6
       by_cases c7 : (rd l1 x10_1) ≥ 2147483648
       ·rw [zC c7] at H
        have c7b0 : decide (2147483648 ≤ (rd l1 x10_1)) = true := zF c7
        clear c7
        simp only [Option.some.injEq, Prod.mk.injEq] at H
        obtain ⟨rfl, rfl⟩ := H
        have p178 : 0 ≤ (x10_1 : Int) := zB qA
        have q178 : x10_1 < (l1.length : Int) := zB qA
        obtain ⟨ad178, e178, hx178_0⟩ := Kd.at_int HR1.out x10_1 p178 q178
        cases e178
        replace hx178_0 := (HB.out.cell (zE w _ hx178_0)).trans hx178_0
        replace p178 := eq_true p178
        replace q178 := eq_true q178
        go_wp2
        go_ret2
        exact ⟨qE, qB⟩
       ·rw [zD c7] at H
        have c7b0 : decide (2147483648 ≤ (rd l1 x10_1)) = false := zG c7
        clear c7
        replace H := qb H; obtain ⟨t179, A8, H⟩ := H
        by_cases c9 : 1 + t179.size ≤ 9223372036854775807
        ·rw [zC c9] at H
         have c9b0 := eq_true c9
         have c9b1 := zF c9
         try have c9b2 : (9223372036854775807 < 1 + t179.size) = False := eq_false (Nat.not_lt.2 c9)
         by_cases c10 : x0_1.size + ((⟨#[32]⟩ : ByteArray) ++ t179).size ≤ 9223372036854775807
         ·rw [zC c10] at H
          have c10b0 := eq_true c10
          have c10b1 := zF c10
          try have c10b2 : (9223372036854775807 < x0_1.size + ((⟨#[32]⟩ : ByteArray) ++ t179).size) = False := eq_false (Nat.not_lt.2 c10)
          have H' := zA H
          clear H
          have p178 : 0 ≤ (x10_1 : Int) := zB qA
          have q178 : x10_1 < (l1.length : Int) := zB qA
          obtain ⟨ad178, e178, hx178_0⟩ := Kd.at_int HR1.out x10_1 p178 q178
          cases e178
          replace hx178_0 := (HB.out.cell (zE w _ hx178_0)).trans hx178_0
          replace p178 := eq_true p178
          replace q178 := eq_true q178
          go_wp2_with (first | ((with_reducible refine gate_callee (f := 28) rfl ?_); refine goesL_ (some 22) rfl rfl Tryd.func28 (by kernel_rfl) rfl #[.int .i64 (rd l1 x10_1)] rfl qL ?_; (with_reducible refine (strconv_Itoa_28.calls (rd l1 x10_1) t179 _ A8.out (hL := ?side99)).mono ?_); (case side99 => exact LaidW.below HLd.out qB); rintro e w11 ⟨rfl, hb⟩; refine ⟨_, rfl, ?_⟩; replace HB := qH hb; (try clear hb)))
          go_roundg k1
          case measure => have := HK1.out; omega
          case rel => exact ⟨(x0_1 ++ ((⟨#[32]⟩ : ByteArray) ++ t179)), (wrap64 (x10_1 + 1)), qT, qT, H', ⟨by have := HK1.out; omega⟩, ⟨qB⟩⟩
         ·rw [zD c10] at H
          exact absurd H (by simp)
        ·rw [zD c9] at H
         exact absurd H (by simp)
     ·rw [zD c5] at H
      exact absurd H (by simp)
    ·rw [zD c4] at H
     exact absurd H (by simp)
   ·rw [zD c3] at H
    have c3b0 := zG c3
    clear c3
    simp only [Option.some.injEq, Prod.mk.injEq] at H
    obtain ⟨rfl, rfl⟩ := H
    go_wp2
    go_ret2
    exact ⟨qE, qB⟩

def ask_Tell.f (k : Nat) (a0_0 : Int) (a0_1 : Int) (a0_2 : Int) (a0_3 : Int) (a0_4 : ByteArray) : Option (ByteArray × Int) := if a0_0 = 1 then ((ask_line.f k (⟨#[111, 107]⟩ : ByteArray) (([a0_1] : List Int))).bind fun bt184 => (some (bt184.1, bt184.2))) else (if a0_0 = 2 then (if 5 + a0_4.size ≤ 9223372036854775807 then (some ((⟨#[99, 111, 100, 101, 10]⟩ : ByteArray) ++ a0_4, 0)) else (none)) else (if a0_0 = 3 then ((ask_line.f k (⟨#[109, 105, 115, 115]⟩ : ByteArray) ([] : List Int)).bind fun bt186 => (some (bt186.1, bt186.2))) else (if a0_0 = 4 then ((ask_line.f k (⟨#[101, 114, 114, 111, 114]⟩ : ByteArray) (([a0_1, a0_2] : List Int))).bind fun bt191 => (some (bt191.1, bt191.2))) else (if a0_0 = 5 then ((ask_line.f k (⟨#[115, 116, 97, 116, 115]⟩ : ByteArray) (([a0_1, a0_2, a0_3] : List Int))).bind fun bt196 => (some (bt196.1, bt196.2))) else (some ((⟨#[]⟩ : ByteArray), 210))))))
set_option maxHeartbeats 8000000 in
set_option maxRecDepth 100000 in
theorem ask_Tell.calls (k : Nat) (a0_0 : Int) (a0_1 : Int) (a0_2 : Int) (a0_3 : Int) (a0_4 : ByteArray) (r1 : ByteArray) (r2 : Int) (w : World) (hL : LaidW w) (h : ask_Tell.f k a0_0 a0_1 a0_2 a0_3 a0_4 = some (r1, r2)) :
 Calls Tryd.prog 8 #[.agg #[.int .i64 a0_0, .int .i64 a0_1, .int .i64 a0_2, .int .i64 a0_3, .string a0_4]] w fun e w' => e = .returned (.tuple #[.string r1, .int .i64 r2]) ∧ Below w.heap.size w w' := by
 have hu23 := Tryd.underlying23
 have HB := zA (Below.refl w.heap.size w)
 have HLd := zA hL
 clear hL
 have H := h; clear h; unfold ask_Tell.f at H
 by_cases c2 : a0_0 = 1
 ·rw [zC c2] at H
  obtain ⟨c2b0, c2b1⟩ := qe c2; clear c2
  obtain ⟨y181, hy181⟩ : ∃ y_ : List Int, y_ = (([a0_1] : List Int)) := ⟨_, rfl⟩
  replace H : ((ask_line.f k (⟨#[111, 107]⟩ : ByteArray) y181).bind fun bt184 => (some (bt184.1, bt184.2))) = some (r1, r2) := by (try rw [hy181]); first | with_reducible exact H | exact (zJ _ _).symm.trans H | exact H
  have Ny181 := zA hy181
  clear hy181
  replace H := Option.bind_eq_some_iff.mp H
  obtain ⟨⟨t184, t185⟩, A30, H⟩ := H
  replace H : (some (t184, t185)) = some (r1, r2) := H
  have A3 := zA A30
  clear A30
  simp only [Option.some.injEq, Prod.mk.injEq] at H
  obtain ⟨rfl, rfl⟩ := H
  go_enter Tryd.func8, Tryd.ntmps8
  go_wp2_with (first | ((with_reducible refine gate_dst (N := 1) rfl ?_); refine box_event (by rfl) (N := 1) (by rfl) (cs := #[.int .i64 a0_0, .int .i64 a0_1, .int .i64 a0_2, .int .i64 a0_3, .string a0_4]) (t := 23) ?hr ?_; (case hr => go_simp <;> rfl); intro gb180 hg w4 hbox hb; have BK180 := zA (hbox); have GW180 := qG hg; have GE180 := GW180; replace HB := qH hb; clear hb hbox hg; have z5_0 := bk5 BK180.out) | ((with_reducible refine gate_dst (N := 10) rfl ?_); refine Kd.R_lit (Kd.int .i64) _ 3 (by rfl) (N := 10) (by rfl) (xs := ([a0_1] : List Int)) (inner := [.int .i64 a0_1]) (ok := fun _ => True) (okp := fun _ => True) ?hr ?hp (fun _ hk => hk) trivial (Below.refl _ _) (Nat.le_refl _) (by simp) ?_; (case hr => go_simp <;> rfl); (case hp => exact (Reps.one (show Kd.M (Kd.int .i64) _ _ _ a0_1 [.int .i64 a0_1] from rfl) (Reps.none _ _))); intro v182 w6 ho7 hb hg_ hnew_; clear hg_ hnew_; (first | rw [← Ny181.out] at ho7 | (simp only [Int.reduceToNat] at ho7; rw [← Ny181.out] at ho7)); have HO183 := zA (Kd.R_lower ho7 (below_size qB)); replace BK180 := qW BK180 hb; replace HB := qH hb; clear hb ho7; obtain ⟨Ao8, co8, eo8⟩ := Kd.R_slice HO183.out; subst eo8) | ((with_reducible refine gate_callee (f := 17) rfl ?_); refine goesL_ (some 11) rfl rfl Tryd.func17 (by kernel_rfl) rfl #[.string (⟨#[111, 107]⟩ : ByteArray), .slice Ao8 y181.length co8] rfl qL ?_; (with_reducible refine (ask_line.calls k (⟨#[111, 107]⟩ : ByteArray) _ _ y181 t184 t185 _ ?side1 ?side2 A3.out (hL := ?side99)).mono ?_); (case side1 => repeat (first | exact (Kd.R_reads' HO183.out).2.2 | (with_reducible refine Kd.C_alloc ?_ _) | (with_reducible refine Kd.C_drewN ?_ _) | (with_reducible refine Kd.C_drew ?_))); (case side2 => exact (Kd.R_reads' HO183.out).2.1); (case side99 => exact LaidW.below HLd.out qB); rintro e w9 ⟨rfl, hb⟩; refine ⟨_, rfl, ?_⟩; replace HO183 := zA (Kd.R_below (qR HO183.out) hb); replace BK180 := qW BK180 hb; replace HB := qH hb; (try clear hb)))
  go_ret2
  exact ⟨qE, qB⟩
 ·rw [zD c2] at H
  obtain ⟨c2b0, c2b1⟩ := qn c2
  by_cases c10 : a0_0 = 2
  ·rw [zC c10] at H
   obtain ⟨c10b0, c10b1⟩ := qe c10; clear c10
   by_cases c11 : 5 + a0_4.size ≤ 9223372036854775807
   ·rw [zC c11] at H
    have c11b0 := eq_true c11
    have c11b1 := zF c11
    try have c11b2 : (9223372036854775807 < 5 + a0_4.size) = False := eq_false (Nat.not_lt.2 c11)
    simp only [Option.some.injEq, Prod.mk.injEq] at H
    obtain ⟨rfl, rfl⟩ := H
    go_enter Tryd.func8, Tryd.ntmps8
    go_wp2_with (first | ((with_reducible refine gate_dst (N := 1) rfl ?_); refine box_event (by rfl) (N := 1) (by rfl) (cs := #[.int .i64 a0_0, .int .i64 a0_1, .int .i64 a0_2, .int .i64 a0_3, .string a0_4]) (t := 23) ?hr ?_; (case hr => go_simp <;> rfl); intro gb180 hg w12 hbox hb; have BK180 := zA (hbox); have GW180 := qG hg; have GE180 := GW180; replace HB := qH hb; clear hb hbox hg; have z13_0 := bk5 BK180.out))
    go_ret2
    exact ⟨qE, qB⟩
   ·rw [zD c11] at H
    exact absurd H (by simp)
  ·rw [zD c10] at H
   obtain ⟨c10b0, c10b1⟩ := qn c10
   by_cases c14 : a0_0 = 3
   ·rw [zC c14] at H
    obtain ⟨c14b0, c14b1⟩ := qe c14; clear c14
    replace H := Option.bind_eq_some_iff.mp H
    obtain ⟨⟨t186, t187⟩, A150, H⟩ := H
    replace H : (some (t186, t187)) = some (r1, r2) := H
    have A15 := zA A150
    clear A150
    simp only [Option.some.injEq, Prod.mk.injEq] at H
    obtain ⟨rfl, rfl⟩ := H
    go_enter Tryd.func8, Tryd.ntmps8
    go_wp2_with (first | ((with_reducible refine gate_dst (N := 1) rfl ?_); refine box_event (by rfl) (N := 1) (by rfl) (cs := #[.int .i64 a0_0, .int .i64 a0_1, .int .i64 a0_2, .int .i64 a0_3, .string a0_4]) (t := 23) ?hr ?_; (case hr => go_simp <;> rfl); intro gb180 hg w16 hbox hb; have BK180 := zA (hbox); have GW180 := qG hg; have GE180 := GW180; replace HB := qH hb; clear hb hbox hg; have z17_0 := bk5 BK180.out) | ((with_reducible refine gate_callee (f := 17) rfl ?_); refine goesL_ (some 21) rfl rfl Tryd.func17 (by kernel_rfl) rfl #[.string (⟨#[109, 105, 115, 115]⟩ : ByteArray), .slice none 0 0] rfl qL ?_; (refine (ask_line.calls k (⟨#[109, 105, 115, 115]⟩ : ByteArray) _ _ ([] : List Int) t186 t187 _ ?side1 ?side2 A15.out (hL := ?side99)).mono ?_); (case side1 => exact Kd.C_nil _ _); (case side2 => exact Nat.le_refl _); (case side99 => exact LaidW.below HLd.out qB); rintro e w18 ⟨rfl, hb⟩; refine ⟨_, rfl, ?_⟩; replace BK180 := qW BK180 hb; replace HB := qH hb; (try clear hb)))
    go_ret2
    exact ⟨qE, qB⟩
   ·rw [zD c14] at H
    obtain ⟨c14b0, c14b1⟩ := qn c14
    by_cases c19 : a0_0 = 4
    ·rw [zC c19] at H
     obtain ⟨c19b0, c19b1⟩ := qe c19; clear c19
     obtain ⟨y188, hy188⟩ : ∃ y_ : List Int, y_ = (([a0_1, a0_2] : List Int)) := ⟨_, rfl⟩
     replace H : ((ask_line.f k (⟨#[101, 114, 114, 111, 114]⟩ : ByteArray) y188).bind fun bt191 => (some (bt191.1, bt191.2))) = some (r1, r2) := by (try rw [hy188]); first | with_reducible exact H | exact (zJ _ _).symm.trans H | exact H
     have Ny188 := zA hy188
     clear hy188
     replace H := Option.bind_eq_some_iff.mp H
     obtain ⟨⟨t191, t192⟩, A200, H⟩ := H
     replace H : (some (t191, t192)) = some (r1, r2) := H
     have A20 := zA A200
     clear A200
     simp only [Option.some.injEq, Prod.mk.injEq] at H
     obtain ⟨rfl, rfl⟩ := H
     go_enter Tryd.func8, Tryd.ntmps8
     go_wp2_with (first | ((with_reducible refine gate_dst (N := 1) rfl ?_); refine box_event (by rfl) (N := 1) (by rfl) (cs := #[.int .i64 a0_0, .int .i64 a0_1, .int .i64 a0_2, .int .i64 a0_3, .string a0_4]) (t := 23) ?hr ?_; (case hr => go_simp <;> rfl); intro gb180 hg w21 hbox hb; have BK180 := zA (hbox); have GW180 := qG hg; have GE180 := GW180; replace HB := qH hb; clear hb hbox hg; have z22_0 := bk5 BK180.out) | ((with_reducible refine gate_dst (N := 30) rfl ?_); refine Kd.R_lit (Kd.int .i64) _ 3 (by rfl) (N := 30) (by rfl) (xs := ([a0_1, a0_2] : List Int)) (inner := [.int .i64 a0_1, .int .i64 a0_2]) (ok := fun _ => True) (okp := fun _ => True) ?hr ?hp (fun _ hk => hk) trivial (Below.refl _ _) (Nat.le_refl _) (by simp) ?_; (case hr => go_simp <;> rfl); (case hp => exact (Reps.one (show Kd.M (Kd.int .i64) _ _ _ a0_1 [.int .i64 a0_1] from rfl) (Reps.one (show Kd.M (Kd.int .i64) _ _ _ a0_2 [.int .i64 a0_2] from rfl) (Reps.none _ _)))); intro v189 w23 ho24 hb hg_ hnew_; clear hg_ hnew_; (first | rw [← Ny188.out] at ho24 | (simp only [Int.reduceToNat] at ho24; rw [← Ny188.out] at ho24)); have HO190 := zA (Kd.R_lower ho24 (below_size qB)); replace BK180 := qW BK180 hb; replace HB := qH hb; clear hb ho24; obtain ⟨Ao25, co25, eo25⟩ := Kd.R_slice HO190.out; subst eo25) | ((with_reducible refine gate_callee (f := 17) rfl ?_); refine goesL_ (some 31) rfl rfl Tryd.func17 (by kernel_rfl) rfl #[.string (⟨#[101, 114, 114, 111, 114]⟩ : ByteArray), .slice Ao25 y188.length co25] rfl qL ?_; (with_reducible refine (ask_line.calls k (⟨#[101, 114, 114, 111, 114]⟩ : ByteArray) _ _ y188 t191 t192 _ ?side1 ?side2 A20.out (hL := ?side99)).mono ?_); (case side1 => repeat (first | exact (Kd.R_reads' HO190.out).2.2 | (with_reducible refine Kd.C_alloc ?_ _) | (with_reducible refine Kd.C_drewN ?_ _) | (with_reducible refine Kd.C_drew ?_))); (case side2 => exact (Kd.R_reads' HO190.out).2.1); (case side99 => exact LaidW.below HLd.out qB); rintro e w26 ⟨rfl, hb⟩; refine ⟨_, rfl, ?_⟩; replace HO190 := zA (Kd.R_below (qR HO190.out) hb); replace BK180 := qW BK180 hb; replace HB := qH hb; (try clear hb)))
     go_ret2
     exact ⟨qE, qB⟩
    ·rw [zD c19] at H
     obtain ⟨c19b0, c19b1⟩ := qn c19
     by_cases c27 : a0_0 = 5
     ·rw [zC c27] at H
      obtain ⟨c27b0, c27b1⟩ := qe c27; clear c27
      obtain ⟨y193, hy193⟩ : ∃ y_ : List Int, y_ = (([a0_1, a0_2, a0_3] : List Int)) := ⟨_, rfl⟩
      replace H : ((ask_line.f k (⟨#[115, 116, 97, 116, 115]⟩ : ByteArray) y193).bind fun bt196 => (some (bt196.1, bt196.2))) = some (r1, r2) := by (try rw [hy193]); first | with_reducible exact H | exact (zJ _ _).symm.trans H | exact H
      have Ny193 := zA hy193
      clear hy193
      replace H := Option.bind_eq_some_iff.mp H
      obtain ⟨⟨t196, t197⟩, A280, H⟩ := H
      replace H : (some (t196, t197)) = some (r1, r2) := H
      have A28 := zA A280
      clear A280
      simp only [Option.some.injEq, Prod.mk.injEq] at H
      obtain ⟨rfl, rfl⟩ := H
      go_enter Tryd.func8, Tryd.ntmps8
      go_wp2_with (first | ((with_reducible refine gate_dst (N := 1) rfl ?_); refine box_event (by rfl) (N := 1) (by rfl) (cs := #[.int .i64 a0_0, .int .i64 a0_1, .int .i64 a0_2, .int .i64 a0_3, .string a0_4]) (t := 23) ?hr ?_; (case hr => go_simp <;> rfl); intro gb180 hg w29 hbox hb; have BK180 := zA (hbox); have GW180 := qG hg; have GE180 := GW180; replace HB := qH hb; clear hb hbox hg; have z30_0 := bk5 BK180.out) | ((with_reducible refine gate_dst (N := 42) rfl ?_); refine Kd.R_lit (Kd.int .i64) _ 3 (by rfl) (N := 42) (by rfl) (xs := ([a0_1, a0_2, a0_3] : List Int)) (inner := [.int .i64 a0_1, .int .i64 a0_2, .int .i64 a0_3]) (ok := fun _ => True) (okp := fun _ => True) ?hr ?hp (fun _ hk => hk) trivial (Below.refl _ _) (Nat.le_refl _) (by simp) ?_; (case hr => go_simp <;> rfl); (case hp => exact (Reps.one (show Kd.M (Kd.int .i64) _ _ _ a0_1 [.int .i64 a0_1] from rfl) (Reps.one (show Kd.M (Kd.int .i64) _ _ _ a0_2 [.int .i64 a0_2] from rfl) (Reps.one (show Kd.M (Kd.int .i64) _ _ _ a0_3 [.int .i64 a0_3] from rfl) (Reps.none _ _))))); intro v194 w31 ho32 hb hg_ hnew_; clear hg_ hnew_; (first | rw [← Ny193.out] at ho32 | (simp only [Int.reduceToNat] at ho32; rw [← Ny193.out] at ho32)); have HO195 := zA (Kd.R_lower ho32 (below_size qB)); replace BK180 := qW BK180 hb; replace HB := qH hb; clear hb ho32; obtain ⟨Ao33, co33, eo33⟩ := Kd.R_slice HO195.out; subst eo33) | ((with_reducible refine gate_callee (f := 17) rfl ?_); refine goesL_ (some 43) rfl rfl Tryd.func17 (by kernel_rfl) rfl #[.string (⟨#[115, 116, 97, 116, 115]⟩ : ByteArray), .slice Ao33 y193.length co33] rfl qL ?_; (with_reducible refine (ask_line.calls k (⟨#[115, 116, 97, 116, 115]⟩ : ByteArray) _ _ y193 t196 t197 _ ?side1 ?side2 A28.out (hL := ?side99)).mono ?_); (case side1 => repeat (first | exact (Kd.R_reads' HO195.out).2.2 | (with_reducible refine Kd.C_alloc ?_ _) | (with_reducible refine Kd.C_drewN ?_ _) | (with_reducible refine Kd.C_drew ?_))); (case side2 => exact (Kd.R_reads' HO195.out).2.1); (case side99 => exact LaidW.below HLd.out qB); rintro e w34 ⟨rfl, hb⟩; refine ⟨_, rfl, ?_⟩; replace HO195 := zA (Kd.R_below (qR HO195.out) hb); replace BK180 := qW BK180 hb; replace HB := qH hb; (try clear hb)))
      go_ret2
      exact ⟨qE, qB⟩
     ·rw [zD c27] at H
      obtain ⟨c27b0, c27b1⟩ := qn c27
      simp only [Option.some.injEq, Prod.mk.injEq] at H
      obtain ⟨rfl, rfl⟩ := H
      go_enter Tryd.func8, Tryd.ntmps8
      go_wp2_with (first | ((with_reducible refine gate_dst (N := 1) rfl ?_); refine box_event (by rfl) (N := 1) (by rfl) (cs := #[.int .i64 a0_0, .int .i64 a0_1, .int .i64 a0_2, .int .i64 a0_3, .string a0_4]) (t := 23) ?hr ?_; (case hr => go_simp <;> rfl); intro gb180 hg w35 hbox hb; have BK180 := zA (hbox); have GW180 := qG hg; have GE180 := GW180; replace HB := qH hb; clear hb hbox hg; have z36_0 := bk5 BK180.out))
      go_ret2
      exact ⟨qE, qB⟩

def cubbyref08_Digits.l0 : Nat → Int → ByteArray → Option (ByteArray)
 | 0, _, _ => none
 | k + 1, x0, x3 => if x0 > 9 then (if 0 ≤ (Int.tmod x0 10) then (if (Int.tmod x0 10) ≤ (wrap64 ((Int.tmod x0 10) + 1)) then (if (wrap64 ((Int.tmod x0 10) + 1)) ≤ 10 then (if ((⟨#[48, 49, 50, 51, 52, 53, 54, 55, 56, 57]⟩ : ByteArray).extract ((Int.tmod x0 10) : Int).toNat ((wrap64 ((Int.tmod x0 10) + 1)) : Int).toNat).size + x3.size ≤ 9223372036854775807 then (cubbyref08_Digits.l0 k (wrap64 (Int.tdiv x0 10)) (((⟨#[48, 49, 50, 51, 52, 53, 54, 55, 56, 57]⟩ : ByteArray).extract ((Int.tmod x0 10) : Int).toNat ((wrap64 ((Int.tmod x0 10) + 1)) : Int).toNat) ++ x3)) else (none)) else (none)) else (none)) else (none)) else (if 0 ≤ x0 then (if x0 ≤ (wrap64 (x0 + 1)) then (if (wrap64 (x0 + 1)) ≤ 10 then (if ((⟨#[48, 49, 50, 51, 52, 53, 54, 55, 56, 57]⟩ : ByteArray).extract (x0 : Int).toNat ((wrap64 (x0 + 1)) : Int).toNat).size + x3.size ≤ 9223372036854775807 then (some (((⟨#[48, 49, 50, 51, 52, 53, 54, 55, 56, 57]⟩ : ByteArray).extract (x0 : Int).toNat ((wrap64 (x0 + 1)) : Int).toNat) ++ x3)) else (none)) else (none)) else (none)) else (none))
def cubbyref08_Digits.f (k : Nat) (a0 : Int) : Option (ByteArray) := cubbyref08_Digits.l0 k a0 (⟨#[]⟩ : ByteArray)
set_option maxHeartbeats 8000000 in
set_option maxRecDepth 100000 in
theorem cubbyref08_Digits.calls (k : Nat) (a0 : Int) (r : ByteArray) (w : World) (h : cubbyref08_Digits.f k a0 = some r) :
 Calls Tryd.prog 19 #[.int .i64 a0] w fun e w' => e = .returned (.string r) ∧ Drawn0 w w' := by
 have H := h; clear h; unfold cubbyref08_Digits.f at H
 have H' := zA H
 clear H
 go_enter Tryd.func19, Tryd.ntmps19
 go_wp2
 go_loopg [0, 3] k (fun kq v0 v3 w' => ∃ (x0_1 : Int) (x3_1 : ByteArray), v0 = .int .i64 x0_1 ∧ v3 = .string x3_1 ∧ Aside0 (cubbyref08_Digits.l0 kq x0_1 x3_1 = some r) ∧ Aside0 (kq ≤ k) ∧ Drawn0 w w')
 case atStart => exact ⟨(a0), ((⟨#[]⟩ : ByteArray)), qT, qT, H', ⟨Nat.le_refl _⟩, qD⟩
 case round =>
  clear H'
  try clear c1
  obtain ⟨x0_1, x3_1, rfl, rfl, HA, HK1, ⟨m1, rfl⟩⟩ := hrel
  cases gk with
  | zero => exact absurd HA.out (by simp [cubbyref08_Digits.l0])
  | succ k1 =>
   have H := HA.out
   clear HA
   simp only [cubbyref08_Digits.l0] at H
   by_cases c2 : x0_1 > 9
   ·rw [zC c2] at H
    have c2b0 : decide (9 < x0_1) = true := zF c2
    clear c2
    obtain ⟨ji3, hji3⟩ : ∃ j_ : Int, (Int.tmod x0_1 10) = j_ := ⟨_, rfl⟩
    replace H : (if 0 ≤ (ji3) then (if (ji3) ≤ (wrap64 ((ji3) + 1)) then (if (wrap64 ((ji3) + 1)) ≤ 10 then (if ((⟨#[48, 49, 50, 51, 52, 53, 54, 55, 56, 57]⟩ : ByteArray).extract ((ji3) : Int).toNat ((wrap64 ((ji3) + 1)) : Int).toNat).size + x3_1.size ≤ 9223372036854775807 then (cubbyref08_Digits.l0 k1 (wrap64 (Int.tdiv x0_1 10)) (((⟨#[48, 49, 50, 51, 52, 53, 54, 55, 56, 57]⟩ : ByteArray).extract ((ji3) : Int).toNat ((wrap64 ((ji3) + 1)) : Int).toNat) ++ x3_1)) else (none)) else (none)) else (none)) else (none)) = some r := by first | (rw [hji3] at H; exact H) | (simp only [hji3] at H ⊢; exact H)
    by_cases c4 : 0 ≤ (ji3)
    ·rw [zC c4] at H
     have c4b0 := eq_true c4
     have c4b1 := zF c4
     clear c4
     by_cases c5 : (ji3) ≤ (wrap64 ((ji3) + 1))
     ·rw [zC c5] at H
      have c5b0 := eq_true c5
      have c5b1 := zF c5
      by_cases c6 : (wrap64 ((ji3) + 1)) ≤ 10
      ·rw [zC c6] at H
       have c6b0 := eq_true c6
       have c6b1 := zF c6
       by_cases c7 : ((⟨#[48, 49, 50, 51, 52, 53, 54, 55, 56, 57]⟩ : ByteArray).extract ((ji3) : Int).toNat ((wrap64 ((ji3) + 1)) : Int).toNat).size + x3_1.size ≤ 9223372036854775807
       ·rw [zC c7] at H
        have c7b0 := eq_true c7
        have c7b1 := zF c7
        try have c7b2 : (9223372036854775807 < ((⟨#[48, 49, 50, 51, 52, 53, 54, 55, 56, 57]⟩ : ByteArray).extract ((ji3) : Int).toNat ((wrap64 ((ji3) + 1)) : Int).toNat).size + x3_1.size) = False := eq_false (Nat.not_lt.2 c7)
        have H' := zA H
        clear H
        go_wp2
        go_roundg k1
        case measure => have := HK1.out; omega
        case rel => exact ⟨(wrap64 (Int.tdiv x0_1 10)), (((⟨#[48, 49, 50, 51, 52, 53, 54, 55, 56, 57]⟩ : ByteArray).extract ((ji3) : Int).toNat ((wrap64 ((ji3) + 1)) : Int).toNat) ++ x3_1), qT, (by first | rfl | (simp; done) | (simp only [← hji3] <;> (first | rfl | simp)) | (simp [*]; done)), H', ⟨by have := HK1.out; omega⟩, qD⟩
       ·rw [zD c7] at H
        exact absurd H (by simp)
      ·rw [zD c6] at H
       exact absurd H (by simp)
     ·rw [zD c5] at H
      exact absurd H (by simp)
    ·rw [zD c4] at H
     exact absurd H (by simp)
   ·rw [zD c2] at H
    have c2b0 : decide (9 < x0_1) = false := zG c2
    clear c2
    by_cases c8 : 0 ≤ x0_1
    ·rw [zC c8] at H
     have c8b0 := eq_true c8
     have c8b1 := zF c8
     clear c8
     by_cases c9 : x0_1 ≤ (wrap64 (x0_1 + 1))
     ·rw [zC c9] at H
      have c9b0 := eq_true c9
      have c9b1 := zF c9
      by_cases c10 : (wrap64 (x0_1 + 1)) ≤ 10
      ·rw [zC c10] at H
       have c10b0 := eq_true c10
       have c10b1 := zF c10
       by_cases c11 : ((⟨#[48, 49, 50, 51, 52, 53, 54, 55, 56, 57]⟩ : ByteArray).extract (x0_1 : Int).toNat ((wrap64 (x0_1 + 1)) : Int).toNat).size + x3_1.size ≤ 9223372036854775807
       ·rw [zC c11] at H
        have c11b0 := eq_true c11
        have c11b1 := zF c11
        try have c11b2 : (9223372036854775807 < ((⟨#[48, 49, 50, 51, 52, 53, 54, 55, 56, 57]⟩ : ByteArray).extract (x0_1 : Int).toNat ((wrap64 (x0_1 + 1)) : Int).toNat).size + x3_1.size) = False := eq_false (Nat.not_lt.2 c11)
        obtain rfl := zI H
        go_wp2
        go_ret
        exact ⟨by first | rfl | (simp; done) | (simp [*]; done), qD⟩
       ·rw [zD c11] at H
        exact absurd H (by simp)
      ·rw [zD c10] at H
       exact absurd H (by simp)
     ·rw [zD c9] at H
      exact absurd H (by simp)
    ·rw [zD c8] at H
     exact absurd H (by simp)

def cubbyref21_number.f (a0 : Int) : Option (Bool) := if a0 ≥ 0 then (some (decide (a0 < 2147483648))) else (some false)
set_option maxHeartbeats 8000000 in
set_option maxRecDepth 100000 in
theorem cubbyref21_number.calls (a0 : Int) (r : Bool) (w : World) (h : cubbyref21_number.f a0 = some r) :
 Calls Tryd.prog 18 #[.int .i64 a0] w fun e w' => e = .returned (.bool r) ∧ Drawn0 w w' := by
 have H := h; clear h; unfold cubbyref21_number.f at H
 by_cases c2 : a0 ≥ 0
 ·rw [zC c2] at H
  have c2b0 : decide (0 ≤ a0) = true := zF c2
  clear c2
  obtain rfl := zI H
  go_enter Tryd.func18, Tryd.ntmps18
  go_wp2
  go_ret
  exact ⟨by first | rfl | (simp; done) | (simp [*]; done), qD⟩
 ·rw [zD c2] at H
  have c2b0 : decide (0 ≤ a0) = false := zG c2
  clear c2
  obtain rfl := zI H
  go_enter Tryd.func18, Tryd.ntmps18
  go_wp2
  go_ret
  exact ⟨by first | rfl | (simp; done) | (simp [*]; done), qD⟩

mutual
def cubbyref21_Tell.j0 : Nat → Bool → Bool → Bool → Bool → Int → Int → Int → Int → ByteArray → Option (ByteArray × Int)
 | 0, _, _, _, _, _, _, _, _, _ => none
 | k + 1, x4, x5, x6, x16, x141000, x141001, x141002, x141003, x141004 => if x16 = true then ((cubbyref08_Digits.f k x141001).bind fun t144 => (if 3 + t144.size ≤ 9223372036854775807 then (some ((⟨#[111, 107, 32]⟩ : ByteArray) ++ t144, 0)) else (none))) else (if x141000 = 2 then (if 5 + x141004.size ≤ 9223372036854775807 then (some ((⟨#[99, 111, 100, 101, 10]⟩ : ByteArray) ++ x141004, 0)) else (none)) else (if x141000 = 3 then (some ((⟨#[109, 105, 115, 115]⟩ : ByteArray), 0)) else (if x141000 = 4 then (if x4 = true then (cubbyref21_Tell.j1 k x4 x5 x6 x5 x141000 x141001 x141002 x141003 x141004) else (cubbyref21_Tell.j1 k x4 x5 x6 false x141000 x141001 x141002 x141003 x141004)) else (cubbyref21_Tell.j1 k x4 x5 x6 false x141000 x141001 x141002 x141003 x141004))))
def cubbyref21_Tell.j1 : Nat → Bool → Bool → Bool → Bool → Int → Int → Int → Int → ByteArray → Option (ByteArray × Int)
 | 0, _, _, _, _, _, _, _, _, _ => none
 | k + 1, x4, x5, x6, x38, x141000, x141001, x141002, x141003, x141004 => if x38 = true then ((cubbyref08_Digits.f k x141001).bind fun t145 => (if 6 + t145.size ≤ 9223372036854775807 then (if ((⟨#[101, 114, 114, 111, 114, 32]⟩ : ByteArray) ++ t145).size + 1 ≤ 9223372036854775807 then ((cubbyref08_Digits.f k x141002).bind fun t146 => (if (((⟨#[101, 114, 114, 111, 114, 32]⟩ : ByteArray) ++ t145) ++ (⟨#[32]⟩ : ByteArray)).size + t146.size ≤ 9223372036854775807 then (some ((((⟨#[101, 114, 114, 111, 114, 32]⟩ : ByteArray) ++ t145) ++ (⟨#[32]⟩ : ByteArray)) ++ t146, 0)) else (none))) else (none)) else (none))) else (if x141000 = 5 then (if x4 = true then (if x5 = true then (cubbyref21_Tell.j2 k x6 x141000 x141001 x141002 x141003 x141004) else (cubbyref21_Tell.j2 k false x141000 x141001 x141002 x141003 x141004)) else (cubbyref21_Tell.j2 k false x141000 x141001 x141002 x141003 x141004)) else (cubbyref21_Tell.j2 k false x141000 x141001 x141002 x141003 x141004))
def cubbyref21_Tell.j2 : Nat → Bool → Int → Int → Int → Int → ByteArray → Option (ByteArray × Int)
 | 0, _, _, _, _, _, _ => none
 | k + 1, x57, x141000, x141001, x141002, x141003, x141004 => if x57 = true then ((cubbyref08_Digits.f k x141001).bind fun t147 => (if 6 + t147.size ≤ 9223372036854775807 then (if ((⟨#[115, 116, 97, 116, 115, 32]⟩ : ByteArray) ++ t147).size + 1 ≤ 9223372036854775807 then ((cubbyref08_Digits.f k x141002).bind fun t148 => (if (((⟨#[115, 116, 97, 116, 115, 32]⟩ : ByteArray) ++ t147) ++ (⟨#[32]⟩ : ByteArray)).size + t148.size ≤ 9223372036854775807 then (if ((((⟨#[115, 116, 97, 116, 115, 32]⟩ : ByteArray) ++ t147) ++ (⟨#[32]⟩ : ByteArray)) ++ t148).size + 1 ≤ 9223372036854775807 then ((cubbyref08_Digits.f k x141003).bind fun t149 => (if (((((⟨#[115, 116, 97, 116, 115, 32]⟩ : ByteArray) ++ t147) ++ (⟨#[32]⟩ : ByteArray)) ++ t148) ++ (⟨#[32]⟩ : ByteArray)).size + t149.size ≤ 9223372036854775807 then (some ((((((⟨#[115, 116, 97, 116, 115, 32]⟩ : ByteArray) ++ t147) ++ (⟨#[32]⟩ : ByteArray)) ++ t148) ++ (⟨#[32]⟩ : ByteArray)) ++ t149, 0)) else (none))) else (none)) else (none))) else (none)) else (none))) else (some ((⟨#[]⟩ : ByteArray), 210))
end
def cubbyref21_Tell.f (k : Nat) (a0_0 : Int) (a0_1 : Int) (a0_2 : Int) (a0_3 : Int) (a0_4 : ByteArray) : Option (ByteArray × Int) := (cubbyref21_number.f a0_1).bind fun t141 => ((cubbyref21_number.f a0_2).bind fun t142 => ((cubbyref21_number.f a0_3).bind fun t143 => (if a0_0 = 1 then (cubbyref21_Tell.j0 k t141 t142 t143 t141 a0_0 a0_1 a0_2 a0_3 a0_4) else (cubbyref21_Tell.j0 k t141 t142 t143 false a0_0 a0_1 a0_2 a0_3 a0_4))))
set_option maxHeartbeats 8000000 in
set_option maxRecDepth 100000 in
theorem cubbyref21_Tell.calls (k : Nat) (a0_0 : Int) (a0_1 : Int) (a0_2 : Int) (a0_3 : Int) (a0_4 : ByteArray) (r1 : ByteArray) (r2 : Int) (w : World) (h : cubbyref21_Tell.f k a0_0 a0_1 a0_2 a0_3 a0_4 = some (r1, r2)) :
 Calls Tryd.prog 9 #[.agg #[.int .i64 a0_0, .int .i64 a0_1, .int .i64 a0_2, .int .i64 a0_3, .string a0_4]] w fun e w' => e = .returned (.tuple #[.string r1, .int .i64 r2]) ∧ Below w.heap.size w w' := by
 have hu27 := Tryd.underlying27
 have HB := zA (Below.refl w.heap.size w)
 have H := h; clear h; unfold cubbyref21_Tell.f at H
 replace H := qb H; obtain ⟨t141, A2, H⟩ := H
 replace H := qb H; obtain ⟨t142, A3, H⟩ := H
 replace H := qb H; obtain ⟨t143, A4, H⟩ := H
 have HC5 := zA H
 clear H
 go_enter Tryd.func9, Tryd.ntmps9
 go_upto_region 4 with (first | ((with_reducible refine gate_dst (N := 1) rfl ?_); refine box_event (by rfl) (N := 1) (by rfl) (cs := #[.int .i64 a0_0, .int .i64 a0_1, .int .i64 a0_2, .int .i64 a0_3, .string a0_4]) (t := 27) ?hr ?_; (case hr => go_simp <;> rfl); intro gb140 hg w6 hbox hb; have BK140 := zA (hbox); have GW140 := qG hg; have GE140 := GW140; replace HB := qH hb; clear hb hbox hg; have z7_0 := bk5 BK140.out) | (go_at_call 18; (with_reducible refine (cubbyref21_number.calls a0_1 t141 _ A2.out).mono ?_); rintro e w' ⟨rfl, ⟨nd, rfl⟩⟩; (try first | exact ⟨rfl, _, World.drewN_drewN _ _ _⟩ | exact ⟨rfl, _, Eq.trans (World.drewN_drewN _ _ _) (congrArg (World.drewN _) (Nat.add_assoc _ _ _))⟩)) | (go_at_call 18; (with_reducible refine (cubbyref21_number.calls a0_2 t142 _ A3.out).mono ?_); rintro e w' ⟨rfl, ⟨nd, rfl⟩⟩; (try first | exact ⟨rfl, _, World.drewN_drewN _ _ _⟩ | exact ⟨rfl, _, Eq.trans (World.drewN_drewN _ _ _) (congrArg (World.drewN _) (Nat.add_assoc _ _ _))⟩)) | (go_at_call 18; (with_reducible refine (cubbyref21_number.calls a0_3 t143 _ A4.out).mono ?_); rintro e w' ⟨rfl, ⟨nd, rfl⟩⟩; (try first | exact ⟨rfl, _, World.drewN_drewN _ _ _⟩ | exact ⟨rfl, _, Eq.trans (World.drewN_drewN _ _ _) (congrArg (World.drewN _) (Nat.add_assoc _ _ _))⟩)))
 repeat (go_quiet (first | ((with_reducible refine gate_dst (N := 1) rfl ?_); refine box_event (by rfl) (N := 1) (by rfl) (cs := #[.int .i64 a0_0, .int .i64 a0_1, .int .i64 a0_2, .int .i64 a0_3, .string a0_4]) (t := 27) ?hr ?_; (case hr => go_simp <;> rfl); intro gb140 hg w6 hbox hb; have BK140 := zA (hbox); have GW140 := qG hg; have GE140 := GW140; replace HB := qH hb; clear hb hbox hg; have z7_0 := bk5 BK140.out) | (go_at_call 18; (with_reducible refine (cubbyref21_number.calls a0_1 t141 _ A2.out).mono ?_); rintro e w' ⟨rfl, ⟨nd, rfl⟩⟩; (try first | exact ⟨rfl, _, World.drewN_drewN _ _ _⟩ | exact ⟨rfl, _, Eq.trans (World.drewN_drewN _ _ _) (congrArg (World.drewN _) (Nat.add_assoc _ _ _))⟩)) | (go_at_call 18; (with_reducible refine (cubbyref21_number.calls a0_2 t142 _ A3.out).mono ?_); rintro e w' ⟨rfl, ⟨nd, rfl⟩⟩; (try first | exact ⟨rfl, _, World.drewN_drewN _ _ _⟩ | exact ⟨rfl, _, Eq.trans (World.drewN_drewN _ _ _) (congrArg (World.drewN _) (Nat.add_assoc _ _ _))⟩)) | (go_at_call 18; (with_reducible refine (cubbyref21_number.calls a0_3 t143 _ A4.out).mono ?_); rintro e w' ⟨rfl, ⟨nd, rfl⟩⟩; (try first | exact ⟨rfl, _, World.drewN_drewN _ _ _⟩ | exact ⟨rfl, _, Eq.trans (World.drewN_drewN _ _ _) (congrArg (World.drewN _) (Nat.add_assoc _ _ _))⟩))); go_upto_region 4 with (first | ((with_reducible refine gate_dst (N := 1) rfl ?_); refine box_event (by rfl) (N := 1) (by rfl) (cs := #[.int .i64 a0_0, .int .i64 a0_1, .int .i64 a0_2, .int .i64 a0_3, .string a0_4]) (t := 27) ?hr ?_; (case hr => go_simp <;> rfl); intro gb140 hg w6 hbox hb; have BK140 := zA (hbox); have GW140 := qG hg; have GE140 := GW140; replace HB := qH hb; clear hb hbox hg; have z7_0 := bk5 BK140.out) | (go_at_call 18; (with_reducible refine (cubbyref21_number.calls a0_1 t141 _ A2.out).mono ?_); rintro e w' ⟨rfl, ⟨nd, rfl⟩⟩; (try first | exact ⟨rfl, _, World.drewN_drewN _ _ _⟩ | exact ⟨rfl, _, Eq.trans (World.drewN_drewN _ _ _) (congrArg (World.drewN _) (Nat.add_assoc _ _ _))⟩)) | (go_at_call 18; (with_reducible refine (cubbyref21_number.calls a0_2 t142 _ A3.out).mono ?_); rintro e w' ⟨rfl, ⟨nd, rfl⟩⟩; (try first | exact ⟨rfl, _, World.drewN_drewN _ _ _⟩ | exact ⟨rfl, _, Eq.trans (World.drewN_drewN _ _ _) (congrArg (World.drewN _) (Nat.add_assoc _ _ _))⟩)) | (go_at_call 18; (with_reducible refine (cubbyref21_number.calls a0_3 t143 _ A4.out).mono ?_); rintro e w' ⟨rfl, ⟨nd, rfl⟩⟩; (try first | exact ⟨rfl, _, World.drewN_drewN _ _ _⟩ | exact ⟨rfl, _, Eq.trans (World.drewN_drewN _ _ _) (congrArg (World.drewN _) (Nat.add_assoc _ _ _))⟩))))
 (try simp only [Act.put, List.setIfInBounds_toArray, List.set_cons_zero, List.set_cons_succ])
 go_cut [16] (fun v16 wc => ∃ (kq : Nat) (x16_4 : Bool), v16 = .bool x16_4 ∧ Aside0 (cubbyref21_Tell.j0 kq t141 t142 t143 x16_4 a0_0 a0_1 a0_2 a0_3 a0_4 = some (r1, r2)) ∧ Aside0 (kq ≤ k) ∧ Aside0 (wc.heap[gb140]? = some (.cells #[.int .i64 a0_0, .int .i64 a0_1, .int .i64 a0_2, .int .i64 a0_3, .string a0_4] 27 (0, 0))) ∧ Aside0 (Below w.heap.size w wc))
 case first =>
  have H := HC5.out
  clear HC5
  by_cases c8 : a0_0 = 1
  ·rw [zC c8] at H
   obtain ⟨c8b0, c8b1⟩ := qe c8; clear c8
   (first | rw [c8b0] | (simp only [i64_w, i32_w]; rw [c8b0]) | skip)
   have H' := zA H
   clear H
   have z9_0 := bk5 BK140.out
   go_wp2
   repeat (go_quiet (fail); try go_wp2)
   go_meet
   case rel => exact ⟨_, (t141), qT, H', ⟨qO⟩, ⟨qK BK140.out⟩, ⟨qB⟩⟩
  ·rw [zD c8] at H
   obtain ⟨c8b0, c8b1⟩ := qn c8
   (first | rw [c8b0] | (simp only [i64_w, i32_w]; rw [c8b0]) | skip)
   have H' := zA H
   clear H
   have z10_0 := bk5 BK140.out
   go_wp2
   repeat (go_quiet (fail); try go_wp2)
   go_meet
   case rel => exact ⟨_, (false), qT, H', ⟨qO⟩, ⟨qK BK140.out⟩, ⟨qB⟩⟩
 case rest =>
  clear HC5
  try clear p2; try clear c8; try clear c8b0 c8b1; try clear c9; try clear z10_0; try clear z7_0; try clear z9_0
  obtain ⟨kq, x16_4, rfl, HA, HJ4, BK140, HB⟩ := hcut
  cases kq with
  | zero => exact absurd HA.out (by simp [cubbyref21_Tell.j0])
  | succ kj4 =>
   have H := HA.out
   clear HA
   simp only [cubbyref21_Tell.j0] at H
   by_cases c11 : x16_4 = true
   ·subst c11
    have H1 : ((cubbyref08_Digits.f kj4 a0_1).bind fun t144 => (if 3 + t144.size ≤ 9223372036854775807 then (some ((⟨#[111, 107, 32]⟩ : ByteArray) ++ t144, 0)) else (none))) = some (r1, r2) := by rw [zC rfl] at H; exact H
    clear H
    have H := H1
    clear H1
    replace H := qb H; obtain ⟨t144, A12, H⟩ := H
    by_cases c13 : 3 + t144.size ≤ 9223372036854775807
    ·rw [zC c13] at H
     have c13b0 := eq_true c13
     have c13b1 := zF c13
     try have c13b2 : (9223372036854775807 < 3 + t144.size) = False := eq_false (Nat.not_lt.2 c13)
     simp only [Option.some.injEq, Prod.mk.injEq] at H
     obtain ⟨rfl, rfl⟩ := H
     have z14_0 := bk5 BK140.out
     go_wp2_with (first | (go_at_call 19; (with_reducible refine (cubbyref08_Digits.calls kj4 a0_1 t144 _ A12.out).mono ?_); rintro e w' ⟨rfl, ⟨nd, rfl⟩⟩; (try first | exact ⟨rfl, _, World.drewN_drewN _ _ _⟩ | exact ⟨rfl, _, Eq.trans (World.drewN_drewN _ _ _) (congrArg (World.drewN _) (Nat.add_assoc _ _ _))⟩)))
     repeat (go_quiet (first | (go_at_call 19; (with_reducible refine (cubbyref08_Digits.calls kj4 a0_1 t144 _ A12.out).mono ?_); rintro e w' ⟨rfl, ⟨nd, rfl⟩⟩; (try first | exact ⟨rfl, _, World.drewN_drewN _ _ _⟩ | exact ⟨rfl, _, Eq.trans (World.drewN_drewN _ _ _) (congrArg (World.drewN _) (Nat.add_assoc _ _ _))⟩))); try go_wp2_with (first | (go_at_call 19; (with_reducible refine (cubbyref08_Digits.calls kj4 a0_1 t144 _ A12.out).mono ?_); rintro e w' ⟨rfl, ⟨nd, rfl⟩⟩; (try first | exact ⟨rfl, _, World.drewN_drewN _ _ _⟩ | exact ⟨rfl, _, Eq.trans (World.drewN_drewN _ _ _) (congrArg (World.drewN _) (Nat.add_assoc _ _ _))⟩))))
     go_ret2
     exact ⟨qE, qB⟩
    ·rw [zD c13] at H
     exact absurd H (by simp)
   ·replace c11 := Bool.eq_false_iff.mpr c11
    subst c11
    have H1 : (if a0_0 = 2 then (if 5 + a0_4.size ≤ 9223372036854775807 then (some ((⟨#[99, 111, 100, 101, 10]⟩ : ByteArray) ++ a0_4, 0)) else (none)) else (if a0_0 = 3 then (some ((⟨#[109, 105, 115, 115]⟩ : ByteArray), 0)) else (if a0_0 = 4 then (if t141 = true then (cubbyref21_Tell.j1 kj4 t141 t142 t143 t142 a0_0 a0_1 a0_2 a0_3 a0_4) else (cubbyref21_Tell.j1 kj4 t141 t142 t143 false a0_0 a0_1 a0_2 a0_3 a0_4)) else (cubbyref21_Tell.j1 kj4 t141 t142 t143 false a0_0 a0_1 a0_2 a0_3 a0_4)))) = some (r1, r2) := by rw [zD (show ¬ (false = true) by decide)] at H; exact H
    clear H
    have H := H1
    clear H1
    by_cases c15 : a0_0 = 2
    ·rw [zC c15] at H
     obtain ⟨c15b0, c15b1⟩ := qe c15; clear c15
     by_cases c16 : 5 + a0_4.size ≤ 9223372036854775807
     ·rw [zC c16] at H
      have c16b0 := eq_true c16
      have c16b1 := zF c16
      try have c16b2 : (9223372036854775807 < 5 + a0_4.size) = False := eq_false (Nat.not_lt.2 c16)
      simp only [Option.some.injEq, Prod.mk.injEq] at H
      obtain ⟨rfl, rfl⟩ := H
      have z17_0 := bk5 BK140.out
      go_wp2
      repeat (go_quiet (fail); try go_wp2)
      go_ret2
      exact ⟨qE, qB⟩
     ·rw [zD c16] at H
      exact absurd H (by simp)
    ·rw [zD c15] at H
     obtain ⟨c15b0, c15b1⟩ := qn c15
     by_cases c18 : a0_0 = 3
     ·rw [zC c18] at H
      obtain ⟨c18b0, c18b1⟩ := qe c18; clear c18
      simp only [Option.some.injEq, Prod.mk.injEq] at H
      obtain ⟨rfl, rfl⟩ := H
      have z19_0 := bk5 BK140.out
      go_wp2
      repeat (go_quiet (fail); try go_wp2)
      go_ret2
      exact ⟨qE, qB⟩
     ·rw [zD c18] at H
      obtain ⟨c18b0, c18b1⟩ := qn c18
      have HC20 := zA H
      clear H
      have z21_0 := bk5 BK140.out
      go_upto_region 10 with (fail)
      repeat (go_quiet (fail); go_upto_region 10 with (fail))
      go_cut [38] (fun v38 wc => ∃ (kq : Nat) (x38_19 : Bool), v38 = .bool x38_19 ∧ Aside0 (cubbyref21_Tell.j1 kq t141 t142 t143 x38_19 a0_0 a0_1 a0_2 a0_3 a0_4 = some (r1, r2)) ∧ Aside0 (kq ≤ kj4) ∧ Aside0 (wc.heap[gb140]? = some (.cells #[.int .i64 a0_0, .int .i64 a0_1, .int .i64 a0_2, .int .i64 a0_3, .string a0_4] 27 (0, 0))) ∧ Aside0 (Below w.heap.size w wc))
      case first =>
       have H := HC20.out
       clear HC20
       by_cases c22 : a0_0 = 4
       ·rw [zC c22] at H
        obtain ⟨c22b0, c22b1⟩ := qe c22; clear c22
        (first | rw [c22b0] | (simp only [i64_w, i32_w]; rw [c22b0]) | skip)
        by_cases c23 : t141 = true
        ·subst c23
         have H1 : (cubbyref21_Tell.j1 kj4 true t142 t143 t142 a0_0 a0_1 a0_2 a0_3 a0_4) = some (r1, r2) := by rw [zC rfl] at H; exact H
         clear H
         have H := H1
         clear H1
         have H' := zA H
         clear H
         have z24_0 := bk5 BK140.out
         go_wp2
         repeat (go_quiet (fail); try go_wp2)
         go_meet
         case rel => exact ⟨_, (t142), qT, H', ⟨by have := HJ4.out; first | omega | exact Nat.le_refl _⟩, ⟨qK BK140.out⟩, ⟨qB⟩⟩
        ·replace c23 := Bool.eq_false_iff.mpr c23
         subst c23
         have H1 : (cubbyref21_Tell.j1 kj4 false t142 t143 false a0_0 a0_1 a0_2 a0_3 a0_4) = some (r1, r2) := by rw [zD (show ¬ (false = true) by decide)] at H; exact H
         clear H
         have H := H1
         clear H1
         have H' := zA H
         clear H
         have z25_0 := bk5 BK140.out
         go_wp2
         repeat (go_quiet (fail); try go_wp2)
         go_meet
         case rel => exact ⟨_, (false), qT, H', ⟨by have := HJ4.out; first | omega | exact Nat.le_refl _⟩, ⟨qK BK140.out⟩, ⟨qB⟩⟩
       ·rw [zD c22] at H
        obtain ⟨c22b0, c22b1⟩ := qn c22
        (first | rw [c22b0] | (simp only [i64_w, i32_w]; rw [c22b0]) | skip)
        have H' := zA H
        clear H
        have z26_0 := bk5 BK140.out
        go_wp2
        repeat (go_quiet (fail); try go_wp2)
        go_meet
        case rel => exact ⟨_, (false), qT, H', ⟨by have := HJ4.out; first | omega | exact Nat.le_refl _⟩, ⟨qK BK140.out⟩, ⟨qB⟩⟩
      case rest =>
       clear HC20
       try clear c1; try clear c2; try clear p2; try clear c8; try clear c8b0 c8b1; try clear c9; try clear c11; try clear c13; try clear c13b0 c13b1 c13b2; try clear c15; try clear c15b0 c15b1; try clear c16; try clear c16b0 c16b1 c16b2; try clear c18; try clear c18b0 c18b1; try clear c22; try clear c22b0 c22b1; try clear c23; try clear z10_0; try clear z14_0; try clear z17_0; try clear z19_0; try clear z21_0; try clear z24_0; try clear z25_0; try clear z26_0; try clear z7_0; try clear z9_0
       obtain ⟨kq, x38_19, rfl, HA, HJ19, BK140, HB⟩ := hcut
       cases kq with
       | zero => exact absurd HA.out (by simp [cubbyref21_Tell.j1])
       | succ kj19 =>
        have H := HA.out
        clear HA
        simp only [cubbyref21_Tell.j1] at H
        by_cases c27 : x38_19 = true
        ·subst c27
         have H1 : ((cubbyref08_Digits.f kj19 a0_1).bind fun t145 => (if 6 + t145.size ≤ 9223372036854775807 then (if ((⟨#[101, 114, 114, 111, 114, 32]⟩ : ByteArray) ++ t145).size + 1 ≤ 9223372036854775807 then ((cubbyref08_Digits.f kj19 a0_2).bind fun t146 => (if (((⟨#[101, 114, 114, 111, 114, 32]⟩ : ByteArray) ++ t145) ++ (⟨#[32]⟩ : ByteArray)).size + t146.size ≤ 9223372036854775807 then (some ((((⟨#[101, 114, 114, 111, 114, 32]⟩ : ByteArray) ++ t145) ++ (⟨#[32]⟩ : ByteArray)) ++ t146, 0)) else (none))) else (none)) else (none))) = some (r1, r2) := by rw [zC rfl] at H; exact H
         clear H
         have H := H1
         clear H1
         replace H := qb H; obtain ⟨t145, A28, H⟩ := H
         by_cases c29 : 6 + t145.size ≤ 9223372036854775807
         ·rw [zC c29] at H
          have c29b0 := eq_true c29
          have c29b1 := zF c29
          try have c29b2 : (9223372036854775807 < 6 + t145.size) = False := eq_false (Nat.not_lt.2 c29)
          by_cases c30 : ((⟨#[101, 114, 114, 111, 114, 32]⟩ : ByteArray) ++ t145).size + 1 ≤ 9223372036854775807
          ·rw [zC c30] at H
           have c30b0 := eq_true c30
           have c30z : (9223372036854775807 < 6 + t145.size + 1) = False := eq_false (by have h_ := c30; simp only [ByteArray.size_append] at h_; exact Nat.not_lt.2 h_)
           have c30b1 := zF c30
           try have c30b2 : (9223372036854775807 < ((⟨#[101, 114, 114, 111, 114, 32]⟩ : ByteArray) ++ t145).size + 1) = False := eq_false (Nat.not_lt.2 c30)
           replace H := qb H; obtain ⟨t146, A31, H⟩ := H
           by_cases c32 : (((⟨#[101, 114, 114, 111, 114, 32]⟩ : ByteArray) ++ t145) ++ (⟨#[32]⟩ : ByteArray)).size + t146.size ≤ 9223372036854775807
           ·rw [zC c32] at H
            have c32b0 := eq_true c32
            have c32z : (9223372036854775807 < 6 + t145.size + 1 + t146.size) = False := eq_false (by have h_ := c32; simp only [ByteArray.size_append] at h_; exact Nat.not_lt.2 h_)
            have c32b1 := zF c32
            try have c32b2 : (9223372036854775807 < (((⟨#[101, 114, 114, 111, 114, 32]⟩ : ByteArray) ++ t145) ++ (⟨#[32]⟩ : ByteArray)).size + t146.size) = False := eq_false (Nat.not_lt.2 c32)
            simp only [Option.some.injEq, Prod.mk.injEq] at H
            obtain ⟨rfl, rfl⟩ := H
            have z33_0 := bk5 BK140.out
            go_wp2_with (first | (go_at_call 19; (with_reducible refine (cubbyref08_Digits.calls kj19 a0_1 t145 _ A28.out).mono ?_); rintro e w' ⟨rfl, ⟨nd, rfl⟩⟩; (try first | exact ⟨rfl, _, World.drewN_drewN _ _ _⟩ | exact ⟨rfl, _, Eq.trans (World.drewN_drewN _ _ _) (congrArg (World.drewN _) (Nat.add_assoc _ _ _))⟩)) | (go_at_call 19; (with_reducible refine (cubbyref08_Digits.calls kj19 a0_2 t146 _ A31.out).mono ?_); rintro e w' ⟨rfl, ⟨nd, rfl⟩⟩; (try first | exact ⟨rfl, _, World.drewN_drewN _ _ _⟩ | exact ⟨rfl, _, Eq.trans (World.drewN_drewN _ _ _) (congrArg (World.drewN _) (Nat.add_assoc _ _ _))⟩)))
            repeat (go_quiet (first | (go_at_call 19; (with_reducible refine (cubbyref08_Digits.calls kj19 a0_1 t145 _ A28.out).mono ?_); rintro e w' ⟨rfl, ⟨nd, rfl⟩⟩; (try first | exact ⟨rfl, _, World.drewN_drewN _ _ _⟩ | exact ⟨rfl, _, Eq.trans (World.drewN_drewN _ _ _) (congrArg (World.drewN _) (Nat.add_assoc _ _ _))⟩)) | (go_at_call 19; (with_reducible refine (cubbyref08_Digits.calls kj19 a0_2 t146 _ A31.out).mono ?_); rintro e w' ⟨rfl, ⟨nd, rfl⟩⟩; (try first | exact ⟨rfl, _, World.drewN_drewN _ _ _⟩ | exact ⟨rfl, _, Eq.trans (World.drewN_drewN _ _ _) (congrArg (World.drewN _) (Nat.add_assoc _ _ _))⟩))); try go_wp2_with (first | (go_at_call 19; (with_reducible refine (cubbyref08_Digits.calls kj19 a0_1 t145 _ A28.out).mono ?_); rintro e w' ⟨rfl, ⟨nd, rfl⟩⟩; (try first | exact ⟨rfl, _, World.drewN_drewN _ _ _⟩ | exact ⟨rfl, _, Eq.trans (World.drewN_drewN _ _ _) (congrArg (World.drewN _) (Nat.add_assoc _ _ _))⟩)) | (go_at_call 19; (with_reducible refine (cubbyref08_Digits.calls kj19 a0_2 t146 _ A31.out).mono ?_); rintro e w' ⟨rfl, ⟨nd, rfl⟩⟩; (try first | exact ⟨rfl, _, World.drewN_drewN _ _ _⟩ | exact ⟨rfl, _, Eq.trans (World.drewN_drewN _ _ _) (congrArg (World.drewN _) (Nat.add_assoc _ _ _))⟩))))
            go_ret2
            exact ⟨qE, qB⟩
           ·rw [zD c32] at H
            exact absurd H (by simp)
          ·rw [zD c30] at H
           exact absurd H (by simp)
         ·rw [zD c29] at H
          exact absurd H (by simp)
        ·replace c27 := Bool.eq_false_iff.mpr c27
         subst c27
         have H1 : (if a0_0 = 5 then (if t141 = true then (if t142 = true then (cubbyref21_Tell.j2 kj19 t143 a0_0 a0_1 a0_2 a0_3 a0_4) else (cubbyref21_Tell.j2 kj19 false a0_0 a0_1 a0_2 a0_3 a0_4)) else (cubbyref21_Tell.j2 kj19 false a0_0 a0_1 a0_2 a0_3 a0_4)) else (cubbyref21_Tell.j2 kj19 false a0_0 a0_1 a0_2 a0_3 a0_4)) = some (r1, r2) := by rw [zD (show ¬ (false = true) by decide)] at H; exact H
         clear H
         have H := H1
         clear H1
         have HC34 := zA H
         clear H
         go_upto_region 12 with (fail)
         repeat (go_quiet (fail); go_upto_region 12 with (fail))
         go_cut [57] (fun v57 wc => ∃ (kq : Nat) (x57_33 : Bool), v57 = .bool x57_33 ∧ Aside0 (cubbyref21_Tell.j2 kq x57_33 a0_0 a0_1 a0_2 a0_3 a0_4 = some (r1, r2)) ∧ Aside0 (kq ≤ kj19) ∧ Aside0 (wc.heap[gb140]? = some (.cells #[.int .i64 a0_0, .int .i64 a0_1, .int .i64 a0_2, .int .i64 a0_3, .string a0_4] 27 (0, 0))) ∧ Aside0 (Below w.heap.size w wc))
         case first =>
          have H := HC34.out
          clear HC34
          by_cases c35 : a0_0 = 5
          ·rw [zC c35] at H
           obtain ⟨c35b0, c35b1⟩ := qe c35; clear c35
           (first | rw [c35b0] | (simp only [i64_w, i32_w]; rw [c35b0]) | skip)
           by_cases c36 : t141 = true
           ·subst c36
            have H1 : (if t142 = true then (cubbyref21_Tell.j2 kj19 t143 a0_0 a0_1 a0_2 a0_3 a0_4) else (cubbyref21_Tell.j2 kj19 false a0_0 a0_1 a0_2 a0_3 a0_4)) = some (r1, r2) := by rw [zC rfl] at H; exact H
            clear H
            have H := H1
            clear H1
            by_cases c37 : t142 = true
            ·subst c37
             have H1 : (cubbyref21_Tell.j2 kj19 t143 a0_0 a0_1 a0_2 a0_3 a0_4) = some (r1, r2) := by rw [zC rfl] at H; exact H
             clear H
             have H := H1
             clear H1
             have H' := zA H
             clear H
             have z38_0 := bk5 BK140.out
             go_wp2
             repeat (go_quiet (fail); try go_wp2)
             go_meet
             case rel => exact ⟨_, (t143), qT, H', ⟨by have := HJ4.out; have := HJ19.out; first | omega | exact Nat.le_refl _⟩, ⟨qK BK140.out⟩, ⟨qB⟩⟩
            ·replace c37 := Bool.eq_false_iff.mpr c37
             subst c37
             have H1 : (cubbyref21_Tell.j2 kj19 false a0_0 a0_1 a0_2 a0_3 a0_4) = some (r1, r2) := by rw [zD (show ¬ (false = true) by decide)] at H; exact H
             clear H
             have H := H1
             clear H1
             have H' := zA H
             clear H
             have z39_0 := bk5 BK140.out
             go_wp2
             repeat (go_quiet (fail); try go_wp2)
             go_meet
             case rel => exact ⟨_, (false), qT, H', ⟨by have := HJ4.out; have := HJ19.out; first | omega | exact Nat.le_refl _⟩, ⟨qK BK140.out⟩, ⟨qB⟩⟩
           ·replace c36 := Bool.eq_false_iff.mpr c36
            subst c36
            have H1 : (cubbyref21_Tell.j2 kj19 false a0_0 a0_1 a0_2 a0_3 a0_4) = some (r1, r2) := by rw [zD (show ¬ (false = true) by decide)] at H; exact H
            clear H
            have H := H1
            clear H1
            have H' := zA H
            clear H
            have z40_0 := bk5 BK140.out
            go_wp2
            repeat (go_quiet (fail); try go_wp2)
            go_meet
            case rel => exact ⟨_, (false), qT, H', ⟨by have := HJ4.out; have := HJ19.out; first | omega | exact Nat.le_refl _⟩, ⟨qK BK140.out⟩, ⟨qB⟩⟩
          ·rw [zD c35] at H
           obtain ⟨c35b0, c35b1⟩ := qn c35
           (first | rw [c35b0] | (simp only [i64_w, i32_w]; rw [c35b0]) | skip)
           have H' := zA H
           clear H
           have z41_0 := bk5 BK140.out
           go_wp2
           repeat (go_quiet (fail); try go_wp2)
           go_meet
           case rel => exact ⟨_, (false), qT, H', ⟨by have := HJ4.out; have := HJ19.out; first | omega | exact Nat.le_refl _⟩, ⟨qK BK140.out⟩, ⟨qB⟩⟩
         case rest =>
          clear HC34
          try clear c1; try clear c2; try clear p2; try clear c3; try clear c8; try clear c8b0 c8b1; try clear c9; try clear c11; try clear c13; try clear c13b0 c13b1 c13b2; try clear c15; try clear c15b0 c15b1; try clear c16; try clear c16b0 c16b1 c16b2; try clear c18; try clear c18b0 c18b1; try clear c22; try clear c22b0 c22b1; try clear c23; try clear c27; try clear c29; try clear c29b0 c29b1 c29b2; try clear c30; try clear c30b0 c30b1 c30b2; try clear c32; try clear c32b0 c32b1 c32b2; try clear c35; try clear c35b0 c35b1; try clear c36; try clear c37; try clear z10_0; try clear z14_0; try clear z17_0; try clear z19_0; try clear z21_0; try clear z24_0; try clear z25_0; try clear z26_0; try clear z33_0; try clear z38_0; try clear z39_0; try clear z40_0; try clear z41_0; try clear z7_0; try clear z9_0
          obtain ⟨kq, x57_33, rfl, HA, HJ33, BK140, HB⟩ := hcut
          cases kq with
          | zero => exact absurd HA.out (by simp [cubbyref21_Tell.j2])
          | succ kj33 =>
           have H := HA.out
           clear HA
           simp only [cubbyref21_Tell.j2] at H
           by_cases c42 : x57_33 = true
           ·subst c42
            have H1 : ((cubbyref08_Digits.f kj33 a0_1).bind fun t147 => (if 6 + t147.size ≤ 9223372036854775807 then (if ((⟨#[115, 116, 97, 116, 115, 32]⟩ : ByteArray) ++ t147).size + 1 ≤ 9223372036854775807 then ((cubbyref08_Digits.f kj33 a0_2).bind fun t148 => (if (((⟨#[115, 116, 97, 116, 115, 32]⟩ : ByteArray) ++ t147) ++ (⟨#[32]⟩ : ByteArray)).size + t148.size ≤ 9223372036854775807 then (if ((((⟨#[115, 116, 97, 116, 115, 32]⟩ : ByteArray) ++ t147) ++ (⟨#[32]⟩ : ByteArray)) ++ t148).size + 1 ≤ 9223372036854775807 then ((cubbyref08_Digits.f kj33 a0_3).bind fun t149 => (if (((((⟨#[115, 116, 97, 116, 115, 32]⟩ : ByteArray) ++ t147) ++ (⟨#[32]⟩ : ByteArray)) ++ t148) ++ (⟨#[32]⟩ : ByteArray)).size + t149.size ≤ 9223372036854775807 then (some ((((((⟨#[115, 116, 97, 116, 115, 32]⟩ : ByteArray) ++ t147) ++ (⟨#[32]⟩ : ByteArray)) ++ t148) ++ (⟨#[32]⟩ : ByteArray)) ++ t149, 0)) else (none))) else (none)) else (none))) else (none)) else (none))) = some (r1, r2) := by rw [zC rfl] at H; exact H
            clear H
            have H := H1
            clear H1
            replace H := qb H; obtain ⟨t147, A43, H⟩ := H
            by_cases c44 : 6 + t147.size ≤ 9223372036854775807
            ·rw [zC c44] at H
             have c44b0 := eq_true c44
             have c44b1 := zF c44
             try have c44b2 : (9223372036854775807 < 6 + t147.size) = False := eq_false (Nat.not_lt.2 c44)
             by_cases c45 : ((⟨#[115, 116, 97, 116, 115, 32]⟩ : ByteArray) ++ t147).size + 1 ≤ 9223372036854775807
             ·rw [zC c45] at H
              have c45b0 := eq_true c45
              have c45z : (9223372036854775807 < 6 + t147.size + 1) = False := eq_false (by have h_ := c45; simp only [ByteArray.size_append] at h_; exact Nat.not_lt.2 h_)
              have c45b1 := zF c45
              try have c45b2 : (9223372036854775807 < ((⟨#[115, 116, 97, 116, 115, 32]⟩ : ByteArray) ++ t147).size + 1) = False := eq_false (Nat.not_lt.2 c45)
              replace H := qb H; obtain ⟨t148, A46, H⟩ := H
              by_cases c47 : (((⟨#[115, 116, 97, 116, 115, 32]⟩ : ByteArray) ++ t147) ++ (⟨#[32]⟩ : ByteArray)).size + t148.size ≤ 9223372036854775807
              ·rw [zC c47] at H
               have c47b0 := eq_true c47
               have c47z : (9223372036854775807 < 6 + t147.size + 1 + t148.size) = False := eq_false (by have h_ := c47; simp only [ByteArray.size_append] at h_; exact Nat.not_lt.2 h_)
               have c47b1 := zF c47
               try have c47b2 : (9223372036854775807 < (((⟨#[115, 116, 97, 116, 115, 32]⟩ : ByteArray) ++ t147) ++ (⟨#[32]⟩ : ByteArray)).size + t148.size) = False := eq_false (Nat.not_lt.2 c47)
               by_cases c48 : ((((⟨#[115, 116, 97, 116, 115, 32]⟩ : ByteArray) ++ t147) ++ (⟨#[32]⟩ : ByteArray)) ++ t148).size + 1 ≤ 9223372036854775807
               ·rw [zC c48] at H
                have c48b0 := eq_true c48
                have c48z : (9223372036854775807 < 6 + t147.size + 1 + t148.size + 1) = False := eq_false (by have h_ := c48; simp only [ByteArray.size_append] at h_; exact Nat.not_lt.2 h_)
                have c48b1 := zF c48
                try have c48b2 : (9223372036854775807 < ((((⟨#[115, 116, 97, 116, 115, 32]⟩ : ByteArray) ++ t147) ++ (⟨#[32]⟩ : ByteArray)) ++ t148).size + 1) = False := eq_false (Nat.not_lt.2 c48)
                replace H := qb H; obtain ⟨t149, A49, H⟩ := H
                by_cases c50 : (((((⟨#[115, 116, 97, 116, 115, 32]⟩ : ByteArray) ++ t147) ++ (⟨#[32]⟩ : ByteArray)) ++ t148) ++ (⟨#[32]⟩ : ByteArray)).size + t149.size ≤ 9223372036854775807
                ·rw [zC c50] at H
                 have c50b0 := eq_true c50
                 have c50z : (9223372036854775807 < 6 + t147.size + 1 + t148.size + 1 + t149.size) = False := eq_false (by have h_ := c50; simp only [ByteArray.size_append] at h_; exact Nat.not_lt.2 h_)
                 have c50b1 := zF c50
                 try have c50b2 : (9223372036854775807 < (((((⟨#[115, 116, 97, 116, 115, 32]⟩ : ByteArray) ++ t147) ++ (⟨#[32]⟩ : ByteArray)) ++ t148) ++ (⟨#[32]⟩ : ByteArray)).size + t149.size) = False := eq_false (Nat.not_lt.2 c50)
                 simp only [Option.some.injEq, Prod.mk.injEq] at H
                 obtain ⟨rfl, rfl⟩ := H
                 have z51_0 := bk5 BK140.out
                 go_wp2_with (first | (go_at_call 19; (with_reducible refine (cubbyref08_Digits.calls kj33 a0_1 t147 _ A43.out).mono ?_); rintro e w' ⟨rfl, ⟨nd, rfl⟩⟩; (try first | exact ⟨rfl, _, World.drewN_drewN _ _ _⟩ | exact ⟨rfl, _, Eq.trans (World.drewN_drewN _ _ _) (congrArg (World.drewN _) (Nat.add_assoc _ _ _))⟩)) | (go_at_call 19; (with_reducible refine (cubbyref08_Digits.calls kj33 a0_2 t148 _ A46.out).mono ?_); rintro e w' ⟨rfl, ⟨nd, rfl⟩⟩; (try first | exact ⟨rfl, _, World.drewN_drewN _ _ _⟩ | exact ⟨rfl, _, Eq.trans (World.drewN_drewN _ _ _) (congrArg (World.drewN _) (Nat.add_assoc _ _ _))⟩)) | (go_at_call 19; (with_reducible refine (cubbyref08_Digits.calls kj33 a0_3 t149 _ A49.out).mono ?_); rintro e w' ⟨rfl, ⟨nd, rfl⟩⟩; (try first | exact ⟨rfl, _, World.drewN_drewN _ _ _⟩ | exact ⟨rfl, _, Eq.trans (World.drewN_drewN _ _ _) (congrArg (World.drewN _) (Nat.add_assoc _ _ _))⟩)))
                 repeat (go_quiet (first | (go_at_call 19; (with_reducible refine (cubbyref08_Digits.calls kj33 a0_1 t147 _ A43.out).mono ?_); rintro e w' ⟨rfl, ⟨nd, rfl⟩⟩; (try first | exact ⟨rfl, _, World.drewN_drewN _ _ _⟩ | exact ⟨rfl, _, Eq.trans (World.drewN_drewN _ _ _) (congrArg (World.drewN _) (Nat.add_assoc _ _ _))⟩)) | (go_at_call 19; (with_reducible refine (cubbyref08_Digits.calls kj33 a0_2 t148 _ A46.out).mono ?_); rintro e w' ⟨rfl, ⟨nd, rfl⟩⟩; (try first | exact ⟨rfl, _, World.drewN_drewN _ _ _⟩ | exact ⟨rfl, _, Eq.trans (World.drewN_drewN _ _ _) (congrArg (World.drewN _) (Nat.add_assoc _ _ _))⟩)) | (go_at_call 19; (with_reducible refine (cubbyref08_Digits.calls kj33 a0_3 t149 _ A49.out).mono ?_); rintro e w' ⟨rfl, ⟨nd, rfl⟩⟩; (try first | exact ⟨rfl, _, World.drewN_drewN _ _ _⟩ | exact ⟨rfl, _, Eq.trans (World.drewN_drewN _ _ _) (congrArg (World.drewN _) (Nat.add_assoc _ _ _))⟩))); try go_wp2_with (first | (go_at_call 19; (with_reducible refine (cubbyref08_Digits.calls kj33 a0_1 t147 _ A43.out).mono ?_); rintro e w' ⟨rfl, ⟨nd, rfl⟩⟩; (try first | exact ⟨rfl, _, World.drewN_drewN _ _ _⟩ | exact ⟨rfl, _, Eq.trans (World.drewN_drewN _ _ _) (congrArg (World.drewN _) (Nat.add_assoc _ _ _))⟩)) | (go_at_call 19; (with_reducible refine (cubbyref08_Digits.calls kj33 a0_2 t148 _ A46.out).mono ?_); rintro e w' ⟨rfl, ⟨nd, rfl⟩⟩; (try first | exact ⟨rfl, _, World.drewN_drewN _ _ _⟩ | exact ⟨rfl, _, Eq.trans (World.drewN_drewN _ _ _) (congrArg (World.drewN _) (Nat.add_assoc _ _ _))⟩)) | (go_at_call 19; (with_reducible refine (cubbyref08_Digits.calls kj33 a0_3 t149 _ A49.out).mono ?_); rintro e w' ⟨rfl, ⟨nd, rfl⟩⟩; (try first | exact ⟨rfl, _, World.drewN_drewN _ _ _⟩ | exact ⟨rfl, _, Eq.trans (World.drewN_drewN _ _ _) (congrArg (World.drewN _) (Nat.add_assoc _ _ _))⟩))))
                 go_ret2
                 exact ⟨qE, qB⟩
                ·rw [zD c50] at H
                 exact absurd H (by simp)
               ·rw [zD c48] at H
                exact absurd H (by simp)
              ·rw [zD c47] at H
               exact absurd H (by simp)
             ·rw [zD c45] at H
              exact absurd H (by simp)
            ·rw [zD c44] at H
             exact absurd H (by simp)
           ·replace c42 := Bool.eq_false_iff.mpr c42
            subst c42
            have H1 : (some ((⟨#[]⟩ : ByteArray), 210)) = some (r1, r2) := by rw [zD (show ¬ (false = true) by decide)] at H; exact H
            clear H
            have H := H1
            clear H1
            simp only [Option.some.injEq, Prod.mk.injEq] at H
            obtain ⟨rfl, rfl⟩ := H
            go_wp2
            repeat (go_quiet (fail); try go_wp2)
            go_ret2
            exact ⟨qE, qB⟩
end Go.Proofs.YtmojmnhaabonpaaDoor.Q
namespace Go.Proofs.YtmojmnhaabonpaaDoor.Q
open Go.RowKit Go.Proofs.YtmojmnhaabonpaaDoorW.PrintWords Go.Proofs.YtmojmnhaabonpaaDoorW.PrintLast Go.Proofs.YtmojmnhaabonpaaDoorW.PrintMore
attribute [local go_sem] max2_int min2_int max_two min_two max_three min_three max_four min_four
set_option linter.unusedVariables false
set_option linter.unusedSimpArgs false
attribute [local go_sem high] eqAaskReply

mutual
def cubbylaw21_AskNumbers.j0 : Nat → Int → Int → Int → Bool → Int → Int → Int → Int → ByteArray → Option (Bool)
 | 0, _, _, _, _, _, _, _, _, _ => none
 | k + 1, x1, x2, x3, x28, x218000, x218001, x218002, x218003, x218004 => if x28 = true then (cubbylaw21_AskNumbers.j1 k x2 x3 x218000 x1 x218002 x218003 x218004) else (cubbylaw21_AskNumbers.j1 k x2 x3 x218000 x218001 x218002 x218003 x218004)
def cubbylaw21_AskNumbers.j1 : Nat → Int → Int → Int → Int → Int → Int → ByteArray → Option (Bool)
 | 0, _, _, _, _, _, _, _ => none
 | k + 1, x2, x3, x218000, x218001, x218002, x218003, x218004 => if x218000 > 3 then (cubbylaw21_AskNumbers.j2 k x3 x218000 x218001 x2 x218003 x218004) else (cubbylaw21_AskNumbers.j2 k x3 x218000 x218001 x218002 x218003 x218004)
def cubbylaw21_AskNumbers.j2 : Nat → Int → Int → Int → Int → Int → ByteArray → Option (Bool)
 | 0, _, _, _, _, _, _ => none
 | k + 1, x3, x218000, x218001, x218002, x218003, x218004 => if x218000 = 5 then (cubbylaw21_AskNumbers.j3 k x218000 x218001 x218002 x3 x218004) else (cubbylaw21_AskNumbers.j3 k x218000 x218001 x218002 x218003 x218004)
def cubbylaw21_AskNumbers.j3 : Nat → Int → Int → Int → Int → ByteArray → Option (Bool)
 | 0, _, _, _, _, _ => none
 | k + 1, x218000, x218001, x218002, x218003, x218004 => (ask_Tell.f k x218000 x218001 x218002 x218003 x218004).bind fun bt218 => ((cubbyref21_Tell.f k x218000 x218001 x218002 x218003 (⟨#[]⟩ : ByteArray)).bind fun bt220 => (if bt218.2 = bt220.2 then ((ask_Hear.f bt218.1).bind fun bt222 => (if bt218.2 = 0 then (if bt222.2.2.2.2.2 = 0 then (some (bt222.1 == x218000 && (bt222.2.1 == x218001 && (bt222.2.2.1 == x218002 && (bt222.2.2.2.1 == x218003 && (bt222.2.2.2.2.1.toList == x218004.toList)))))) else (some false)) else (some true))) else (some false)))
end
def cubbylaw21_AskNumbers.f (k : Nat) (a0 : Int) (a1 : Int) (a2 : Int) (a3 : Int) : Option (Bool) := if (wrap64 (1 + (Int.tmod (wrap64 (a0)) 5))) = 1 then (cubbylaw21_AskNumbers.j0 k a1 a2 a3 true (wrap64 (1 + (Int.tmod (wrap64 (a0)) 5))) 0 0 0 (⟨#[]⟩ : ByteArray)) else (cubbylaw21_AskNumbers.j0 k a1 a2 a3 (decide ((wrap64 (1 + (Int.tmod (wrap64 (a0)) 5))) > 3)) (wrap64 (1 + (Int.tmod (wrap64 (a0)) 5))) 0 0 0 (⟨#[]⟩ : ByteArray))
set_option maxHeartbeats 8000000 in
set_option maxRecDepth 100000 in
theorem cubbylaw21_AskNumbers.calls (k : Nat) (a0 : Int) (a1 : Int) (a2 : Int) (a3 : Int) (r : Bool) (w : World) (hL : LaidW w) (hr : r = true) (h : cubbylaw21_AskNumbers.f k a0 a1 a2 a3 = some r) :
 Calls Tryd.prog 4 #[.int .u8 a0, .int .i64 a1, .int .i64 a2, .int .i64 a3] w fun e w' => e = .returned (.bool r) ∧ Below w.heap.size w w' := by
 have hu23 := Tryd.underlying23
 have hu27 := Tryd.underlying27
 have HB := zA (Below.refl w.heap.size w)
 have HLd := zA hL
 clear hL
 have HRt := zA hr
 clear hr
 have H := h; clear h; unfold cubbylaw21_AskNumbers.f at H
 have HC5 := zA H
 clear H
 go_enter Tryd.func4, Tryd.ntmps4
 go_upto_region 2 with (first | ((with_reducible refine gate_dst (N := 9) rfl ?_); refine box_event (by rfl) (N := 9) (by rfl) (cs := #[.int .i64 0, .int .i64 0, .int .i64 0, .int .i64 0, .string (⟨#[]⟩ : ByteArray)]) (t := 23) ?hr ?_; (case hr => go_simp <;> rfl); intro gb217 hg w6 hbox hb; have BK217 := zA (hbox); have GW217 := qG hg; have GE217 := GW217; replace HB := qH hb; clear hb hbox hg; have z7_0 := bk5 BK217.out))
 (try simp only [Act.put, List.setIfInBounds_toArray, List.set_cons_zero, List.set_cons_succ])
 go_cut [28] (fun v28 wc => ∃ (kq : Nat) (x28_4 : Bool), v28 = .bool x28_4 ∧ Aside0 (cubbylaw21_AskNumbers.j0 kq a1 a2 a3 x28_4 (wrap64 (1 + (Int.tmod (wrap64 (a0)) 5))) 0 0 0 (⟨#[]⟩ : ByteArray) = some r) ∧ Aside0 (kq ≤ k) ∧ Aside0 (wc.heap[gb217]? = some (.cells #[.int .i64 (wrap64 (1 + (Int.tmod (wrap64 (a0)) 5))), .int .i64 0, .int .i64 0, .int .i64 0, .string (⟨#[]⟩ : ByteArray)] 23 (0, 0))) ∧ Aside0 (Below w.heap.size w wc))
 case first =>
  have H := HC5.out
  clear HC5
  by_cases c8 : (wrap64 (1 + (Int.tmod (wrap64 (a0)) 5))) = 1
  ·rw [zC c8] at H
   obtain ⟨c8b0, c8b1⟩ := qe c8; clear c8
   (first | rw [c8b0] | (simp only [i64_w, i32_w]; rw [c8b0]) | skip)
   have H' := zA H
   clear H
   have z9_0 := bk5 BK217.out
   go_wp2
   go_meet
   case rel => exact ⟨_, (true), qT, H', ⟨qO⟩, ⟨by (with_reducible repeat (first | refine blk_drewN ?_ _ | refine blk_drew ?_ | refine blk_alloc ?_ _)); refine blk_put (cs := #[.int .i64 (wrap64 (1 + (Int.tmod (wrap64 (a0)) 5))), .int .i64 0, .int .i64 0, .int .i64 0, .string (⟨#[]⟩ : ByteArray)]) ?_ 4 _ rfl; (with_reducible repeat (first | refine blk_drewN ?_ _ | refine blk_drew ?_ | refine blk_alloc ?_ _)); refine blk_put (cs := #[.int .i64 (wrap64 (1 + (Int.tmod (wrap64 (a0)) 5))), .int .i64 0, .int .i64 0, .int .i64 0, .string (⟨#[]⟩ : ByteArray)]) ?_ 3 _ rfl; (with_reducible repeat (first | refine blk_drewN ?_ _ | refine blk_drew ?_ | refine blk_alloc ?_ _)); refine blk_put (cs := #[.int .i64 (wrap64 (1 + (Int.tmod (wrap64 (a0)) 5))), .int .i64 0, .int .i64 0, .int .i64 0, .string (⟨#[]⟩ : ByteArray)]) ?_ 2 _ rfl; (with_reducible repeat (first | refine blk_drewN ?_ _ | refine blk_drew ?_ | refine blk_alloc ?_ _)); refine blk_put (cs := #[.int .i64 (wrap64 (1 + (Int.tmod (wrap64 (a0)) 5))), .int .i64 0, .int .i64 0, .int .i64 0, .string (⟨#[]⟩ : ByteArray)]) ?_ 1 _ rfl; (with_reducible repeat (first | refine blk_drewN ?_ _ | refine blk_drew ?_ | refine blk_alloc ?_ _)); refine blk_put (cs := #[.int .i64 0, .int .i64 0, .int .i64 0, .int .i64 0, .string (⟨#[]⟩ : ByteArray)]) ?_ 0 _ rfl; (with_reducible repeat (first | refine blk_drewN ?_ _ | refine blk_drew ?_ | refine blk_alloc ?_ _)); exact BK217.out⟩, ⟨qB⟩⟩
  ·rw [zD c8] at H
   obtain ⟨c8b0, c8b1⟩ := qn c8
   (first | rw [c8b0] | (simp only [i64_w, i32_w]; rw [c8b0]) | skip)
   have H' := zA H
   clear H
   have z10_0 := bk5 BK217.out
   go_wp2
   go_meet
   case rel => exact ⟨_, (decide ((wrap64 (1 + (Int.tmod (wrap64 (a0)) 5))) > 3)), qT, H', ⟨qO⟩, ⟨by (with_reducible repeat (first | refine blk_drewN ?_ _ | refine blk_drew ?_ | refine blk_alloc ?_ _)); refine blk_put (cs := #[.int .i64 (wrap64 (1 + (Int.tmod (wrap64 (a0)) 5))), .int .i64 0, .int .i64 0, .int .i64 0, .string (⟨#[]⟩ : ByteArray)]) ?_ 4 _ rfl; (with_reducible repeat (first | refine blk_drewN ?_ _ | refine blk_drew ?_ | refine blk_alloc ?_ _)); refine blk_put (cs := #[.int .i64 (wrap64 (1 + (Int.tmod (wrap64 (a0)) 5))), .int .i64 0, .int .i64 0, .int .i64 0, .string (⟨#[]⟩ : ByteArray)]) ?_ 3 _ rfl; (with_reducible repeat (first | refine blk_drewN ?_ _ | refine blk_drew ?_ | refine blk_alloc ?_ _)); refine blk_put (cs := #[.int .i64 (wrap64 (1 + (Int.tmod (wrap64 (a0)) 5))), .int .i64 0, .int .i64 0, .int .i64 0, .string (⟨#[]⟩ : ByteArray)]) ?_ 2 _ rfl; (with_reducible repeat (first | refine blk_drewN ?_ _ | refine blk_drew ?_ | refine blk_alloc ?_ _)); refine blk_put (cs := #[.int .i64 (wrap64 (1 + (Int.tmod (wrap64 (a0)) 5))), .int .i64 0, .int .i64 0, .int .i64 0, .string (⟨#[]⟩ : ByteArray)]) ?_ 1 _ rfl; (with_reducible repeat (first | refine blk_drewN ?_ _ | refine blk_drew ?_ | refine blk_alloc ?_ _)); refine blk_put (cs := #[.int .i64 0, .int .i64 0, .int .i64 0, .int .i64 0, .string (⟨#[]⟩ : ByteArray)]) ?_ 0 _ rfl; (with_reducible repeat (first | refine blk_drewN ?_ _ | refine blk_drew ?_ | refine blk_alloc ?_ _)); exact BK217.out⟩, ⟨qB⟩⟩
 case rest =>
  clear HC5
  try clear p2; try clear c4; try clear p6; try clear c8; try clear c8b0 c8b1; try clear z10_0; try clear z7_0; try clear z9_0
  obtain ⟨kq, x28_4, rfl, HA, HJ4, BK217, HB⟩ := hcut
  cases kq with
  | zero => exact absurd HA.out (by simp [cubbylaw21_AskNumbers.j0])
  | succ kj4 =>
   have H := HA.out
   clear HA
   simp only [cubbylaw21_AskNumbers.j0] at H
   have HC11 := zA H
   clear H
   go_upto_if 28 with (fail)
   go_cut [] (fun wc => ∃ (kq : Nat) (x218001_10 : Int), Aside0 (cubbylaw21_AskNumbers.j1 kq a2 a3 (wrap64 (1 + (Int.tmod (wrap64 (a0)) 5))) x218001_10 0 0 (⟨#[]⟩ : ByteArray) = some r) ∧ Aside0 (kq ≤ kj4) ∧ Aside0 (wc.heap[gb217]? = some (.cells #[.int .i64 (wrap64 (1 + (Int.tmod (wrap64 (a0)) 5))), .int .i64 x218001_10, .int .i64 0, .int .i64 0, .string (⟨#[]⟩ : ByteArray)] 23 (0, 0))) ∧ Aside0 (Below w.heap.size w wc))
   case first =>
    have H := HC11.out
    clear HC11
    by_cases c12 : x28_4 = true
    ·subst c12
     have H1 : (cubbylaw21_AskNumbers.j1 kj4 a2 a3 (wrap64 (1 + (Int.tmod (wrap64 (a0)) 5))) a1 0 0 (⟨#[]⟩ : ByteArray)) = some r := by rw [zC rfl] at H; exact H
     clear H
     have H := H1
     clear H1
     have H' := zA H
     clear H
     have hcz13_0 : wc.cell? ⟨gb217, 0, none⟩ = some (.int .i64 (wrap64 (1 + (Int.tmod (wrap64 (a0)) 5)))) := (blk_cell BK217.out 0).trans rfl
     have hcz13_1 : wc.cell? ⟨gb217, 1, none⟩ = some (.int .i64 0) := (blk_cell BK217.out 1).trans rfl
     have hcz13_2 : wc.cell? ⟨gb217, 2, none⟩ = some (.int .i64 0) := (blk_cell BK217.out 2).trans rfl
     have hcz13_3 : wc.cell? ⟨gb217, 3, none⟩ = some (.int .i64 0) := (blk_cell BK217.out 3).trans rfl
     have hcz13_4 : wc.cell? ⟨gb217, 4, none⟩ = some (.string (⟨#[]⟩ : ByteArray)) := (blk_cell BK217.out 4).trans rfl
     have hfz13_0 := blk_frozen BK217.out 0
     have hfz13_1 := blk_frozen BK217.out 1
     have hfz13_2 := blk_frozen BK217.out 2
     have hfz13_3 := blk_frozen BK217.out 3
     have hfz13_4 := blk_frozen BK217.out 4
     go_wp2
     go_meet
     case rel => exact ⟨_, (a1), H', ⟨by have := HJ4.out; first | omega | exact Nat.le_refl _⟩, ⟨by (with_reducible repeat (first | refine blk_drewN ?_ _ | refine blk_drew ?_ | refine blk_alloc ?_ _)); refine blk_put (cs := #[.int .i64 (wrap64 (1 + (Int.tmod (wrap64 (a0)) 5))), .int .i64 0, .int .i64 0, .int .i64 0, .string (⟨#[]⟩ : ByteArray)]) ?_ 1 _ rfl; (with_reducible repeat (first | refine blk_drewN ?_ _ | refine blk_drew ?_ | refine blk_alloc ?_ _)); exact BK217.out⟩, ⟨qB⟩⟩
    ·replace c12 := Bool.eq_false_iff.mpr c12
     subst c12
     have H1 : (cubbylaw21_AskNumbers.j1 kj4 a2 a3 (wrap64 (1 + (Int.tmod (wrap64 (a0)) 5))) 0 0 0 (⟨#[]⟩ : ByteArray)) = some r := by rw [zD (show ¬ (false = true) by decide)] at H; exact H
     clear H
     have H := H1
     clear H1
     have H' := zA H
     clear H
     go_wp2
     go_meet
     case rel => exact ⟨_, (0), H', ⟨by have := HJ4.out; first | omega | exact Nat.le_refl _⟩, ⟨qK BK217.out⟩, ⟨qB⟩⟩
   case rest =>
    clear HC11
    try clear c1; try clear p2; try clear c4; try clear p6; try clear c8; try clear c8b0 c8b1; try clear c12; try clear z10_0; try clear hcz13_0 hcz13_1 hcz13_2 hcz13_3 hcz13_4 hfz13_0 hfz13_1 hfz13_2 hfz13_3 hfz13_4; try clear z7_0; try clear z9_0
    obtain ⟨kq, x218001_10, HA, HJ10, BK217, HB⟩ := hcut
    cases kq with
    | zero => exact absurd HA.out (by simp [cubbylaw21_AskNumbers.j1])
    | succ kj10 =>
     have H := HA.out
     clear HA
     simp only [cubbylaw21_AskNumbers.j1] at H
     have HC14 := zA H
     clear H
     have hcz15_0 : wc.cell? ⟨gb217, 0, none⟩ = some (.int .i64 (wrap64 (1 + (Int.tmod (wrap64 (a0)) 5)))) := (blk_cell BK217.out 0).trans rfl
     have hcz15_1 : wc.cell? ⟨gb217, 1, none⟩ = some (.int .i64 x218001_10) := (blk_cell BK217.out 1).trans rfl
     have hcz15_2 : wc.cell? ⟨gb217, 2, none⟩ = some (.int .i64 0) := (blk_cell BK217.out 2).trans rfl
     have hcz15_3 : wc.cell? ⟨gb217, 3, none⟩ = some (.int .i64 0) := (blk_cell BK217.out 3).trans rfl
     have hcz15_4 : wc.cell? ⟨gb217, 4, none⟩ = some (.string (⟨#[]⟩ : ByteArray)) := (blk_cell BK217.out 4).trans rfl
     have hfz15_0 := blk_frozen BK217.out 0
     have hfz15_1 := blk_frozen BK217.out 1
     have hfz15_2 := blk_frozen BK217.out 2
     have hfz15_3 := blk_frozen BK217.out 3
     have hfz15_4 := blk_frozen BK217.out 4
     go_upto_if 33 with (fail)
     go_cut [] (fun wc => ∃ (kq : Nat) (x218002_13 : Int), Aside0 (cubbylaw21_AskNumbers.j2 kq a3 (wrap64 (1 + (Int.tmod (wrap64 (a0)) 5))) x218001_10 x218002_13 0 (⟨#[]⟩ : ByteArray) = some r) ∧ Aside0 (kq ≤ kj10) ∧ Aside0 (wc.heap[gb217]? = some (.cells #[.int .i64 (wrap64 (1 + (Int.tmod (wrap64 (a0)) 5))), .int .i64 x218001_10, .int .i64 x218002_13, .int .i64 0, .string (⟨#[]⟩ : ByteArray)] 23 (0, 0))) ∧ Aside0 (Below w.heap.size w wc))
     case first =>
      have H := HC14.out
      clear HC14
      by_cases c16 : (wrap64 (1 + (Int.tmod (wrap64 (a0)) 5))) > 3
      ·rw [zC c16] at H
       have c16b0 : decide (3 < (wrap64 (1 + (Int.tmod (wrap64 (a0)) 5)))) = true := zF c16
       clear c16
       (first | rw [c16b0] | (simp only [i64_w, i32_w]; rw [c16b0]) | skip)
       have H' := zA H
       clear H
       have hcz17_0 : wc.cell? ⟨gb217, 0, none⟩ = some (.int .i64 (wrap64 (1 + (Int.tmod (wrap64 (a0)) 5)))) := (blk_cell BK217.out 0).trans rfl
       have hcz17_1 : wc.cell? ⟨gb217, 1, none⟩ = some (.int .i64 x218001_10) := (blk_cell BK217.out 1).trans rfl
       have hcz17_2 : wc.cell? ⟨gb217, 2, none⟩ = some (.int .i64 0) := (blk_cell BK217.out 2).trans rfl
       have hcz17_3 : wc.cell? ⟨gb217, 3, none⟩ = some (.int .i64 0) := (blk_cell BK217.out 3).trans rfl
       have hcz17_4 : wc.cell? ⟨gb217, 4, none⟩ = some (.string (⟨#[]⟩ : ByteArray)) := (blk_cell BK217.out 4).trans rfl
       have hfz17_0 := blk_frozen BK217.out 0
       have hfz17_1 := blk_frozen BK217.out 1
       have hfz17_2 := blk_frozen BK217.out 2
       have hfz17_3 := blk_frozen BK217.out 3
       have hfz17_4 := blk_frozen BK217.out 4
       go_wp2
       go_meet
       case rel => exact ⟨_, (a2), H', ⟨by have := HJ4.out; have := HJ10.out; first | omega | exact Nat.le_refl _⟩, ⟨by (with_reducible repeat (first | refine blk_drewN ?_ _ | refine blk_drew ?_ | refine blk_alloc ?_ _)); refine blk_put (cs := #[.int .i64 (wrap64 (1 + (Int.tmod (wrap64 (a0)) 5))), .int .i64 x218001_10, .int .i64 0, .int .i64 0, .string (⟨#[]⟩ : ByteArray)]) ?_ 2 _ rfl; (with_reducible repeat (first | refine blk_drewN ?_ _ | refine blk_drew ?_ | refine blk_alloc ?_ _)); exact BK217.out⟩, ⟨qB⟩⟩
      ·rw [zD c16] at H
       have c16b0 : decide (3 < (wrap64 (1 + (Int.tmod (wrap64 (a0)) 5)))) = false := zG c16
       clear c16
       (first | rw [c16b0] | (simp only [i64_w, i32_w]; rw [c16b0]) | skip)
       have H' := zA H
       clear H
       go_wp2
       go_meet
       case rel => exact ⟨_, (0), H', ⟨by have := HJ4.out; have := HJ10.out; first | omega | exact Nat.le_refl _⟩, ⟨qK BK217.out⟩, ⟨qB⟩⟩
     case rest =>
      clear HC14
      try clear c1; try clear p2; try clear c4; try clear p6; try clear c8; try clear c8b0 c8b1; try clear c12; try clear c16; try clear c16b0; try clear z10_0; try clear hcz13_0 hcz13_1 hcz13_2 hcz13_3 hcz13_4 hfz13_0 hfz13_1 hfz13_2 hfz13_3 hfz13_4; try clear hcz15_0 hcz15_1 hcz15_2 hcz15_3 hcz15_4 hfz15_0 hfz15_1 hfz15_2 hfz15_3 hfz15_4; try clear hcz17_0 hcz17_1 hcz17_2 hcz17_3 hcz17_4 hfz17_0 hfz17_1 hfz17_2 hfz17_3 hfz17_4; try clear z7_0; try clear z9_0
      obtain ⟨kq, x218002_13, HA, HJ13, BK217, HB⟩ := hcut
      cases kq with
      | zero => exact absurd HA.out (by simp [cubbylaw21_AskNumbers.j2])
      | succ kj13 =>
       have H := HA.out
       clear HA
       simp only [cubbylaw21_AskNumbers.j2] at H
       have HC18 := zA H
       clear H
       have hcz19_0 : wc.cell? ⟨gb217, 0, none⟩ = some (.int .i64 (wrap64 (1 + (Int.tmod (wrap64 (a0)) 5)))) := (blk_cell BK217.out 0).trans rfl
       have hcz19_1 : wc.cell? ⟨gb217, 1, none⟩ = some (.int .i64 x218001_10) := (blk_cell BK217.out 1).trans rfl
       have hcz19_2 : wc.cell? ⟨gb217, 2, none⟩ = some (.int .i64 x218002_13) := (blk_cell BK217.out 2).trans rfl
       have hcz19_3 : wc.cell? ⟨gb217, 3, none⟩ = some (.int .i64 0) := (blk_cell BK217.out 3).trans rfl
       have hcz19_4 : wc.cell? ⟨gb217, 4, none⟩ = some (.string (⟨#[]⟩ : ByteArray)) := (blk_cell BK217.out 4).trans rfl
       have hfz19_0 := blk_frozen BK217.out 0
       have hfz19_1 := blk_frozen BK217.out 1
       have hfz19_2 := blk_frozen BK217.out 2
       have hfz19_3 := blk_frozen BK217.out 3
       have hfz19_4 := blk_frozen BK217.out 4
       go_upto_if 38 with (fail)
       go_cut [] (fun wc => ∃ (kq : Nat) (x218003_17 : Int), Aside0 (cubbylaw21_AskNumbers.j3 kq (wrap64 (1 + (Int.tmod (wrap64 (a0)) 5))) x218001_10 x218002_13 x218003_17 (⟨#[]⟩ : ByteArray) = some r) ∧ Aside0 (kq ≤ kj13) ∧ Aside0 (wc.heap[gb217]? = some (.cells #[.int .i64 (wrap64 (1 + (Int.tmod (wrap64 (a0)) 5))), .int .i64 x218001_10, .int .i64 x218002_13, .int .i64 x218003_17, .string (⟨#[]⟩ : ByteArray)] 23 (0, 0))) ∧ Aside0 (Below w.heap.size w wc))
       case first =>
        have H := HC18.out
        clear HC18
        by_cases c20 : (wrap64 (1 + (Int.tmod (wrap64 (a0)) 5))) = 5
        ·rw [zC c20] at H
         obtain ⟨c20b0, c20b1⟩ := qe c20; clear c20
         (first | rw [c20b0] | (simp only [i64_w, i32_w]; rw [c20b0]) | skip)
         have H' := zA H
         clear H
         have hcz21_0 : wc.cell? ⟨gb217, 0, none⟩ = some (.int .i64 (wrap64 (1 + (Int.tmod (wrap64 (a0)) 5)))) := (blk_cell BK217.out 0).trans rfl
         have hcz21_1 : wc.cell? ⟨gb217, 1, none⟩ = some (.int .i64 x218001_10) := (blk_cell BK217.out 1).trans rfl
         have hcz21_2 : wc.cell? ⟨gb217, 2, none⟩ = some (.int .i64 x218002_13) := (blk_cell BK217.out 2).trans rfl
         have hcz21_3 : wc.cell? ⟨gb217, 3, none⟩ = some (.int .i64 0) := (blk_cell BK217.out 3).trans rfl
         have hcz21_4 : wc.cell? ⟨gb217, 4, none⟩ = some (.string (⟨#[]⟩ : ByteArray)) := (blk_cell BK217.out 4).trans rfl
         have hfz21_0 := blk_frozen BK217.out 0
         have hfz21_1 := blk_frozen BK217.out 1
         have hfz21_2 := blk_frozen BK217.out 2
         have hfz21_3 := blk_frozen BK217.out 3
         have hfz21_4 := blk_frozen BK217.out 4
         go_wp2
         go_meet
         case rel => exact ⟨_, (a3), H', ⟨by have := HJ4.out; have := HJ10.out; have := HJ13.out; first | omega | exact Nat.le_refl _⟩, ⟨by (with_reducible repeat (first | refine blk_drewN ?_ _ | refine blk_drew ?_ | refine blk_alloc ?_ _)); refine blk_put (cs := #[.int .i64 (wrap64 (1 + (Int.tmod (wrap64 (a0)) 5))), .int .i64 x218001_10, .int .i64 x218002_13, .int .i64 0, .string (⟨#[]⟩ : ByteArray)]) ?_ 3 _ rfl; (with_reducible repeat (first | refine blk_drewN ?_ _ | refine blk_drew ?_ | refine blk_alloc ?_ _)); exact BK217.out⟩, ⟨qB⟩⟩
        ·rw [zD c20] at H
         obtain ⟨c20b0, c20b1⟩ := qn c20
         (first | rw [c20b0] | (simp only [i64_w, i32_w]; rw [c20b0]) | skip)
         have H' := zA H
         clear H
         go_wp2
         go_meet
         case rel => exact ⟨_, (0), H', ⟨by have := HJ4.out; have := HJ10.out; have := HJ13.out; first | omega | exact Nat.le_refl _⟩, ⟨qK BK217.out⟩, ⟨qB⟩⟩
       case rest =>
        clear HC18
        try clear c1; try clear c2; try clear p2; try clear c4; try clear p6; try clear c8; try clear c8b0 c8b1; try clear c12; try clear c16; try clear c16b0; try clear c20; try clear c20b0 c20b1; try clear z10_0; try clear hcz13_0 hcz13_1 hcz13_2 hcz13_3 hcz13_4 hfz13_0 hfz13_1 hfz13_2 hfz13_3 hfz13_4; try clear hcz15_0 hcz15_1 hcz15_2 hcz15_3 hcz15_4 hfz15_0 hfz15_1 hfz15_2 hfz15_3 hfz15_4; try clear hcz17_0 hcz17_1 hcz17_2 hcz17_3 hcz17_4 hfz17_0 hfz17_1 hfz17_2 hfz17_3 hfz17_4; try clear hcz19_0 hcz19_1 hcz19_2 hcz19_3 hcz19_4 hfz19_0 hfz19_1 hfz19_2 hfz19_3 hfz19_4; try clear hcz21_0 hcz21_1 hcz21_2 hcz21_3 hcz21_4 hfz21_0 hfz21_1 hfz21_2 hfz21_3 hfz21_4; try clear z7_0; try clear z9_0
        obtain ⟨kq, x218003_17, HA, HJ17, BK217, HB⟩ := hcut
        cases kq with
        | zero => exact absurd HA.out (by simp [cubbylaw21_AskNumbers.j3])
        | succ kj17 =>
         have H := HA.out
         clear HA
         simp only [cubbylaw21_AskNumbers.j3] at H
         replace H := Option.bind_eq_some_iff.mp H
         obtain ⟨⟨t218, t219⟩, A220, H⟩ := H
         replace H : ((cubbyref21_Tell.f kj17 (wrap64 (1 + (Int.tmod (wrap64 (a0)) 5))) x218001_10 x218002_13 x218003_17 (⟨#[]⟩ : ByteArray)).bind fun bt220 => (if t219 = bt220.2 then ((ask_Hear.f t218).bind fun bt222 => (if t219 = 0 then (if bt222.2.2.2.2.2 = 0 then (some (bt222.1 == (wrap64 (1 + (Int.tmod (wrap64 (a0)) 5))) && (bt222.2.1 == x218001_10 && (bt222.2.2.1 == x218002_13 && (bt222.2.2.2.1 == x218003_17 && (bt222.2.2.2.2.1.toList == (⟨#[]⟩ : ByteArray).toList)))))) else (some false)) else (some true))) else (some false))) = some r := H
         have A22 := zA A220
         clear A220
         replace H := Option.bind_eq_some_iff.mp H
         obtain ⟨⟨t220, t221⟩, A230, H⟩ := H
         replace H : (if t219 = t221 then ((ask_Hear.f t218).bind fun bt222 => (if t219 = 0 then (if bt222.2.2.2.2.2 = 0 then (some (bt222.1 == (wrap64 (1 + (Int.tmod (wrap64 (a0)) 5))) && (bt222.2.1 == x218001_10 && (bt222.2.2.1 == x218002_13 && (bt222.2.2.2.1 == x218003_17 && (bt222.2.2.2.2.1.toList == (⟨#[]⟩ : ByteArray).toList)))))) else (some false)) else (some true))) else (some false)) = some r := H
         have A23 := zA A230
         clear A230
         by_cases c24 : t219 = t221
         ·rw [zC c24] at H
          obtain ⟨c24b0, c24b1⟩ := qe c24; clear c24
          replace H := Option.bind_eq_some_iff.mp H
          obtain ⟨⟨t222, t223, t224, t225, t226, t227⟩, A250, H⟩ := H
          replace H : (if t219 = 0 then (if t227 = 0 then (some (t222 == (wrap64 (1 + (Int.tmod (wrap64 (a0)) 5))) && (t223 == x218001_10 && (t224 == x218002_13 && (t225 == x218003_17 && (t226.toList == (⟨#[]⟩ : ByteArray).toList)))))) else (some false)) else (some true)) = some r := H
          have A25 := zA A250
          clear A250
          by_cases c26 : t219 = 0
          ·rw [zC c26] at H
           obtain ⟨c26b0, c26b1⟩ := qe c26; clear c26
           by_cases c27 : t227 = 0
           ·rw [zC c27] at H
            obtain ⟨c27b0, c27b1⟩ := qe c27; clear c27
            obtain rfl := zI H
            have hcz28_0 : wc.cell? ⟨gb217, 0, none⟩ = some (.int .i64 (wrap64 (1 + (Int.tmod (wrap64 (a0)) 5)))) := (blk_cell BK217.out 0).trans rfl
            have hcz28_1 : wc.cell? ⟨gb217, 1, none⟩ = some (.int .i64 x218001_10) := (blk_cell BK217.out 1).trans rfl
            have hcz28_2 : wc.cell? ⟨gb217, 2, none⟩ = some (.int .i64 x218002_13) := (blk_cell BK217.out 2).trans rfl
            have hcz28_3 : wc.cell? ⟨gb217, 3, none⟩ = some (.int .i64 x218003_17) := (blk_cell BK217.out 3).trans rfl
            have hcz28_4 : wc.cell? ⟨gb217, 4, none⟩ = some (.string (⟨#[]⟩ : ByteArray)) := (blk_cell BK217.out 4).trans rfl
            have hfz28_0 := blk_frozen BK217.out 0
            have hfz28_1 := blk_frozen BK217.out 1
            have hfz28_2 := blk_frozen BK217.out 2
            have hfz28_3 := blk_frozen BK217.out 3
            have hfz28_4 := blk_frozen BK217.out 4
            go_wp2_with (first | ((with_reducible refine gate_callee (f := 8) rfl ?_); refine goesL_ (some 43) rfl rfl Tryd.func8 (by kernel_rfl) rfl #[.agg #[.int .i64 (wrap64 (1 + (Int.tmod (wrap64 (a0)) 5))), .int .i64 x218001_10, .int .i64 x218002_13, .int .i64 x218003_17, .string (⟨#[]⟩ : ByteArray)]] rfl qL ?_; (with_reducible refine (ask_Tell.calls kj17 (wrap64 (1 + (Int.tmod (wrap64 (a0)) 5))) x218001_10 x218002_13 x218003_17 (⟨#[]⟩ : ByteArray) t218 t219 _ A22.out (hL := ?side99)).mono ?_); (case side99 => exact LaidW.below HLd.out qB); rintro e w29 ⟨rfl, hb⟩; refine ⟨_, rfl, ?_⟩; replace BK217 := qW BK217 hb; replace HB := qH hb; (try clear hb); have hcz30_0 : w29.cell? ⟨gb217, 0, none⟩ = some (.int .i64 (wrap64 (1 + (Int.tmod (wrap64 (a0)) 5)))) := (blk_cell BK217.out 0).trans rfl; have hcz30_1 : w29.cell? ⟨gb217, 1, none⟩ = some (.int .i64 x218001_10) := (blk_cell BK217.out 1).trans rfl; have hcz30_2 : w29.cell? ⟨gb217, 2, none⟩ = some (.int .i64 x218002_13) := (blk_cell BK217.out 2).trans rfl; have hcz30_3 : w29.cell? ⟨gb217, 3, none⟩ = some (.int .i64 x218003_17) := (blk_cell BK217.out 3).trans rfl; have hcz30_4 : w29.cell? ⟨gb217, 4, none⟩ = some (.string (⟨#[]⟩ : ByteArray)) := (blk_cell BK217.out 4).trans rfl; have hfz30_0 := blk_frozen BK217.out 0; have hfz30_1 := blk_frozen BK217.out 1; have hfz30_2 := blk_frozen BK217.out 2; have hfz30_3 := blk_frozen BK217.out 3; have hfz30_4 := blk_frozen BK217.out 4) | ((with_reducible refine gate_callee (f := 9) rfl ?_); refine goesL_ (some 56) rfl rfl Tryd.func9 (by kernel_rfl) rfl #[.agg #[.int .i64 (wrap64 (1 + (Int.tmod (wrap64 (a0)) 5))), .int .i64 x218001_10, .int .i64 x218002_13, .int .i64 x218003_17, .string (⟨#[]⟩ : ByteArray)]] rfl qL ?_; (with_reducible refine (cubbyref21_Tell.calls kj17 (wrap64 (1 + (Int.tmod (wrap64 (a0)) 5))) x218001_10 x218002_13 x218003_17 (⟨#[]⟩ : ByteArray) t220 t221 _ A23.out).mono ?_); rintro e w31 ⟨rfl, hb⟩; refine ⟨_, rfl, ?_⟩; replace BK217 := qW BK217 hb; replace HB := qH hb; (try clear hb)) | ((with_reducible refine gate_callee (f := 6) rfl ?_); refine goesL_ (some 64) rfl rfl Tryd.func6 (by kernel_rfl) rfl #[.string t218] rfl qL ?_; (with_reducible refine (ask_Hear.calls t218 t222 t223 t224 t225 t226 t227 _ A25.out (hL := ?side99)).mono ?_); (case side99 => exact LaidW.below HLd.out qB); rintro e w32 ⟨rfl, hb⟩; refine ⟨_, rfl, ?_⟩; replace BK217 := qW BK217 hb; replace HB := qH hb; (try clear hb)) | ((with_reducible refine gate_dst (N := 14) rfl ?_); refine box_event (by rfl) (N := 14) (by rfl) (cs := #[.int .i64 0, .int .i64 0, .int .i64 0, .int .i64 0, .string (⟨#[]⟩ : ByteArray)]) (t := 23) ?hr ?_; (case hr => go_simp <;> rfl); intro gb228 hg w33 hbox hb; have BK228 := zA (hbox); have GW228 := qG hg; have GE228 := GW228; replace HB := qH hb; have NB217_228 := zA ((by rw [hg]; exact Nat.ne_of_lt (blk_lt (g := gb217) (o := .cells #[.int .i64 (wrap64 (1 + (Int.tmod (wrap64 (a0)) 5))), .int .i64 x218001_10, .int .i64 x218002_13, .int .i64 x218003_17, .string (⟨#[]⟩ : ByteArray)] 23 (0, 0)) (qK BK217.out)) : gb217 ≠ gb228)); have NB228_217 := zA ((by rw [hg]; exact Nat.ne_of_gt (blk_lt (g := gb217) (o := .cells #[.int .i64 (wrap64 (1 + (Int.tmod (wrap64 (a0)) 5))), .int .i64 x218001_10, .int .i64 x218002_13, .int .i64 x218003_17, .string (⟨#[]⟩ : ByteArray)] 23 (0, 0)) (qK BK217.out)) : gb228 ≠ gb217)); replace BK217 := qW BK217 hb; clear hb hbox hg; have hnb34 := NB228_217.out; have hnc34 := NB217_228.out; have z35_0 := bk5 BK228.out; have hcz36_0 : w33.cell? ⟨gb217, 0, none⟩ = some (.int .i64 (wrap64 (1 + (Int.tmod (wrap64 (a0)) 5)))) := (blk_cell BK217.out 0).trans rfl; have hcz36_1 : w33.cell? ⟨gb217, 1, none⟩ = some (.int .i64 x218001_10) := (blk_cell BK217.out 1).trans rfl; have hcz36_2 : w33.cell? ⟨gb217, 2, none⟩ = some (.int .i64 x218002_13) := (blk_cell BK217.out 2).trans rfl; have hcz36_3 : w33.cell? ⟨gb217, 3, none⟩ = some (.int .i64 x218003_17) := (blk_cell BK217.out 3).trans rfl; have hcz36_4 : w33.cell? ⟨gb217, 4, none⟩ = some (.string (⟨#[]⟩ : ByteArray)) := (blk_cell BK217.out 4).trans rfl; have hfz36_0 := blk_frozen BK217.out 0; have hfz36_1 := blk_frozen BK217.out 1; have hfz36_2 := blk_frozen BK217.out 2; have hfz36_3 := blk_frozen BK217.out 3; have hfz36_4 := blk_frozen BK217.out 4))
            go_ret
            exact ⟨qE, qB⟩
           ·rw [zD c27] at H
            obtain ⟨c27b0, c27b1⟩ := qn c27
            exact absurd ((zI H).trans HRt.out) (by decide)
          ·rw [zD c26] at H
           obtain ⟨c26b0, c26b1⟩ := qn c26
           obtain rfl := zI H
           have hcz37_0 : wc.cell? ⟨gb217, 0, none⟩ = some (.int .i64 (wrap64 (1 + (Int.tmod (wrap64 (a0)) 5)))) := (blk_cell BK217.out 0).trans rfl
           have hcz37_1 : wc.cell? ⟨gb217, 1, none⟩ = some (.int .i64 x218001_10) := (blk_cell BK217.out 1).trans rfl
           have hcz37_2 : wc.cell? ⟨gb217, 2, none⟩ = some (.int .i64 x218002_13) := (blk_cell BK217.out 2).trans rfl
           have hcz37_3 : wc.cell? ⟨gb217, 3, none⟩ = some (.int .i64 x218003_17) := (blk_cell BK217.out 3).trans rfl
           have hcz37_4 : wc.cell? ⟨gb217, 4, none⟩ = some (.string (⟨#[]⟩ : ByteArray)) := (blk_cell BK217.out 4).trans rfl
           have hfz37_0 := blk_frozen BK217.out 0
           have hfz37_1 := blk_frozen BK217.out 1
           have hfz37_2 := blk_frozen BK217.out 2
           have hfz37_3 := blk_frozen BK217.out 3
           have hfz37_4 := blk_frozen BK217.out 4
           go_wp2_with (first | ((with_reducible refine gate_callee (f := 8) rfl ?_); refine goesL_ (some 43) rfl rfl Tryd.func8 (by kernel_rfl) rfl #[.agg #[.int .i64 (wrap64 (1 + (Int.tmod (wrap64 (a0)) 5))), .int .i64 x218001_10, .int .i64 x218002_13, .int .i64 x218003_17, .string (⟨#[]⟩ : ByteArray)]] rfl qL ?_; (with_reducible refine (ask_Tell.calls kj17 (wrap64 (1 + (Int.tmod (wrap64 (a0)) 5))) x218001_10 x218002_13 x218003_17 (⟨#[]⟩ : ByteArray) t218 t219 _ A22.out (hL := ?side99)).mono ?_); (case side99 => exact LaidW.below HLd.out qB); rintro e w38 ⟨rfl, hb⟩; refine ⟨_, rfl, ?_⟩; replace BK217 := qW BK217 hb; replace HB := qH hb; (try clear hb); have hcz39_0 : w38.cell? ⟨gb217, 0, none⟩ = some (.int .i64 (wrap64 (1 + (Int.tmod (wrap64 (a0)) 5)))) := (blk_cell BK217.out 0).trans rfl; have hcz39_1 : w38.cell? ⟨gb217, 1, none⟩ = some (.int .i64 x218001_10) := (blk_cell BK217.out 1).trans rfl; have hcz39_2 : w38.cell? ⟨gb217, 2, none⟩ = some (.int .i64 x218002_13) := (blk_cell BK217.out 2).trans rfl; have hcz39_3 : w38.cell? ⟨gb217, 3, none⟩ = some (.int .i64 x218003_17) := (blk_cell BK217.out 3).trans rfl; have hcz39_4 : w38.cell? ⟨gb217, 4, none⟩ = some (.string (⟨#[]⟩ : ByteArray)) := (blk_cell BK217.out 4).trans rfl; have hfz39_0 := blk_frozen BK217.out 0; have hfz39_1 := blk_frozen BK217.out 1; have hfz39_2 := blk_frozen BK217.out 2; have hfz39_3 := blk_frozen BK217.out 3; have hfz39_4 := blk_frozen BK217.out 4) | ((with_reducible refine gate_callee (f := 9) rfl ?_); refine goesL_ (some 56) rfl rfl Tryd.func9 (by kernel_rfl) rfl #[.agg #[.int .i64 (wrap64 (1 + (Int.tmod (wrap64 (a0)) 5))), .int .i64 x218001_10, .int .i64 x218002_13, .int .i64 x218003_17, .string (⟨#[]⟩ : ByteArray)]] rfl qL ?_; (with_reducible refine (cubbyref21_Tell.calls kj17 (wrap64 (1 + (Int.tmod (wrap64 (a0)) 5))) x218001_10 x218002_13 x218003_17 (⟨#[]⟩ : ByteArray) t220 t221 _ A23.out).mono ?_); rintro e w40 ⟨rfl, hb⟩; refine ⟨_, rfl, ?_⟩; replace BK217 := qW BK217 hb; replace HB := qH hb; (try clear hb)) | ((with_reducible refine gate_callee (f := 6) rfl ?_); refine goesL_ (some 64) rfl rfl Tryd.func6 (by kernel_rfl) rfl #[.string t218] rfl qL ?_; (with_reducible refine (ask_Hear.calls t218 t222 t223 t224 t225 t226 t227 _ A25.out (hL := ?side99)).mono ?_); (case side99 => exact LaidW.below HLd.out qB); rintro e w41 ⟨rfl, hb⟩; refine ⟨_, rfl, ?_⟩; replace BK217 := qW BK217 hb; replace HB := qH hb; (try clear hb)) | ((with_reducible refine gate_dst (N := 14) rfl ?_); refine box_event (by rfl) (N := 14) (by rfl) (cs := #[.int .i64 0, .int .i64 0, .int .i64 0, .int .i64 0, .string (⟨#[]⟩ : ByteArray)]) (t := 23) ?hr ?_; (case hr => go_simp <;> rfl); intro gb228 hg w42 hbox hb; have BK228 := zA (hbox); have GW228 := qG hg; have GE228 := GW228; replace HB := qH hb; have NB217_228 := zA ((by rw [hg]; exact Nat.ne_of_lt (blk_lt (g := gb217) (o := .cells #[.int .i64 (wrap64 (1 + (Int.tmod (wrap64 (a0)) 5))), .int .i64 x218001_10, .int .i64 x218002_13, .int .i64 x218003_17, .string (⟨#[]⟩ : ByteArray)] 23 (0, 0)) (qK BK217.out)) : gb217 ≠ gb228)); have NB228_217 := zA ((by rw [hg]; exact Nat.ne_of_gt (blk_lt (g := gb217) (o := .cells #[.int .i64 (wrap64 (1 + (Int.tmod (wrap64 (a0)) 5))), .int .i64 x218001_10, .int .i64 x218002_13, .int .i64 x218003_17, .string (⟨#[]⟩ : ByteArray)] 23 (0, 0)) (qK BK217.out)) : gb228 ≠ gb217)); replace BK217 := qW BK217 hb; clear hb hbox hg; have hnb43 := NB228_217.out; have hnc43 := NB217_228.out; have z44_0 := bk5 BK228.out))
           go_ret
           exact ⟨qE, qB⟩
         ·rw [zD c24] at H
          obtain ⟨c24b0, c24b1⟩ := qn c24
          exact absurd ((zI H).trans HRt.out) (by decide)
end Go.Proofs.YtmojmnhaabonpaaDoor.Q
namespace Go.Proofs.YtmojmnhaabonpaaDoor.RAskNumbers
open Go Go.RowKit Go.Proofs.YtmojmnhaabonpaaDoorW.PrintWords Go.Proofs.YtmojmnhaabonpaaDoor.Q
set_option linter.unusedVariables false
def AskNumbers.Pure : Prop := ∀ (a0 : Int) (a1 : Int) (a2 : Int) (a3 : Int), (Lit.int .u8 (a0)).wf = true → (Lit.int .i64 (a1)).wf = true → (Lit.int .i64 (a2)).wf = true → (Lit.int .i64 (a3)).wf = true → ∃ k, cubbylaw21_AskNumbers.f k a0 a1 a2 a3 = some true
end Go.Proofs.YtmojmnhaabonpaaDoor.RAskNumbers
namespace Go.Proofs.YtmojmnhaabonpaaDoor.Q
open Go.RowKit Go.Proofs.YtmojmnhaabonpaaDoorW.PrintWords Go.Proofs.YtmojmnhaabonpaaDoorW.PrintLast Go.Proofs.YtmojmnhaabonpaaDoorW.PrintMore
attribute [local go_sem] max2_int min2_int max_two min_two max_three min_three max_four min_four
set_option linter.unusedVariables false
set_option linter.unusedSimpArgs false

mutual
def cubbyref08_Number.j0 : Nat → ByteArray → Bool → Option (Int × Bool)
 | 0, _, _ => none
 | k + 1, x0, x23 => if x23 = true then (some (0, false)) else (cubbyref08_Number.l0 k x0 0 0)
def cubbyref08_Number.l0 : Nat → ByteArray → Int → Int → Option (Int × Bool)
 | 0, _, _, _ => none
 | k + 1, x0, x4, x5 => if x5 < (x0.size : Int) then (if 0 ≤ x5 then (if (bt x0 x5) < 48 then (some (0, false)) else (if (bt x0 x5) > 57 then (some (0, false)) else (cubbyref08_Number.l0 k x0 (wrap64 ((wrap64 (x4 * 10)) + (((bt x0 x5) - 48) % 256))) (wrap64 (x5 + 1))))) else (none)) else (some (x4, decide (x4 ≤ 2147483647)))
end
def cubbyref08_Number.f (k : Nat) (a0 : ByteArray) : Option (Int × Bool) := if (a0.size : Int) < 1 then (cubbyref08_Number.j0 k a0 true) else (if (a0.size : Int) > 10 then (cubbyref08_Number.j0 k a0 true) else (if 0 < (a0.size : Int) then (if (bt a0 0) = 48 then (cubbyref08_Number.j0 k a0 (decide ((a0.size : Int) > 1))) else (cubbyref08_Number.j0 k a0 false)) else (none)))
end Go.Proofs.YtmojmnhaabonpaaDoor.Q
namespace Go.Proofs.YtmojmnhaabonpaaDoor.PlainNum
open Go Go.RowKit Go.Proofs.YtmojmnhaabonpaaDoorW.PrintWords Go.Proofs.YtmojmnhaabonpaaDoorW.PrintMore Go.Proofs.YtmojmnhaabonpaaDoor.Q Go.Proofs.YtmojmnhaabonpaaDoor.Plain
set_option linter.unusedVariables false
theorem dec_small {u : Nat} (h : u < 10) : Lib.decDigits u = [UInt8.ofNat (48 + u)] := Lib.decDigits_one h
theorem dec_big {u : Nat} (h : ¬ u < 10) : Lib.decDigits u = Lib.decDigits (u / 10) ++ [UInt8.ofNat (48 + u % 10)] := by rw [Lib.decDigits, dif_neg h]
theorem digit_nat {d : Nat} (h : d < 10) : (UInt8.ofNat (48 + d)).toNat = 48 + d := by simp; omega
theorem dec_mem : ∀ (u : Nat), ∀ b ∈ Lib.decDigits u, 48 ≤ b.toNat ∧ b.toNat ≤ 57 := by
 intro u
 induction u using Nat.strongRecOn with
 | _ u ih =>
  by_cases h : u < 10
  ·rw [dec_small h]; intro b hb; rw [List.mem_singleton.1 hb, digit_nat h]; omega
  ·rw [dec_big h]; intro b hb
   rcases List.mem_append.1 hb with hb | hb
   ·exact ih (u / 10) (by omega) b hb
   ·rw [List.mem_singleton.1 hb, digit_nat (by omega)]; omega
theorem dec_ne (u : Nat) : Lib.decDigits u ≠ [] := by
 by_cases h : u < 10
 ·rw [dec_small h]; simp
 ·rw [dec_big h]; simp
theorem dec_len : ∀ (k u : Nat), u < 10 ^ (k + 1) → (Lib.decDigits u).length ≤ k + 1
 | 0, u, h => by rw [dec_small (by simpa using h)]; simp
 | k + 1, u, h => by
  by_cases h1 : u < 10
  ·rw [dec_small h1]; simp
  ·have := dec_len k (u / 10) (by rw [Nat.pow_succ] at h; omega)
   rw [dec_big h1]; simp; omega
theorem from_snoc : ∀ (l : List UInt8) (acc n : Nat) (d : Nat), Lib.decFrom acc l = some n → d < 10 → Lib.decFrom acc (l ++ [UInt8.ofNat (48 + d)]) = some (n * 10 + d)
 | [], acc, n, d, h, hd => by
  simp only [Lib.decFrom, Option.some.injEq] at h
  subst h
  have : Lib.digitVal (UInt8.ofNat (48 + d)) = some d := by unfold Lib.digitVal; rw [digit_nat hd, zC (by omega)]; congr 1; omega
  simp only [List.nil_append, Lib.decFrom, this]
 | b :: l, acc, n, d, h, hd => by
  simp only [List.cons_append, Lib.decFrom] at h ⊢
  cases hv : Lib.digitVal b with
  | none => rw [hv] at h; simp at h
  | some v => rw [hv] at h; simp only at h ⊢; exact from_snoc l _ n d h hd
theorem dec_val : ∀ (u : Nat), Lib.decFrom 0 (Lib.decDigits u) = some u := by
 intro u
 induction u using Nat.strongRecOn with
 | _ u ih =>
  by_cases h : u < 10
  ·rw [dec_small h]; have := from_snoc [] 0 0 u rfl h; simpa using this
  ·rw [dec_big h, from_snoc _ 0 _ (u % 10) (ih (u / 10) (by omega)) (by omega)]; congr 1; omega
theorem dec_atoi {u : Nat} (h : u < 10000000000) : Lib.atoiAll (Lib.decDigits u) = .ok (u : Int) := by
 have hl := dec_len 9 u (by simpa using h)
 rw [Lib.atoiAll_short _ (by omega)]
 have hv := dec_val u
 have hm := dec_mem u
 cases hd : Lib.decDigits u with
 | nil => exact absurd hd (dec_ne u)
 | cons b r =>
  rw [hd] at hv hm
  have hb := hm b List.mem_cons_self
  have e1 : (b == 45) = false := by rw [beq_eq_false_iff_ne]; intro e; subst e; simp at hb
  have e2 : (b == 43) = false := by rw [beq_eq_false_iff_ne]; intro e; subst e; simp at hb
  unfold Lib.atoi
  simp only [e1, e2, Bool.false_eq_true, if_false, Lib.decNat, List.isEmpty_cons, hv, Option.map_some, Lib.NumEnd.ofOption]
def num (n : Int) : ByteArray := ⟨(Lib.decDigits n.toNat).toArray⟩
theorem num_list (n : Int) : (num n).data.toList = Lib.decDigits n.toNat := by simp [num]
theorem itoa_num {n : Int} (h : 0 ≤ n) : (⟨(Lib.itoa n).toArray⟩ : ByteArray) = num n := by
 unfold num Lib.itoa
 rw [zD (by omega)]
theorem numOf_num {n : Int} (h0 : 0 ≤ n) (h1 : n < 2147483648) : numOf (num n) = some n := by
 have h := dec_atoi (u := n.toNat) (by omega)
 rw [← num_list, Int.toNat_of_nonneg h0] at h
 rw [numOf_ok h, zC ⟨h0, h1, itoa_num h0⟩]
theorem numOf_some {t : ByteArray} {v : Int} (h : numOf t = some v) : 0 ≤ v ∧ v < 2147483648 ∧ t = num v := by
 unfold numOf at h
 split at h
 ·split at h
  ·rename_i hc
   obtain rfl := zI h
   exact ⟨hc.1, hc.2.1, by rw [← hc.2.2, itoa_num hc.1]⟩
  ·cases h
 ·cases h
theorem num_size {n : Int} (h1 : n < 2147483648) : (num n).size ≤ 10 := by
 have := dec_len 9 n.toNat (by have e10 : (10 : Nat) ^ (9 + 1) = 10000000000 := (by decide); omega)
 show (num n).data.size ≤ 10
 rw [← Array.length_toList, num_list]
 exact this
def tens : ByteArray := ⟨#[48, 49, 50, 51, 52, 53, 54, 55, 56, 57]⟩
theorem tens_at {d : Nat} (h : d < 10) : (tens.extract d (d + 1)).data.toList = [UInt8.ofNat (48 + d)] := by
 have : d = 0 ∨ d = 1 ∨ d = 2 ∨ d = 3 ∨ d = 4 ∨ d = 5 ∨ d = 6 ∨ d = 7 ∨ d = 8 ∨ d = 9 := by omega
 rcases this with rfl | rfl | rfl | rfl | rfl | rfl | rfl | rfl | rfl | rfl <;> rfl
theorem tens_size {d : Nat} (h : d < 10) : ((⟨#[48, 49, 50, 51, 52, 53, 54, 55, 56, 57]⟩ : ByteArray).extract d (d + 1)).size = 1 := by
 show (tens.extract d (d + 1)).data.size = 1
 rw [← Array.length_toList, tens_at h]; rfl
theorem ba_ext {a b : ByteArray} (h : a.data.toList = b.data.toList) : a = b := toList_inj.1 (by rw [toList_data, toList_data, h])
theorem digits_loop : ∀ (d : Nat) (n : Nat) (acc : ByteArray), n < 10 ^ (d + 1) → n ≤ 4611686018427387904 → acc.size + d ≤ 1000 → Ev (fun k => cubbyref08_Digits.l0 k (n : Int) acc) (⟨(Lib.decDigits n ++ acc.data.toList).toArray⟩ : ByteArray)
 | d, n, acc, hn, hb, ha => by
  by_cases h : n < 10
  ·refine ⟨1, fun k hk => ?_⟩
   obtain ⟨q, rfl⟩ : ∃ q, k = q + 1 := ⟨k - 1, by omega⟩
   simp only [cubbyref08_Digits.l0]
   have e1 : wrap64 ((n : Int) + 1) = ((n + 1 : Nat) : Int) := wrap_nat (by omega)
   rw [zD (by omega), zC (by omega), e1, zC (by omega), zC (by omega), Int.toNat_natCast, Int.toNat_natCast]
   have e2 := tens_size h
   rw [zC (by rw [e2]; omega)]
   congr 1
   refine ba_ext ?_
   rw [ByteArray.data_append, Array.toList_append, dec_small h]
   rw [show ((⟨#[48, 49, 50, 51, 52, 53, 54, 55, 56, 57]⟩ : ByteArray).extract n (n + 1)).data.toList = [UInt8.ofNat (48 + n)] from tens_at h]
  ·cases d with
   | zero => simp at hn; omega
   | succ d =>
    have hq : n / 10 < 10 ^ (d + 1) := by rw [Nat.pow_succ] at hn; omega
    have hm : n % 10 < 10 := by omega
    have e2 := tens_size hm
    have e0 : Int.tmod (n : Int) 10 = ((n % 10 : Nat) : Int) := by rw [Int.tmod_eq_emod_of_nonneg (by omega)]; omega
    have e1 : wrap64 (((n % 10 : Nat) : Int) + 1) = ((n % 10 + 1 : Nat) : Int) := wrap_nat (by omega)
    have e3 : wrap64 (Int.tdiv (n : Int) 10) = ((n / 10 : Nat) : Int) := by rw [Int.tdiv_eq_ediv_of_nonneg (by omega), wrap_id (by omega) (by omega)]; omega
    have ih := digits_loop d (n / 10) ((⟨#[48, 49, 50, 51, 52, 53, 54, 55, 56, 57]⟩ : ByteArray).extract (n % 10) (n % 10 + 1) ++ acc) hq (by omega) (by rw [ByteArray.size_append, e2]; omega)
    have e4 : (Lib.decDigits (n / 10) ++ ((⟨#[48, 49, 50, 51, 52, 53, 54, 55, 56, 57]⟩ : ByteArray).extract (n % 10) (n % 10 + 1) ++ acc).data.toList) = Lib.decDigits n ++ acc.data.toList := by
     rw [ByteArray.data_append, Array.toList_append, dec_big h, List.append_assoc, show ((⟨#[48, 49, 50, 51, 52, 53, 54, 55, 56, 57]⟩ : ByteArray).extract (n % 10) (n % 10 + 1)).data.toList = [UInt8.ofNat (48 + n % 10)] from tens_at hm]
    rw [e4] at ih
    refine Ev.step (fun k => ?_) ih
    simp only [cubbyref08_Digits.l0]
    rw [zC (by omega), e0, zC (by omega), e1, zC (by omega), zC (by omega), Int.toNat_natCast, Int.toNat_natCast, zC (by rw [e2]; omega), e3]
theorem digits_ev {n : Int} (h0 : 0 ≤ n) (h1 : n < 2147483648) : Ev (fun k => cubbyref08_Digits.f k n) (num n) := by
 obtain ⟨m, rfl⟩ : ∃ m : Nat, n = m := ⟨n.toNat, by omega⟩
 have h := digits_loop 9 m ⟨#[]⟩ (by have e10 : (10 : Nat) ^ (9 + 1) = 10000000000 := (by decide); omega) (by omega) (by decide)
 simp only [List.append_nil] at h
 exact h
theorem bt_get {s : ByteArray} {j : Nat} (h : j < s.data.toList.length) : bt s (j : Int) = ((s.data.toList[j]).toNat : Int) := by
 have hs : j < s.size := by simpa using h
 unfold bt
 rw [dif_pos (by simpa using hs)]
 simp
 rfl
theorem number_end (s : ByteArray) (hs : s.size ≤ 10) : ∀ (d j acc : Nat), s.data.toList.length - j = d → j ≤ s.data.toList.length → acc < 10 ^ j →
 ∃ r : Int × Bool, Ev (fun k => cubbyref08_Number.l0 k s (acc : Int) (j : Int)) r ∧ (r.2 = true → 0 ≤ r.1 ∧ r.1 < 2147483648) := by
 have hsl : s.data.toList.length = s.size := by simp
 intro d
 induction d with
 | zero =>
  intro j acc hj hjl ha
  refine ⟨((acc : Int), decide ((acc : Int) ≤ 2147483647)), ⟨1, fun k hk => ?_⟩, fun h => ?_⟩
  ·obtain ⟨q, rfl⟩ : ∃ q, k = q + 1 := ⟨k - 1, by omega⟩
   simp only [cubbyref08_Number.l0]
   rw [zD (by omega)]
  ·have := zB h
   simp only
   omega
 | succ d ih =>
  intro j acc hj hjl ha
  have hlt : j < s.data.toList.length := by omega
  have hbt := bt_get hlt
  generalize s.data.toList[j] = b at hbt
  have stop : (b.toNat : Int) < 48 ∨ (b.toNat : Int) > 57 → ∃ r : Int × Bool, Ev (fun k => cubbyref08_Number.l0 k s (acc : Int) (j : Int)) r ∧ (r.2 = true → 0 ≤ r.1 ∧ r.1 < 2147483648) := fun hc => by
   refine ⟨(0, false), ⟨1, fun k hk => ?_⟩, fun h => by cases h⟩
   obtain ⟨q, rfl⟩ : ∃ q, k = q + 1 := ⟨k - 1, by omega⟩
   simp only [cubbyref08_Number.l0]
   rw [zC (by omega), zC (by omega), hbt]
   rcases hc with hc | hc
   ·rw [zC hc]
   ·by_cases h1 : (b.toNat : Int) < 48
    ·rw [zC h1]
    ·rw [zD h1, zC hc]
  by_cases h1 : (b.toNat : Int) < 48
  ·exact stop (.inl h1)
  by_cases h2 : (b.toNat : Int) > 57
  ·exact stop (.inr h2)
  have h10 : (10 : Nat) ^ (j + 1) ≤ 10 ^ 10 := Nat.pow_le_pow_right (by decide) (by omega)
  have h10' : (10 : Nat) ^ 10 = 10000000000 := by decide
  have ha2 : acc * 10 + (b.toNat - 48) < 10 ^ (j + 1) := by rw [Nat.pow_succ]; omega
  obtain ⟨r, hr, hr2⟩ := ih (j + 1) (acc * 10 + (b.toNat - 48)) (by omega) (by omega) ha2
  refine ⟨r, Ev.step (fun k => ?_) hr, hr2⟩
  simp only [cubbyref08_Number.l0]
  have ha3 : acc * 10 < 10000000000 := by omega
  rw [zC (by omega), zC (by omega), hbt, zD h1, zD h2, wrap_nat (by omega), wrap_id (i := (acc : Int) * 10) (by omega) (by omega), show ((b.toNat : Int) - 48) % 256 = ((b.toNat - 48 : Nat) : Int) by omega, wrap_id (by omega) (by omega)]
  rfl
theorem number_total (s : ByteArray) : ∃ r : Int × Bool, Ev (fun k => cubbyref08_Number.f k s) r ∧ (r.2 = true → 0 ≤ r.1 ∧ r.1 < 2147483648) := by
 have no : ∀ (g : Nat → Option (Int × Bool)), (∀ k, g k = cubbyref08_Number.j0 k s true) → ∃ r : Int × Bool, Ev g r ∧ (r.2 = true → 0 ≤ r.1 ∧ r.1 < 2147483648) := fun g hg =>
  ⟨(0, false), ⟨1, fun k hk => by obtain ⟨q, rfl⟩ : ∃ q, k = q + 1 := ⟨k - 1, by omega⟩; rw [hg]; simp only [cubbyref08_Number.j0]; rw [zC trivial]⟩, fun h => by cases h⟩
 by_cases h1 : (s.size : Int) < 1
 ·exact no _ (fun k => by unfold cubbyref08_Number.f; rw [zC h1])
 by_cases h2 : (s.size : Int) > 10
 ·exact no _ (fun k => by unfold cubbyref08_Number.f; rw [zD h1, zC h2])
 obtain ⟨r, hr, hr2⟩ := number_end s (by omega) _ 0 0 rfl (by omega) (by simp)
 have go : ∀ (g : Nat → Option (Int × Bool)), (∀ k, g k = cubbyref08_Number.j0 k s false) → ∃ r : Int × Bool, Ev g r ∧ (r.2 = true → 0 ≤ r.1 ∧ r.1 < 2147483648) := fun g hg =>
  ⟨r, Ev.congr (f := fun k => cubbyref08_Number.j0 k s false) hg (Ev.step (fun k => by simp only [cubbyref08_Number.j0]; rw [zD (by simp)]; rfl) hr), hr2⟩
 by_cases hb : bt s 0 = 48
 ·by_cases h3 : (s.size : Int) > 1
  ·exact no _ (fun k => by unfold cubbyref08_Number.f; rw [zD h1, zD h2, zC (by omega), zC hb, zF h3])
  ·exact go _ (fun k => by unfold cubbyref08_Number.f; rw [zD h1, zD h2, zC (by omega), zC hb, zG h3])
 ·exact go _ (fun k => by unfold cubbyref08_Number.f; rw [zD h1, zD h2, zC (by omega), zD hb])
def wordsL : List UInt8 → List (List UInt8)
 | [] => [[]]
 | b :: l => if b = 32 then [] :: wordsL l else match wordsL l with
  | w :: r => (b :: w) :: r
  | [] => [[b]]
theorem wordsL_ne : ∀ l, wordsL l ≠ []
 | [] => by simp [wordsL]
 | b :: l => by
  unfold wordsL
  split
  ·simp
  ·split <;> simp
theorem wordsL_one : ∀ {a : List UInt8}, (32 : UInt8) ∉ a → wordsL a = [a]
 | [], _ => rfl
 | b :: a, h => by
  have h1 : ¬ b = 32 := fun e => h (by rw [e]; exact List.mem_cons_self)
  unfold wordsL
  rw [zD h1, wordsL_one (fun hm => h (List.mem_cons_of_mem _ hm))]
theorem wordsL_cons : ∀ {a : List UInt8} (b : List UInt8), (32 : UInt8) ∉ a → wordsL (a ++ 32 :: b) = a :: wordsL b
 | [], b, _ => by simp [wordsL]
 | c :: a, b, h => by
  have h1 : ¬ c = 32 := fun e => h (by rw [e]; exact List.mem_cons_self)
  simp only [List.cons_append, wordsL, zD h1, wordsL_cons b (fun hm => h (List.mem_cons_of_mem _ hm))]
def unw : List (List UInt8) → List UInt8
 | [] => []
 | [w] => w
 | w :: v :: r => w ++ 32 :: unw (v :: r)
theorem unw_words : ∀ l, unw (wordsL l) = l
 | [] => rfl
 | b :: l => by
  have ih := unw_words l
  have hne := wordsL_ne l
  unfold wordsL
  split
  ·rename_i h
   cases hw : wordsL l with
   | nil => exact absurd hw hne
   | cons w r => rw [hw] at ih; simp only [unw, List.nil_append, ih, h]
  ·cases hw : wordsL l with
   | nil => exact absurd hw hne
   | cons w r =>
    rw [hw] at ih
    cases r with
    | nil => simp only [unw] at ih ⊢; rw [ih]
    | cons v r => simp only [unw, List.cons_append] at ih ⊢; rw [ih]
def bytesOfL (ws : List ByteArray) : List (List UInt8) := ws.map fun w => w.data.toList
theorem bytes_inj {ws vs : List ByteArray} (h : bytesOfL ws = bytesOfL vs) : ws = vs := by
 exact (List.map_inj_right (f := fun w : ByteArray => w.data.toList) (fun x y hxy => ba_ext hxy)).1 h
theorem ex_list (s : ByteArray) (i j : Nat) : (s.extract i j).data.toList = (s.data.toList.drop i).take (j - i) := by
 rw [ByteArray.data_extract, Array.toList_extract]
 first | done | rfl | simp [List.extract]
theorem index_none : ∀ {l : List UInt8}, Lib.indexByte l 32 = -1 → (32 : UInt8) ∉ l
 | [], _ => by simp
 | b :: l, h => by
  unfold Lib.indexByte at h
  split at h
  ·simp at h
  ·rename_i hb
   have hge := Lib.indexByte_ge l 32
   split at h
   ·rename_i h2
    have := index_none (by simpa using h2)
    intro hm
    rcases List.mem_cons.1 hm with h3 | h3
    ·exact hb (by simp [h3])
    ·exact this h3
   ·rename_i h2
    have h3 : Lib.indexByte l 32 ≠ -1 := by simpa using h2
    omega
theorem index_some : ∀ {l : List UInt8} {i : Nat}, Lib.indexByte l 32 = (i : Int) → i < l.length ∧ l = l.take i ++ 32 :: l.drop (i + 1) ∧ (32 : UInt8) ∉ l.take i
 | [], i, h => by simp only [Lib.indexByte] at h; omega
 | b :: l, i, h => by
  unfold Lib.indexByte at h
  split at h
  ·rename_i hb
   obtain rfl : i = 0 := by omega
   have : b = 32 := by simpa using hb
   subst this
   simp
  ·rename_i hb
   have hge := Lib.indexByte_ge l 32
   split at h
   ·omega
   ·rename_i h2
    have h3 : Lib.indexByte l 32 ≠ -1 := by simpa using h2
    obtain ⟨q, hq⟩ : ∃ q : Nat, Lib.indexByte l 32 = q := ⟨(Lib.indexByte l 32).toNat, by omega⟩
    obtain rfl : i = q + 1 := by omega
    obtain ⟨h4, h5, h6⟩ := index_some hq
    refine ⟨by simp; omega, ?_, ?_⟩
    ·rw [List.take_succ_cons, List.drop_succ_cons, List.cons_append, ← h5]
    ·rw [List.take_succ_cons]
     intro hm
     rcases List.mem_cons.1 hm with h7 | h7
     ·exact hb (by simp [h7])
     ·exact h6 h7
theorem splitB_words : ∀ (k : Nat) (s : ByteArray), s.data.toList.count 32 ≤ k → bytesOfL (Lib.splitB blank1 0 k s) = wordsL s.data.toList
 | 0, s, h => by
  have hn : (32 : UInt8) ∉ s.data.toList := fun hm => by have := List.count_pos_iff.2 hm; omega
  rw [wordsL_one hn]; rfl
 | k + 1, s, h => by
  have hi : Lib.indexB s blank1 = Lib.indexByte s.data.toList 32 := by show Lib.index s.data.toList [32] = _; rw [Lib.index_one]
  unfold Lib.splitB
  rw [hi]
  have hge := Lib.indexByte_ge s.data.toList 32
  by_cases h1 : Lib.indexByte s.data.toList 32 = -1
  ·rw [zC (by rw [h1]; rfl), wordsL_one (index_none h1)]; rfl
  ·obtain ⟨i, hq⟩ : ∃ i : Nat, Lib.indexByte s.data.toList 32 = i := ⟨(Lib.indexByte s.data.toList 32).toNat, by omega⟩
   obtain ⟨h2, h3, h4⟩ := index_some hq
   rw [zD (by simpa using h1), hq, Int.toNat_natCast]
   have hsz : s.size = s.data.toList.length := by simp
   have e1 : (s.extract 0 (i + 0)).data.toList = s.data.toList.take i := by rw [ex_list]; simp
   have e2 : (s.extract (i + blank1.size) s.size).data.toList = s.data.toList.drop (i + 1) := by
    rw [ex_list, hsz]
    show (s.data.toList.drop (i + 1)).take _ = _
    have hb1 : blank1.size = 1 := rfl
    rw [List.take_of_length_le (by rw [List.length_drop, hb1]; omega)]
   have hc : (s.data.toList.drop (i + 1)).count 32 ≤ k := by
    have := congrArg (List.count 32) h3
    rw [List.count_append, List.count_cons_self] at this
    omega
   have ih := splitB_words k (s.extract (i + blank1.size) s.size) (by rw [e2]; exact hc)
   have hw := wordsL_cons (s.data.toList.drop (i + 1)) h4
   rw [← h3] at hw
   rw [hw, ← e2, ← ih]
   show (s.extract 0 (i + 0)).data.toList :: _ = _
   rw [e1]
   rfl
theorem wordsOf_bytes (s : ByteArray) : bytesOfL (wordsOf s) = wordsL s.data.toList := by
 refine splitB_words _ s ?_
 show _ ≤ Lib.count s.data.toList [32]
 rw [Lib.count_one]
 exact Nat.le_refl _
theorem wordsOf_of {s : ByteArray} {ws : List ByteArray} (h : bytesOfL ws = wordsL s.data.toList) : wordsOf s = ws := bytes_inj ((wordsOf_bytes s).trans h.symm)
def sp : ByteArray := ⟨#[32]⟩
def IsNum (n : Int) : Prop := 0 ≤ n ∧ n < 2147483648
instance (n : Int) : Decidable (IsNum n) := by unfold IsNum; infer_instance
def tellL (w : ByteArray) : List Int → ByteArray
 | [] => w
 | n :: l => tellL (w ++ (sp ++ num n)) l
def tellOr (w : ByteArray) (l : List Int) : ByteArray × Int := if ∀ n ∈ l, IsNum n then (tellL w l, 0) else (noS, 210)
def tellA (k a b c : Int) (t : ByteArray) : ByteArray × Int :=
 if k = 1 then tellOr okS [a] else if k = 2 then (codeS ++ t, 0) else if k = 3 then (missS, 0) else if k = 4 then tellOr errorS [a, b] else if k = 5 then tellOr statsS [a, b, c] else (noS, 210)
theorem apsz (a b : ByteArray) : (a ++ b).size = a.size + b.size := ByteArray.size_append
theorem apas (a b c : ByteArray) : a ++ b ++ c = a ++ (b ++ c) := ByteArray.append_assoc
theorem line_loop (L : List Int) : ∀ (l : List Int) (j : Nat) (w : ByteArray), L.drop j = l → j ≤ L.length → L.length ≤ 1000 → w.size ≤ 1000 + 100 * j →
 Ev (fun k => ask_line.l0 k w L (L.length : Int) (j : Int)) (tellOr w l)
 | [], j, w, hl, hj, hL, hw => by
  have : j = L.length := by have := congrArg List.length hl; simp at this; omega
  refine ⟨1, fun k hk => ?_⟩
  obtain ⟨q, rfl⟩ : ∃ q, k = q + 1 := ⟨k - 1, by omega⟩
  simp only [ask_line.l0]
  rw [zD (by omega)]
  rfl
 | n :: l, j, w, hl, hj, hL, hw => by
  have hlt : j < L.length := by
   rcases Nat.lt_or_ge j L.length with h | h
   ·exact h
   ·rw [List.drop_eq_nil_of_le h] at hl; cases hl
  rw [drop_cons hlt] at hl
  simp only [List.cons.injEq] at hl
  obtain ⟨hn, hl⟩ := hl
  have hrd : rd L (j : Int) = n := by rw [rd_get hlt, hn]
  have bad : ¬ IsNum n → tellOr w (n :: l) = (noS, 210) := fun h => zD (fun ha => h (ha n List.mem_cons_self))
  by_cases h1 : n < 0
  ·rw [bad (fun h => by have := h.1; omega)]
   refine ⟨1, fun k hk => ?_⟩
   obtain ⟨q, rfl⟩ : ∃ q, k = q + 1 := ⟨k - 1, by omega⟩
   simp only [ask_line.l0]
   rw [zC (by omega), zC (by omega), zC (by omega), hrd, zC h1]
   rfl
  by_cases h2 : n ≥ 2147483648
  ·rw [bad (fun h => by have := h.2; omega)]
   refine ⟨1, fun k hk => ?_⟩
   obtain ⟨q, rfl⟩ : ∃ q, k = q + 1 := ⟨k - 1, by omega⟩
   simp only [ask_line.l0]
   rw [zC (by omega), zC (by omega), zC (by omega), hrd, zD h1, zC h2]
   rfl
  have hz := num_size (n := n) (by omega)
  have hsp : sp.size = 1 := rfl
  have hsz : (w ++ (sp ++ num n)).size = w.size + (1 + (num n).size) := by rw [apsz, apsz, hsp]
  have ih := line_loop L l (j + 1) (w ++ (sp ++ num n)) hl (by omega) hL (by rw [hsz]; omega)
  have e : tellOr w (n :: l) = tellOr (w ++ (sp ++ num n)) l := by
   unfold tellOr
   have : (∀ m ∈ n :: l, IsNum m) ↔ ∀ m ∈ l, IsNum m := ⟨fun h m hm => h m (List.mem_cons_of_mem _ hm), fun h m hm => by
    rcases List.mem_cons.1 hm with hm | hm
    ·rw [hm]; exact ⟨by omega, by omega⟩
    ·exact h m hm⟩
   simp only [this, tellL]
  rw [e]
  have hi : strconv_Itoa_28.f n = some (num n) := by unfold strconv_Itoa_28.f; rw [zC (by omega), itoa_num (by omega)]
  refine Ev.step (fun k => ?_) ih
  simp only [ask_line.l0]
  rw [zC (by omega), zC (by omega), zC (by omega), hrd, zD h1, zD h2, hi, zJ, zC (by omega), zC (by rw [apsz]; show _ + (1 + _) ≤ _; omega), wrap_nat (by omega)]
  rfl
theorem line_ev (w : ByteArray) (l : List Int) (hl : l.length ≤ 1000) (hw : w.size ≤ 1000) : Ev (fun k => ask_line.f k w l) (tellOr w l) := line_loop l l 0 w rfl (Nat.zero_le _) hl (by omega)
theorem tell_ev (k a b c : Int) (t : ByteArray) (ht : t.size ≤ 1000000) : Ev (fun q => ask_Tell.f q k a b c t) (tellA k a b c t) := by
 unfold ask_Tell.f tellA
 by_cases h1 : k = 1
 ·simp only [zC h1]; exact Ev.bind (line_ev okS [a] (by simp) (by decide)) (Ev.now _)
 simp only [zD h1]
 by_cases h2 : k = 2
 ·simp only [zC h2, zC (show 5 + t.size ≤ 9223372036854775807 by omega)]; exact Ev.now _
 simp only [zD h2]
 by_cases h3 : k = 3
 ·simp only [zC h3]; exact Ev.bind (line_ev missS [] (by simp) (by decide)) (Ev.now _)
 simp only [zD h3]
 by_cases h4 : k = 4
 ·simp only [zC h4]; exact Ev.bind (line_ev errorS [a, b] (by simp) (by decide)) (Ev.now _)
 simp only [zD h4]
 by_cases h5 : k = 5
 ·simp only [zC h5]; exact Ev.bind (line_ev statsS [a, b, c] (by simp) (by decide)) (Ev.now _)
 simp only [zD h5]
 exact Ev.now _
theorem number_eq (n : Int) : cubbyref21_number.f n = some (decide (IsNum n)) := by
 unfold cubbyref21_number.f IsNum
 by_cases h : n ≥ 0
 ·simp [h]
 ·have : ¬ 0 ≤ n := h
  simp [this]
theorem tellOr_yes {w : ByteArray} {l : List Int} (h : ∀ n ∈ l, IsNum n) : tellOr w l = (tellL w l, 0) := zC h
theorem tellOr_no {w : ByteArray} {l : List Int} {n : Int} (hm : n ∈ l) (h : ¬ IsNum n) : tellOr w l = (noS, 210) := zD (fun ha => h (ha n hm))
theorem reftell_ev (k a b c : Int) (t : ByteArray) (ht : t.size ≤ 1000000) : Ev (fun q => cubbyref21_Tell.f q k a b c t) (tellA k a b c t) := by
 have hz : ∀ {n : Int}, IsNum n → (num n).size ≤ 10 := fun h => num_size h.2
 have hd : ∀ {n : Int}, IsNum n → Ev (fun q => cubbyref08_Digits.f q n) (num n) := fun h => digits_ev h.1 h.2
 have j2 : ∀ x : Bool, (x = true ↔ k = 5 ∧ IsNum a ∧ IsNum b ∧ IsNum c) → ¬ k = 1 → ¬ k = 2 → ¬ k = 3 → ¬ k = 4 → Ev (fun q => cubbyref21_Tell.j2 q x k a b c t) (tellA k a b c t) := by
  intro x hx n1 n2 n3 n4
  by_cases h : x = true
  ·obtain ⟨h5, ha, hb, hc⟩ := hx.1 h
   have e : tellA k a b c t = ((((((⟨#[115, 116, 97, 116, 115, 32]⟩ : ByteArray) ++ num a) ++ (⟨#[32]⟩ : ByteArray)) ++ num b) ++ (⟨#[32]⟩ : ByteArray)) ++ num c, 0) := by
    unfold tellA
    rw [zD n1, zD n2, zD n3, zD n4, zC h5, tellOr_yes (by intro n hn; simp at hn; rcases hn with rfl | rfl | rfl <;> assumption)]
    have e0 : (⟨#[115, 116, 97, 116, 115, 32]⟩ : ByteArray) = statsS ++ sp := rfl
    have e1 : (⟨#[32]⟩ : ByteArray) = sp := rfl
    rw [e0, e1]
    simp only [tellL, apas]
   rw [e]
   have za := hz ha; have zb := hz hb; have zc := hz hc
   have s1 : (⟨#[115, 116, 97, 116, 115, 32]⟩ : ByteArray).size = 6 := rfl
   have s2 : (⟨#[32]⟩ : ByteArray).size = 1 := rfl
   refine Ev.step (fun q => by simp only [cubbyref21_Tell.j2]; rw [zC h]) (Ev.bind (hd ha) ?_)
   simp only [zC (show 6 + (num a).size ≤ 9223372036854775807 by omega), zC (show ((⟨#[115, 116, 97, 116, 115, 32]⟩ : ByteArray) ++ num a).size + 1 ≤ 9223372036854775807 by rw [apsz, s1]; omega)]
   refine Ev.bind (hd hb) ?_
   simp only [zC (show (((⟨#[115, 116, 97, 116, 115, 32]⟩ : ByteArray) ++ num a) ++ (⟨#[32]⟩ : ByteArray)).size + (num b).size ≤ 9223372036854775807 by rw [apsz, apsz, s1, s2]; omega), zC (show ((((⟨#[115, 116, 97, 116, 115, 32]⟩ : ByteArray) ++ num a) ++ (⟨#[32]⟩ : ByteArray)) ++ num b).size + 1 ≤ 9223372036854775807 by rw [apsz, apsz, apsz, s1, s2]; omega)]
   refine Ev.bind (hd hc) ?_
   simp only [zC (show (((((⟨#[115, 116, 97, 116, 115, 32]⟩ : ByteArray) ++ num a) ++ (⟨#[32]⟩ : ByteArray)) ++ num b) ++ (⟨#[32]⟩ : ByteArray)).size + (num c).size ≤ 9223372036854775807 by rw [apsz, apsz, apsz, apsz, s1, s2]; omega)]
   exact Ev.now _
  ·have e : tellA k a b c t = (noS, 210) := by
    unfold tellA
    rw [zD n1, zD n2, zD n3, zD n4]
    by_cases h5 : k = 5
    ·rw [zC h5]
     by_cases ha : IsNum a
     ·by_cases hb : IsNum b
      ·exact tellOr_no (n := c) (by simp) (fun hc => h (hx.2 ⟨h5, ha, hb, hc⟩))
      ·exact tellOr_no (n := b) (by simp) hb
     ·exact tellOr_no (n := a) (by simp) ha
    ·rw [zD h5]
   rw [e]
   exact Ev.step (fun q => by simp only [cubbyref21_Tell.j2]; rw [zD h]; rfl) (Ev.now _)
 have j1 : ∀ x : Bool, (x = true ↔ k = 4 ∧ IsNum a ∧ IsNum b) → ¬ k = 1 → ¬ k = 2 → ¬ k = 3 → Ev (fun q => cubbyref21_Tell.j1 q (decide (IsNum a)) (decide (IsNum b)) (decide (IsNum c)) x k a b c t) (tellA k a b c t) := by
  intro x hx n1 n2 n3
  by_cases h : x = true
  ·obtain ⟨h4, ha, hb⟩ := hx.1 h
   have e : tellA k a b c t = ((((⟨#[101, 114, 114, 111, 114, 32]⟩ : ByteArray) ++ num a) ++ (⟨#[32]⟩ : ByteArray)) ++ num b, 0) := by
    unfold tellA
    rw [zD n1, zD n2, zD n3, zC h4, tellOr_yes (by intro n hn; simp at hn; rcases hn with rfl | rfl <;> assumption)]
    have e0 : (⟨#[101, 114, 114, 111, 114, 32]⟩ : ByteArray) = errorS ++ sp := rfl
    have e1 : (⟨#[32]⟩ : ByteArray) = sp := rfl
    rw [e0, e1]
    simp only [tellL, apas]
   rw [e]
   have za := hz ha; have zb := hz hb
   have s1 : (⟨#[101, 114, 114, 111, 114, 32]⟩ : ByteArray).size = 6 := rfl
   have s2 : (⟨#[32]⟩ : ByteArray).size = 1 := rfl
   refine Ev.step (fun q => by simp only [cubbyref21_Tell.j1]; rw [zC h]) (Ev.bind (hd ha) ?_)
   simp only [zC (show 6 + (num a).size ≤ 9223372036854775807 by omega), zC (show ((⟨#[101, 114, 114, 111, 114, 32]⟩ : ByteArray) ++ num a).size + 1 ≤ 9223372036854775807 by rw [apsz, s1]; omega)]
   refine Ev.bind (hd hb) ?_
   simp only [zC (show (((⟨#[101, 114, 114, 111, 114, 32]⟩ : ByteArray) ++ num a) ++ (⟨#[32]⟩ : ByteArray)).size + (num b).size ≤ 9223372036854775807 by rw [apsz, apsz, s1, s2]; omega)]
   exact Ev.now _
  ·by_cases n4 : k = 4
   ·have e : tellA k a b c t = (noS, 210) := by
     unfold tellA
     rw [zD n1, zD n2, zD n3, zC n4]
     by_cases ha : IsNum a
     ·exact tellOr_no (n := b) (by simp) (fun hb => h (hx.2 ⟨n4, ha, hb⟩))
     ·exact tellOr_no (n := a) (by simp) ha
    rw [e]
    refine Ev.step (fun q => by simp only [cubbyref21_Tell.j1]; rw [zD h, zD (by omega)]) (Ev.step (fun q => by simp only [cubbyref21_Tell.j2]; rw [zD (by simp)]; rfl) (Ev.now _))
   ·by_cases h5 : k = 5
    ·by_cases ha : IsNum a
     ·by_cases hb : IsNum b
      ·exact Ev.step (fun q => by simp only [cubbyref21_Tell.j1]; rw [zD h, zC h5, zC (by simpa using ha), zC (by simpa using hb)]) (j2 (decide (IsNum c)) (by simp [h5, ha, hb]) n1 n2 n3 n4)
      ·exact Ev.step (fun q => by simp only [cubbyref21_Tell.j1]; rw [zD h, zC h5, zC (by simpa using ha), zD (by simpa using hb)]) (j2 false (by simp [hb]) n1 n2 n3 n4)
     ·exact Ev.step (fun q => by simp only [cubbyref21_Tell.j1]; rw [zD h, zC h5, zD (by simpa using ha)]) (j2 false (by simp [ha]) n1 n2 n3 n4)
    ·exact Ev.step (fun q => by simp only [cubbyref21_Tell.j1]; rw [zD h, zD h5]) (j2 false (by simp [h5]) n1 n2 n3 n4)
 have j0 : ∀ x : Bool, (x = true ↔ k = 1 ∧ IsNum a) → Ev (fun q => cubbyref21_Tell.j0 q (decide (IsNum a)) (decide (IsNum b)) (decide (IsNum c)) x k a b c t) (tellA k a b c t) := by
  intro x hx
  by_cases h : x = true
  ·obtain ⟨h1, ha⟩ := hx.1 h
   have e : tellA k a b c t = ((⟨#[111, 107, 32]⟩ : ByteArray) ++ num a, 0) := by
    unfold tellA
    rw [zC h1, tellOr_yes (by intro n hn; simp at hn; rw [hn]; exact ha)]
    have e0 : (⟨#[111, 107, 32]⟩ : ByteArray) = okS ++ sp := rfl
    rw [e0]
    simp only [tellL, apas]
   rw [e]
   have za := hz ha
   refine Ev.step (fun q => by simp only [cubbyref21_Tell.j0]; rw [zC h]) (Ev.bind (hd ha) ?_)
   simp only [zC (show 3 + (num a).size ≤ 9223372036854775807 by omega)]
   exact Ev.now _
  by_cases n2 : k = 2
  ·have e : tellA k a b c t = (codeS ++ t, 0) := by unfold tellA; rw [zD (by omega), zC n2]
   rw [e]
   exact Ev.step (fun q => by simp only [cubbyref21_Tell.j0]; rw [zD h, zC n2, zC (by omega)]; rfl) (Ev.now _)
  by_cases n3 : k = 3
  ·have e : tellA k a b c t = (missS, 0) := by unfold tellA; rw [zD (by omega), zD n2, zC n3]
   rw [e]
   exact Ev.step (fun q => by simp only [cubbyref21_Tell.j0]; rw [zD h, zD n2, zC n3]; rfl) (Ev.now _)
  by_cases n1 : k = 1
  ·have e : tellA k a b c t = (noS, 210) := by unfold tellA; rw [zC n1]; exact tellOr_no (n := a) (by simp) (fun ha => h (hx.2 ⟨n1, ha⟩))
   rw [e]
   refine Ev.step (fun q => by simp only [cubbyref21_Tell.j0]; rw [zD h, zD n2, zD n3, zD (by omega)]) (Ev.step (fun q => by simp only [cubbyref21_Tell.j1]; rw [zD (by simp), zD (by omega)]) (Ev.step (fun q => by simp only [cubbyref21_Tell.j2]; rw [zD (by simp)]; rfl) (Ev.now _)))
  by_cases n4 : k = 4
  ·by_cases ha : IsNum a
   ·exact Ev.step (fun q => by simp only [cubbyref21_Tell.j0]; rw [zD h, zD n2, zD n3, zC n4, zC (by simpa using ha)]) (j1 (decide (IsNum b)) (by simp [n4, ha]) n1 n2 n3)
   ·exact Ev.step (fun q => by simp only [cubbyref21_Tell.j0]; rw [zD h, zD n2, zD n3, zC n4, zD (by simpa using ha)]) (j1 false (by simp [ha]) n1 n2 n3)
  ·exact Ev.step (fun q => by simp only [cubbyref21_Tell.j0]; rw [zD h, zD n2, zD n3, zD n4]) (j1 false (by simp [n4]) n1 n2 n3)
 unfold cubbyref21_Tell.f
 simp only [number_eq, zJ]
 by_cases h1 : k = 1
 ·simp only [zC h1]; exact j0 (decide (IsNum a)) (by simp [h1])
 ·simp only [zD h1]; exact j0 false (by simp [h1])
theorem tl_data {a b : ByteArray} : a.toList = b.toList ↔ a.data.toList = b.data.toList := by rw [toList_data, toList_data]
theorem size_len (s : ByteArray) : s.data.toList.length = s.size := by simp
theorem prefix_eq (s p : ByteArray) : strings_CutPrefix.f s p = some (if s.data.toList.take p.size = p.data.toList then (s.extract p.size s.size, true) else (s, false)) := by
 unfold strings_CutPrefix.f stringslite_CutPrefix.f stringslite_HasPrefix.f
 by_cases c : (s.size : Int) ≥ (p.size : Int)
 ·have e : ((s.extract 0 ((p.size : Int)).toNat).toList == p.toList) = decide (s.data.toList.take p.size = p.data.toList) := by
   rw [Bool.eq_iff_iff, beq_iff_eq, decide_eq_true_iff, tl_data, Int.toNat_natCast, ex_list]
   simp
  rw [zC c, zC (by omega), zC c, e, zJ]
  by_cases c1 : s.data.toList.take p.size = p.data.toList
  ·rw [zF c1, zC rfl, zC c1, zC (by omega), zC c, zJ, Int.toNat_natCast]
  ·rw [zG c1, zD Bool.false_ne_true, zD c1, zJ]
 ·have c1 : ¬ s.data.toList.take p.size = p.data.toList := by
   intro h
   have := congrArg List.length h
   rw [List.length_take, size_len, size_len] at this
   omega
  rw [zD c, zJ, zD Bool.false_ne_true, zD c1, zJ]
noncomputable def nr (t : ByteArray) : Int × Bool := Classical.choose (number_total t)
noncomputable def vo (t : ByteArray) : Int := if (nr t).2 = true then (nr t).1 else 0
noncomputable def at_ (ws : List ByteArray) (i : Nat) : Int := match ws[i]? with | some t => vo t | none => 0
def tailB (xs : List Int) : List UInt8 := xs.flatMap fun x => 32 :: Lib.decDigits x.toNat
theorem tellL_bytes : ∀ (xs : List Int) (w : ByteArray), (tellL w xs).data.toList = w.data.toList ++ tailB xs
 | [], w => by simp [tellL, tailB]
 | x :: xs, w => by
  have e : (sp ++ num x).data.toList = 32 :: Lib.decDigits x.toNat := by rw [ByteArray.data_append, Array.toList_append, num_list]; rfl
  unfold tellL
  rw [tellL_bytes xs, ByteArray.data_append, Array.toList_append, e]
  simp [tailB]
theorem dec_blank (u : Nat) : (32 : UInt8) ∉ Lib.decDigits u := fun h => by have := (dec_mem u 32 h).1; simp at this
theorem words_tail : ∀ (xs : List Int) {a : List UInt8}, (32 : UInt8) ∉ a → wordsL (a ++ tailB xs) = a :: xs.map fun x => Lib.decDigits x.toNat
 | [], a, h => by simp only [tailB, List.flatMap_nil, List.append_nil, List.map_nil]; exact wordsL_one h
 | x :: xs, a, h => by
  have e : a ++ tailB (x :: xs) = a ++ 32 :: (Lib.decDigits x.toNat ++ tailB xs) := by simp [tailB]
  rw [e, wordsL_cons _ h, words_tail xs (dec_blank _)]
  rfl
theorem bytes_num (w : ByteArray) (xs : List Int) : bytesOfL (w :: xs.map num) = w.data.toList :: xs.map fun x => Lib.decDigits x.toNat := by
 simp only [bytesOfL, List.map_cons, List.map_map]
 first | done | (congr 1; done) | (congr 1; apply List.map_congr_left; intro x _; exact num_list x)
theorem tell_words {s w : ByteArray} {xs : List Int} (hw : (32 : UInt8) ∉ w.data.toList) : tellL w xs = s ↔ wordsOf s = w :: xs.map num := by
 have hb : wordsL (tellL w xs).data.toList = bytesOfL (w :: xs.map num) := by rw [tellL_bytes, words_tail xs hw, bytes_num]
 constructor
 ·rintro rfl
  exact wordsOf_of hb.symm
 ·intro h
  have h2 := wordsOf_bytes s
  rw [h, ← hb] at h2
  have h3 := congrArg unw h2
  rw [unw_words, unw_words] at h3
  exact ba_ext h3
theorem map_some : ∀ {l : List ByteArray} {ys : List Int}, l.mapM numOf = some ys → l = ys.map num ∧ ∀ y ∈ ys, IsNum y
 | [], ys, h => by
  simp only [List.mapM_nil] at h
  obtain rfl := zI h
  exact ⟨rfl, by simp⟩
 | t :: l, ys, h => by
  simp only [List.mapM_cons, Option.bind_eq_bind, Option.bind_eq_some_iff] at h
  obtain ⟨y, hy, zs, hz, h⟩ := h
  obtain rfl := zI h
  obtain ⟨h1, h2⟩ := map_some hz
  obtain ⟨a, b, c⟩ := numOf_some hy
  refine ⟨by rw [h1, c]; rfl, fun q hq => ?_⟩
  rcases List.mem_cons.1 hq with hq | hq
  ·rw [hq]; exact ⟨a, b⟩
  ·exact h2 q hq
theorem map_num : ∀ {ys : List Int}, (∀ y ∈ ys, IsNum y) → (ys.map num).mapM numOf = some ys
 | [], _ => rfl
 | y :: ys, h => by
  have h1 := h y List.mem_cons_self
  simp only [List.map_cons, List.mapM_cons, numOf_num h1.1 h1.2, Option.bind_eq_bind, zJ]
  rw [map_num (fun q hq => h q (List.mem_cons_of_mem _ hq))]
  rfl
theorem numbers_iff {s w : ByteArray} {n : Nat} {ys : List Int} : numbersOf s w n = some ys ↔ wordsOf s = w :: ys.map num ∧ ys.length = n ∧ ∀ y ∈ ys, IsNum y := by
 unfold numbersOf
 constructor
 ·intro h
  split at h
  ·rename_i hc
   obtain ⟨h1, h2⟩ := map_some h
   cases hw : wordsOf s with
   | nil => rw [hw] at hc; simp at hc
   | cons a l =>
    rw [hw] at hc h1
    simp only [List.getElem?_cons_zero, Option.some.injEq] at hc
    simp only [List.drop_succ_cons, List.drop_zero] at h1
    refine ⟨by rw [hc.1, h1], ?_, h2⟩
    have := hc.2
    rw [h1] at this
    simpa using this
  ·cases h
 ·rintro ⟨h1, h2, h3⟩
  rw [h1, zC ⟨rfl, by simp [h2]⟩]
  exact map_num h3
def hearA (s : ByteArray) : Int × Int × Int × Int × ByteArray × Int :=
 if s.data.toList.take 5 = codeS.data.toList then (2, 0, 0, 0, s.extract 5 s.size, 0) else if s = missS then (3, 0, 0, 0, noS, 0) else heardOf s
theorem hear_eq {s : ByteArray} (hs : s.size ≤ 1000000) : ask_Hear.f s = some (hearA s) := by
 unfold ask_Hear.f hearA
 rw [prefix_eq s codeS]
 have h5 : codeS.size = 5 := rfl
 rw [h5]
 by_cases h : s.data.toList.take 5 = codeS.data.toList
 ·rw [zC h, zC h]; rfl
 ·rw [zD h, zD h, zJ, zD (by simp)]
  by_cases h2 : s = missS
  ·rw [zC (by rw [h2]), zC h2]
  ·rw [zD (fun e => h2 (toList_inj.1 e)), zD h2, zC (by omega)]
theorem blank_ok : (32 : UInt8) ∉ okS.data.toList := by decide
theorem blank_error : (32 : UInt8) ∉ errorS.data.toList := by decide
theorem blank_stats : (32 : UInt8) ∉ statsS.data.toList := by decide
theorem not_code {s : ByteArray} {b : UInt8} {l : List UInt8} (hs : s.data.toList = b :: l) (hb : b ≠ 99 ∧ b ≠ 109) : ¬ s.data.toList.take 5 = codeS.data.toList ∧ s ≠ missS := by
 refine ⟨fun e => ?_, fun e => ?_⟩
 ·have := congrArg List.head? e
  rw [hs] at this
  simp [codeS] at this
  exact hb.1 this
 ·rw [e] at hs
  simp [missS] at hs
  exact hb.2 hs.1.symm
theorem hear_tell {k a b c : Int} (hk : 1 ≤ k ∧ k ≤ 5) (ha : k = 2 ∨ k = 3 → a = 0) (hb : ¬ k > 3 → b = 0) (hc : ¬ k = 5 → c = 0) (h : (tellA k a b c noS).2 = 0) : hearA (tellA k a b c noS).1 = (k, a, b, c, noS, 0) := by
 have or_all : ∀ {w : ByteArray} {l : List Int}, (tellOr w l).2 = 0 → ∀ n ∈ l, IsNum n := fun {w l} h => by
  unfold tellOr at h
  split at h
  ·assumption
  ·simp at h
 have hh : ∀ (w : ByteArray) (l : List Int) (b0 : UInt8) (r : List UInt8), w.data.toList = b0 :: r → b0 ≠ 99 ∧ b0 ≠ 109 → hearA (tellL w l) = heardOf (tellL w l) := fun w l b0 r hw hb0 => by
  obtain ⟨n1, n2⟩ := not_code (s := tellL w l) (b := b0) (l := r ++ tailB l) (by rw [tellL_bytes, hw]; rfl) hb0
  unfold hearA
  rw [zD n1, zD n2]
 have first : ∀ {s w : ByteArray} {n : Nat} {xs : List Int} {v : ByteArray}, wordsOf s = v :: xs.map num → v ≠ w → numbersOf s w n = none := fun {s w n xs v} hw hv => by
  cases e : numbersOf s w n with
  | none => rfl
  | some ys =>
   have := (numbers_iff.1 e).1
   rw [hw] at this
   exact absurd (List.cons.inj this).1 hv
 have hk' : k = 1 ∨ k = 2 ∨ k = 3 ∨ k = 4 ∨ k = 5 := by omega
 rcases hk' with rfl | rfl | rfl | rfl | rfl
 ·have h1 : (tellOr okS [a]).2 = 0 := h
  have hall := or_all h1
  show hearA (tellOr okS [a]).1 = _
  rw [tellOr_yes hall, hh okS [a] 111 [107] rfl (by decide), hb (by omega), hc (by omega)]
  have hn : numbersOf (tellL okS [a]) okS 1 = some [a] := numbers_iff.2 ⟨(tell_words blank_ok).1 rfl, rfl, hall⟩
  unfold heardOf
  rw [hn]
  rfl
 ·rw [ha (by omega), hb (by omega), hc (by omega)]
  show hearA (codeS ++ noS) = _
  unfold hearA
  rw [zC (by rfl)]
  rfl
 ·rw [ha (by omega), hb (by omega), hc (by omega)]
  show hearA missS = _
  unfold hearA
  rw [zD (by decide), zC rfl]
 ·have h1 : (tellOr errorS [a, b]).2 = 0 := h
  have hall := or_all h1
  show hearA (tellOr errorS [a, b]).1 = _
  rw [tellOr_yes hall, hh errorS [a, b] 101 [114, 114, 111, 114] rfl (by decide), hc (by omega)]
  have hw : wordsOf (tellL errorS [a, b]) = errorS :: [a, b].map num := (tell_words blank_error).1 rfl
  have hn : numbersOf (tellL errorS [a, b]) errorS 2 = some [a, b] := numbers_iff.2 ⟨hw, rfl, hall⟩
  unfold heardOf
  rw [first hw (by decide), hn]
  rfl
 ·have h1 : (tellOr statsS [a, b, c]).2 = 0 := h
  have hall := or_all h1
  show hearA (tellOr statsS [a, b, c]).1 = _
  rw [tellOr_yes hall, hh statsS [a, b, c] 115 [116, 97, 116, 115] rfl (by decide)]
  have hw : wordsOf (tellL statsS [a, b, c]) = statsS :: [a, b, c].map num := (tell_words blank_stats).1 rfl
  have hn : numbersOf (tellL statsS [a, b, c]) statsS 3 = some [a, b, c] := numbers_iff.2 ⟨hw, rfl, hall⟩
  unfold heardOf
  rw [first hw (by decide), first hw (by decide), hn]
  rfl
theorem tellL_size : ∀ (l : List Int) (w : ByteArray), (∀ n ∈ l, IsNum n) → (tellL w l).size ≤ w.size + 11 * l.length
 | [], w, _ => by simp [tellL]
 | n :: l, w, h => by
  have h1 := num_size (h n List.mem_cons_self).2
  have := tellL_size l (w ++ (sp ++ num n)) (fun m hm => h m (List.mem_cons_of_mem _ hm))
  rw [apsz, apsz, show sp.size = 1 from rfl] at this
  unfold tellL
  simp only [List.length_cons]
  omega
theorem tellOr_size (w : ByteArray) (l : List Int) : (tellOr w l).1.size ≤ w.size + 11 * l.length := by
 unfold tellOr
 split
 ·rename_i h; exact tellL_size l w h
 ·exact Nat.zero_le _
theorem tellA_size (k a b c : Int) : (tellA k a b c noS).1.size ≤ 1000 := by
 have h1 := tellOr_size okS [a]
 have h4 := tellOr_size errorS [a, b]
 have h5 := tellOr_size statsS [a, b, c]
 have e1 : okS.size = 2 := rfl
 have e4 : errorS.size = 5 := rfl
 have e5 : statsS.size = 5 := rfl
 simp only [List.length_cons, List.length_nil] at h1 h4 h5
 unfold tellA
 split
 ·omega
 split
 ·decide
 split
 ·decide
 split
 ·omega
 split
 ·omega
 ·decide
end Go.Proofs.YtmojmnhaabonpaaDoor.PlainNum
namespace Go.Proofs.YtmojmnhaabonpaaDoor.RAskNumbers.Pure
open Go Go.RowKit Go.Proofs.YtmojmnhaabonpaaDoorW.PrintWords Go.Proofs.YtmojmnhaabonpaaDoorW.PrintMore Go.Proofs.YtmojmnhaabonpaaDoor.Q Go.Proofs.YtmojmnhaabonpaaDoor.Plain Go.Proofs.YtmojmnhaabonpaaDoor.PlainNum
set_option linter.unusedVariables false
theorem j3_ev {k a b c : Int} (hk : 1 ≤ k ∧ k ≤ 5) (ha : k = 2 ∨ k = 3 → a = 0) (hb : ¬ k > 3 → b = 0) (hc : ¬ k = 5 → c = 0) : Ev (fun q => cubbylaw21_AskNumbers.j3 q k a b c noS) true := by
 refine Ev.step (f := fun q => (ask_Tell.f q k a b c noS).bind fun bt218 => ((cubbyref21_Tell.f q k a b c noS).bind fun bt220 => (if bt218.2 = bt220.2 then ((ask_Hear.f bt218.1).bind fun bt222 => (if bt218.2 = 0 then (if bt222.2.2.2.2.2 = 0 then (some (bt222.1 == k && (bt222.2.1 == a && (bt222.2.2.1 == b && (bt222.2.2.2.1 == c && (bt222.2.2.2.2.1.toList == noS.toList)))))) else (some false)) else (some true))) else (some false)))) (fun q => rfl) ?_
 refine Ev.bind (tell_ev k a b c noS (by decide)) (Ev.bind (reftell_ev k a b c noS (by decide)) ?_)
 have hz := tellA_size k a b c
 simp only [if_true, hear_eq (s := (tellA k a b c noS).1) (by omega), zJ]
 by_cases h : (tellA k a b c noS).2 = 0
 ·simp only [zC h, hear_tell hk ha hb hc h, if_true, beq_self_eq_true, Bool.and_self]
  exact Ev.now _
 ·simp only [zD h]
  exact Ev.now _
theorem AskNumbers : AskNumbers.Pure := by
 intro kd a b c h1 h2 h3 h4
 refine Ev.rounds ?_
 have hkd := bounds_u8 h1
 have hk : wrap64 (1 + Int.tmod (wrap64 kd) 5) = 1 + kd % 5 := by
  rw [wrap_id (i := kd) (by omega) (by omega), Int.tmod_eq_emod_of_nonneg (by omega), wrap_id (by omega) (by omega)]
 have hkb : 1 ≤ 1 + kd % 5 ∧ 1 + kd % 5 ≤ 5 := by omega
 refine Ev.congr (f := fun q => if 1 + kd % 5 = 1 then cubbylaw21_AskNumbers.j0 q a b c true (1 + kd % 5) 0 0 0 noS else cubbylaw21_AskNumbers.j0 q a b c (decide (1 + kd % 5 > 3)) (1 + kd % 5) 0 0 0 noS) (fun q => by unfold cubbylaw21_AskNumbers.f; rw [hk]; rfl) ?_
 generalize 1 + kd % 5 = k at hkb
 have e2 : ∀ A B, (k = 2 ∨ k = 3 → A = 0) → (¬ k > 3 → B = 0) → Ev (fun q => cubbylaw21_AskNumbers.j2 q c k A B 0 noS) true := fun A B hA hB => by
  by_cases h : k = 5
  ·exact Ev.step (fun q => by simp only [cubbylaw21_AskNumbers.j2]; rw [zC h]) (j3_ev hkb hA hB (fun h' => absurd h h'))
  ·exact Ev.step (fun q => by simp only [cubbylaw21_AskNumbers.j2]; rw [zD h]) (j3_ev hkb hA hB (fun _ => rfl))
 have e1 : ∀ A, (k = 2 ∨ k = 3 → A = 0) → Ev (fun q => cubbylaw21_AskNumbers.j1 q b c k A 0 0 noS) true := fun A hA => by
  by_cases h : k > 3
  ·exact Ev.step (fun q => by simp only [cubbylaw21_AskNumbers.j1]; rw [zC h]) (e2 A b hA (fun h' => absurd h h'))
  ·exact Ev.step (fun q => by simp only [cubbylaw21_AskNumbers.j1]; rw [zD h]) (e2 A 0 hA (fun _ => rfl))
 have e0 : ∀ x : Bool, (x = true → ¬ (k = 2 ∨ k = 3)) → Ev (fun q => cubbylaw21_AskNumbers.j0 q a b c x k 0 0 0 noS) true := fun x hx => by
  by_cases h : x = true
  ·exact Ev.step (fun q => by simp only [cubbylaw21_AskNumbers.j0]; rw [zC h]) (e1 a (fun h' => absurd h' (hx h)))
  ·exact Ev.step (fun q => by simp only [cubbylaw21_AskNumbers.j0]; rw [zD h]) (e1 0 (fun _ => rfl))
 by_cases h : k = 1
 ·simp only [zC h]; exact e0 true (fun _ => by omega)
 ·simp only [zD h]; exact e0 (decide (k > 3)) (fun h' => by have := zB h'; omega)
end Go.Proofs.YtmojmnhaabonpaaDoor.RAskNumbers.Pure
namespace Go.Proofs.YtmojmnhaabonpaaDoor.RAskNumbers
open Go.ChangeShapes Go.WideShapes Go.ChangeAt
open Go.ChangeMaps (open_string shut_string)
open Go Go.RowKit Go.Proofs.YtmojmnhaabonpaaDoorW.PrintWords Go.Proofs.YtmojmnhaabonpaaDoorW.PrintLast Go.Proofs.YtmojmnhaabonpaaDoorW.PrintMore Go.Proofs.YtmojmnhaabonpaaDoor.Q Go.Proofs.YtmojmnhaabonpaaDoor.Open
set_option linter.unusedVariables false
theorem own : ownKnob Tryd.prog.godebug = none := by kernel_rfl
theorem laidOut : laidOutB Tryd.prog = true := by kernel_rfl
set_option maxRecDepth 100000 in
theorem lifted (os : Os) (started : os.Started) (H : Type) (enc : TypeId × Value → H) :
 ReturnsInHanded {} Tryd.checked os 4 .any (fun w args => (Rows.askNumbersSpec.pre enc Tryd.prog Tryd.f4 [] false w args ∧ laidMetH Tryd.prog Rows.askNumbersRow.laid w) ∧ sizedMet enc Tryd.prog Tryd.f4 (OpenSpec.ofChange Rows.askNumbersSpec) false w args) (Rows.askNumbersSpec.post enc Tryd.prog Tryd.f4 false true false false) := by
 refine returnsInHanded_of_change_and (C := Tryd.checked) (X := fun w _ => laidMetH Tryd.prog Rows.askNumbersRow.laid w) (fun _ _ _ hh h => h.of_heap hh) own started (by kernel_rfl) Tryd.func4
  (ChangeSpec.witness_shaped (enc := enc) (C := Tryd.checked) (os := os) (X := fun w _ => laidMetH Tryd.prog Rows.askNumbersRow.laid w) false (World.laidAll Tryd.prog os Rows.askNumbersRow.laid) #[.int .u8 0, .int .i64 0, .int .i64 0, .int .i64 0] 8 (World.laidAll_os _ _ _)
    (World.shaped_of_ZipB (by kernel_rfl) (by kernel_rfl)) (by kernel_rfl) (by kernel_rfl) (by kernel_rfl)
    (by rw [MakeChecks.laidMetH_plain _ _ _ (by kernel_rfl)]; exact laidMet_laidAll _ (by kernel_rfl) (by kernel_rfl))) ?_
 intro W base args ds gs before hval0 hW hcnd hsz0 hL0 _
 rw [MakeChecks.laidMetH_plain _ _ _ (by kernel_rfl)] at hL0
 have LAIDF : LaidW W := LaidW.of_met (show laidMet Tryd.prog laidList W from hL0)
 have hsz : (DataW.weightsEach Tryd.prog (Tryd.f4.params.toList ++ Rows.askNumbersSpec.plain.varTypes Tryd.prog) (ds ++ gs)).all (· ≤ reachBytes) = true := hsz0
 have hval : ∀ (j : Nat) t v, Tryd.f4.params[j]? = some t → args[j]? = some v → Value.okWide Tryd.prog W .any base t v := hval0
 have hW' := hW
 obtain ⟨p, q, hA0, hV, rfl, hfz, hnd⟩ := hW
 have hA : DataW.TrodAll enc Tryd.prog W 0 (fun _ => true) true Tryd.f4.params.toList args.toList ds p := hA0
 rw [Tryd.params4] at hA hval hsz
 obtain ⟨v0, vs0, d0, ds0, p0, q0, hargs, rfl, rfl, h0, r0⟩ := trodAll_cons hA
 obtain ⟨v1, vs1, d1, ds1, p1, q1, rfl, rfl, rfl, h1, r1⟩ := trodAll_cons r0
 obtain ⟨v2, vs2, d2, ds2, p2, q2, rfl, rfl, rfl, h2, r2⟩ := trodAll_cons r1
 obtain ⟨v3, vs3, d3, ds3, p3, q3, rfl, rfl, rfl, h3, r3⟩ := trodAll_cons r2
 obtain ⟨rfl, rfl, rfl⟩ := trodAll_nil r3
 obtain rfl : args = #[v0, v1, v2, v3] := by cases args; simp_all
 obtain ⟨rfl, rfl⟩ := trodVars_none hV
 have lt0 : ∀ x ∈ p0, x.block < W.heap.size := by obtain ⟨m, hm⟩ := h0; exact DataW.trod_lt m _ _ _ hm
 obtain ⟨a0, rfl, rfl, rfl, w0⟩ := open_int Tryd.underlying5 (hval 0 5 v0 rfl rfl) h0
 have lt1 : ∀ x ∈ p1, x.block < W.heap.size := by obtain ⟨m, hm⟩ := h1; exact DataW.trod_lt m _ _ _ hm
 obtain ⟨a1, rfl, rfl, rfl, w1⟩ := open_int Tryd.underlying3 (hval 1 3 v1 rfl rfl) h1
 have lt2 : ∀ x ∈ p2, x.block < W.heap.size := by obtain ⟨m, hm⟩ := h2; exact DataW.trod_lt m _ _ _ hm
 obtain ⟨a2, rfl, rfl, rfl, w2⟩ := open_int Tryd.underlying3 (hval 2 3 v2 rfl rfl) h2
 have lt3 : ∀ x ∈ p3, x.block < W.heap.size := by obtain ⟨m, hm⟩ := h3; exact DataW.trod_lt m _ _ _ hm
 obtain ⟨a3, rfl, rfl, rfl, w3⟩ := open_int Tryd.underlying3 (hval 3 3 v3 rfl rfl) h3
 clear hA0 hval0 hsz0 hsz
 obtain ⟨k, hf⟩ := Pure.AskNumbers a0 a1 a2 a3 w0 w1 w2 w3
 refine (Q.cubbylaw21_AskNumbers.calls k a0 a1 a2 a3 true W LAIDF rfl  hf).mono ?_
 rintro e W' ⟨rfl, hd⟩
 have bel : Below W.heap.size W W' := hd
 exact ⟨_, rfl, _, _, _, [], _, [], hW', trodAll_mk1 (shut_bool Tryd.underlying4 _), (trodAll_cons_mk (Below.trod laidOut (by kernel_rfl) (zB (by kernel_rfl)) h0 bel lt0) (trodAll_cons_mk (Below.trod laidOut (by kernel_rfl) (zB (by kernel_rfl)) h1 bel lt1) (trodAll_cons_mk (Below.trod laidOut (by kernel_rfl) (zB (by kernel_rfl)) h2 bel lt2) (trodAll_cons_mk (Below.trod laidOut (by kernel_rfl) (zB (by kernel_rfl)) h3 bel lt3) trodAll_mk0)))), rfl, bel.frame _, fun h => by cases h⟩
theorem over : Rows.askNumbersRow.holds Tryd.pinned (OpenSpec.ofChange Rows.askNumbersSpec) :=
 OpenClaim.holds_of_wide 4 Tryd.f4 rfl rfl rfl rfl rfl rfl rfl ⟨rfl, rfl, rfl, rfl, rfl⟩ rfl rfl rfl rfl rfl (by kernel_rfl) Tryd.func4 (by kernel_rfl)
  (zB (by kernel_rfl)) (by unfold Func.isWrapper; first | (rw [zC (by decide +kernel)]; kernel_rfl) | (rw [zD (by decide +kernel)]; exact ⟨rfl, rfl⟩))
  (fun os started H enc _ => lifted os started H enc)
end Go.Proofs.YtmojmnhaabonpaaDoor.RAskNumbers
namespace Go.Proofs.YtmojmnhaabonpaaDoor
theorem askNumbers_holds : Rows.AskNumbersSaid := RAskNumbers.over
theorem askNumbers_card : Rows.AskNumbersCardSaid :=
 Claim7.holds_tied_plain_at .later [] [.data, .data, .data, .data, .sentinel, .sentinel, .pinned] true (true, "fd5c55a3e85524a783e020c83ca468e8894ce98b3bc4ba02a3da3b94c409b69a") true askNumbers_holds (fun _ h => by cases h) (by kernel_rfl) (fun _ h => by cases h) askNumbers_row_tie rfl ⟨rfl, rfl⟩ (by kernel_rfl) rfl
  (fun f fn hf hfn => by
    obtain rfl : f = 4 := zI ((show Tryd.prog.funcNamed "cubby/cubbylaw21.AskNumbers" = some 4 by kernel_rfl).symm.trans hf) |>.symm
    obtain rfl : fn = Tryd.f4 := (zI (Tryd.func4.symm.trans hfn)).symm
    exact ⟨by kernel_rfl, fun j t ht => by
     rw [Tryd.params4] at ht
     have hm : t ∈ [5, 3, 3, 3] := by simpa using Array.mem_of_getElem? ht
     have hall : ([5, 3, 3, 3].all fun u => !Tryd.prog.wantsStandIn u) = true := by kernel_rfl
     exact (show Tryd.prog.wantsStandIn t = false by simpa using List.all_eq_true.1 hall t hm)⟩)
  (by kernel_rfl)
#print axioms askNumbers_card
end Go.Proofs.YtmojmnhaabonpaaDoor
