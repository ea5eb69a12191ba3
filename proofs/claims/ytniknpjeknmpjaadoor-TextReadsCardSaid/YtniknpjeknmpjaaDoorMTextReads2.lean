/- TextReads: parts of the proofs, put together. -/
import Derived.SizedLaws
import Derived.Deep.Slices
import Derived.ProofKit
import Derived.Test.YtniknpjeknmpjaaDoorProg
import Derived.Below
import Derived.Deep.Draws
import Derived.Deep.AppendLies
import Derived.Maps.AppendAt
import Derived.OwnWalk
import Derived.Laws.BytesArg
import Derived.Laws.MakeOwn
import Derived.Laws.OwnMore
import Derived.Deep.OwnRows
import Derived.Tactics
import Derived.Lib.ConvBytes
import Derived.Laws.Slices
import Derived.WalkKit
import Derived.KernelRfl
import Derived.RowKit3
import Derived.Deep.LoopGhost
import Derived.Deep.QuietTactic
import Derived.BigQuiet
import Derived.WideLaws
import Derived.Deep.DeepCutAuto
import Derived.Deep.CutBlock
import Derived.Deep.RegionHeld3
import Derived.Laws.Rows
import Derived.Lib.AppendStr
import Derived.ArgAppend
import Derived.Laws.IdiomCopy
import Derived.OrdersHeld
import Derived.Laws.BitsLemmas
import Derived.RowKit
import Derived.Ground.NamesProg
import Derived.Shelf.SlGeneric
import Derived.Shelf.LaysM
import Derived.Shelf.Strings.SlTrimAscii
import Derived.Shelf.Strings.Search2
import Derived.Shelf.Strings.Search3
import Derived.Shelf.Strings.Count
import Derived.Shelf.Strings.Split
import Derived.Shelf.Strconv.ErrVarAll
import Derived.Shelf.Strconv.Itoa3
import Derived.Shelf.Strings.OnBuilder
import Derived.Shelf.Small.Wraps
import Derived.Shelf.Strings.Prefix
import Derived.Shelf.Small.Strs
import Derived.Test.YtniknpjeknmpjaaDoorRows
import Derived.Lib.LaidU8
import Derived.Lib.LaidTab
import Derived.Stop.LaidErr
import Derived.Lib.QuietBelow
import Derived.OpenShut
import Derived.RangeFuncNested
import Derived.RangeFuncBound
import Derived.RangeFuncCalls
import Derived.RangeFuncLeaves
import Derived.Shelf.Abstract
import Derived.Shelf.RegionOpen
import Derived.OwnWalkIn
import Derived.TacticsInMore
import Derived.LoopNIn
import Derived.LoopIn
import Derived.Lib.AtoiAllCases
import Derived.Lib.OthersKept
import Derived.Test.YtniknpjeknmpjaaDoorMTextReads1
namespace Go.Proofs.YtniknpjeknmpjaaDoor.Open
open Go Go.Proofs.YtniknpjeknmpjaaDoorW.PrintWords
def Opens (P : Program) (t : TypeId) {α : Type} (d : Kd α) (G : α → Prop) : Prop :=
 P.cellsOf t = d.sz ∧ ∀ {H : Type} (enc : TypeId × Value → H) (w : World) (fuel : Nat) (cs : List Value) (x : DataW H × List MemPlace),
  DataW.trod enc P w 0 (fun _ => true) true fuel t cs = some x → (∀ n ∈ x.1.weights P t, n ≤ 140737488351232) → ∃ y, d.K w y cs ∧ G y
theorem Opens.int {P : Program} {t : TypeId} {k : IntKind} (ht : P.underlying t = some (.int k)) (hc : P.cellsOf t = 1) : Opens P t (Kd.int k) (fun n => (Lit.int k n).wf = true) := by
 refine ⟨hc, fun enc w fuel cs x h _ => ?_⟩
 obtain ⟨n, rfl, _, hw⟩ := DataW.trod_int ht h
 exact ⟨n, rfl, hw⟩
theorem Opens.bool {P : Program} {t : TypeId} (ht : P.underlying t = some .bool) (hc : P.cellsOf t = 1) : Opens P t Kd.bool (fun _ => True) := by
 refine ⟨hc, fun enc w fuel cs x h _ => ?_⟩
 obtain ⟨b, rfl, _⟩ := DataW.trod_bool ht h
 exact ⟨b, rfl, trivial⟩
theorem Opens.string {P : Program} {t : TypeId} (ht : P.underlying t = some .string) (hc : P.cellsOf t = 1) : Opens P t Kd.string (fun s => s.size ≤ 140737488351232) := by
 refine ⟨hc, fun enc w fuel cs x h hz => ?_⟩
 obtain ⟨s, rfl, rfl, _⟩ := DataW.trod_string ht h
 refine ⟨s, rfl, ?_⟩
 have := hz s.data.toList.length (by simp [DataW.weights])
 simpa using this
theorem weightsAll_mem {H : Type} {P : Program} {e : TypeId} : ∀ {l : List (DataW H)} {d : DataW H}, d ∈ l → ∀ n ∈ d.weights P e, n ∈ DataW.weightsAll P e l
 | a :: l, d, hd, n, hn => by
  simp only [DataW.weightsAll, List.mem_append]
  rcases List.mem_cons.1 hd with rfl | hd
  ·exact Or.inl hn
  ·exact Or.inr (weightsAll_mem hd n hn)
theorem choose_list {α : Type} {Q : Nat → α → Prop} : ∀ (n : Nat), (∀ i, i < n → ∃ y, Q i y) → ∃ ys : List α, ys.length = n ∧ ∀ i y, ys[i]? = some y → Q i y
 | 0, _ => ⟨[], rfl, fun i y h => by simp at h⟩
 | n + 1, h => by
  obtain ⟨ys, hl, hq⟩ := choose_list n (fun i hi => h i (by omega))
  obtain ⟨y, hy⟩ := h n (by omega)
  refine ⟨ys ++ [y], by simp [hl], fun i z hz => ?_⟩
  rcases Nat.lt_or_ge i n with hi | hi
  ·rw [List.getElem?_append_left (by omega)] at hz
   exact hq i z hz
  ·rw [List.getElem?_append_right (by omega)] at hz
   have : i = n := by
    have := (List.getElem?_eq_some_iff.1 hz).1
    simp at this
    omega
   subst this
   rw [hl, Nat.sub_self] at hz
   simp at hz
   subst hz
   exact hy
theorem Opens.slice {P : Program} {t e : TypeId} {α : Type} {d : Kd α} {G : α → Prop} {B : Nat} (ht : P.underlying t = some (.slice e)) (hc : P.cellsOf t = 1) (hB : P.bytesOf e = B) (hd : Opens P e d G) :
 Opens P t (Kd.slice e d) (fun xs => xs.length * B ≤ 140737488351232 ∧ xs.length ≤ maxLen ∧ ∀ x ∈ xs, G x) := by
 refine ⟨hc, fun enc w fuel cs x h hz => ?_⟩
 rcases Go.Deep.open_slice ht h with ⟨rfl, rfl⟩ | ⟨a, len, cap, m, n, D, Pl, rfl, _, hl, hm, hmc, rfl, hel⟩
 ·refine ⟨[], ⟨none, 0, rfl, Nat.le_refl _, ?_⟩, by simp [maxLen]⟩
  exact ⟨rfl, by simp, fun h => absurd h (by simp)⟩
 ·replace hmc : m = cap := by rw [hmc]; rfl
  subst hmc
  have hw : ∀ i, i < len → ∀ q ∈ (D i).weights P e, q ≤ 140737488351232 := by
   intro i hi q hq
   apply hz
   simp only [DataW.weights, ht, List.mem_cons, List.mem_append]
   right; left
   exact weightsAll_mem (d := D i) (List.mem_map.2 ⟨i, by simpa using hi, rfl⟩) q hq
  have hbig : (len + (m - len)) * B ≤ 140737488351232 := by
   apply hz
   simp only [DataW.weights, ht, List.mem_cons, List.length_map, List.length_range, hB]
   left; trivial
  obtain ⟨ys, hyl, hys⟩ := choose_list (Q := fun i y => ∃ c, w.cells? 0 (a.add (i * P.cellsOf e)) (P.cellsOf e) = some c ∧ d.K w y c ∧ G y) len (fun i hi => by
   obtain ⟨c, h1, h2⟩ := hel i (by omega)
   obtain ⟨y, hk, hg⟩ := hd.2 enc w _ _ _ h2 (hw i hi)
   exact ⟨y, c, h1, hk, hg⟩)
  refine ⟨ys, ⟨some a, m, by rw [hyl], by omega, ?_⟩, ?_, by omega, ?_⟩
  ·refine ⟨rfl, by unfold maxLen at hm; omega, fun _ => ⟨a, rfl, fun j p hj => ?_⟩⟩
   obtain ⟨c, h1, hk, hg⟩ := hys j p hj
   obtain ⟨_, h3, h4⟩ := World.cells?_some h1
   refine ⟨c, by rw [h3, hd.1], hk, fun i u hu => ?_⟩
   have hi : i < P.cellsOf e := by
    have := (List.getElem?_eq_some_iff.1 hu).1
    omega
   have h5 := h4 i hi
   rw [hu] at h5
   rw [← h5, ← hd.1]
   congr 1
   rw [Addr.add_add]
  ·rw [hyl]
   exact Nat.le_trans (Nat.mul_le_mul_right _ (by omega)) hbig
  ·intro y hy
   obtain ⟨i, hi⟩ := List.getElem?_of_mem hy
   obtain ⟨_, _, _, hg⟩ := hys i y hi
   exact hg
structure OpensFs (P : Program) (fs : List Field) (off : Nat) {α : Type} (d : Kd α) (G : α → Prop) : Prop where
 out : ∀ (H : Type) (enc : TypeId × Value → H) (w : World) (fuel : Nat) (cs : List Value) (xs : List (DataW H × List MemPlace)), cs.length = off + d.sz → xs.length = fs.length →
  (∀ (i : Nat) (f : Field), fs[i]? = some f → DataW.trod enc P w 0 (fun _ => true) true fuel f.type ((cs.drop f.offset).take (P.cellsOf f.type)) = xs[i]?) →
  (∀ n ∈ DataW.weightsEach P (fs.map (·.type)) (xs.map (·.1)), n ≤ 140737488351232) → ∃ y, d.K w y (cs.drop off) ∧ G y
theorem OpensFs.one {P : Program} {f : Field} {off : Nat} {α : Type} {d : Kd α} {G : α → Prop} (ho : f.offset = off) (hd : Opens P f.type d G) : OpensFs P [f] off d G := by
 refine ⟨fun H enc w fuel cs xs hl hx hf hz => ?_⟩
 have h0 := hf 0 f rfl
 obtain ⟨x, rfl⟩ : ∃ x, xs = [x] := by
  match xs, hx with
  | [x], _ => exact ⟨x, rfl⟩
 have h1 : (cs.drop f.offset).take (P.cellsOf f.type) = cs.drop off := by
  rw [ho, hd.1, List.take_of_length_le (by simp; omega)]
 rw [h1] at h0
 exact hd.2 enc w fuel _ x h0 (fun n hn => hz n (by simpa [DataW.weightsEach] using hn))
theorem OpensFs.cons {P : Program} {f : Field} {fs : List Field} {off : Nat} {α β : Type} {d : Kd α} {d2 : Kd β} {G : α → Prop} {G2 : β → Prop} (ho : f.offset = off) (hd : Opens P f.type d G) (h2 : OpensFs P fs (off + d.sz) d2 G2) :
 OpensFs P (f :: fs) off (Kd.pair d d2) (fun y => G y.1 ∧ G2 y.2) := by
 refine ⟨fun H enc w fuel cs xs hl hx hf hz => ?_⟩
 have hp : (Kd.pair d d2).sz = d.sz + d2.sz := rfl
 match xs, hx with
 | x :: xs, hx =>
  have h0 := hf 0 f rfl
  simp only [List.getElem?_cons_zero] at h0
  obtain ⟨y, hk, hg⟩ := hd.2 enc w fuel _ x h0 (fun n hn => hz n (by simp only [List.map_cons, DataW.weightsEach, List.mem_append]; exact Or.inl hn))
  obtain ⟨y2, hk2, hg2⟩ := h2.out H enc w fuel cs xs (by omega) (by simpa using hx) (fun i g hi => by simpa using hf (i + 1) g (by simpa using hi)) (fun n hn => hz n (by simp only [List.map_cons, DataW.weightsEach, List.mem_append]; exact Or.inr hn))
  refine ⟨(y, y2), ⟨_, _, ?_, hk, hk2⟩, hg, hg2⟩
  rw [ho, hd.1, ← List.drop_drop, List.take_append_drop]
theorem Opens.struct {P : Program} {t : TypeId} {fs : Array Field} {α : Type} {d : Kd α} {G : α → Prop} (ht : P.underlying t = some (.struct fs)) (hc : P.cellsOf t = d.sz) (hf : OpensFs P fs.toList 0 d G) : Opens P t d G := by
 refine ⟨hc, fun enc w fuel cs x h hz => ?_⟩
 obtain ⟨xs, n, rfl, rfl, hl, hx, hi⟩ := DataW.trod_struct ht h
 have := hf.out _ enc w n cs xs (by omega) (by simpa using hx) (fun i f h => hi i f (by simpa using h)) (fun q hq => hz q (by simpa [DataW.weights, ht] using hq))
 simpa using this
theorem Opens.iso {P : Program} {t : TypeId} {α β : Type} {d : Kd α} {G : α → Prop} (f : β → α) (g : α → β) (hg : ∀ y, f (g y) = y) (h : Opens P t d G) : Opens P t (Kd.iso d f) (fun x => G (f x)) := by
 refine ⟨h.1, fun enc w fuel cs x hx hz => ?_⟩
 obtain ⟨y, hk, hy⟩ := h.2 enc w fuel cs x hx hz
 exact ⟨g y, by show d.K w (f (g y)) cs; rw [hg]; exact hk, by show G (f (g y)); rw [hg]; exact hy⟩
theorem Opens.imp {P : Program} {t : TypeId} {α : Type} {d : Kd α} {G G' : α → Prop} (h : Opens P t d G) (hG : ∀ y, G y → G' y) : Opens P t d G' :=
 ⟨h.1, fun enc w fuel cs x hx hz => by
  obtain ⟨y, hk, hy⟩ := h.2 enc w fuel cs x hx hz
  exact ⟨y, hk, hG y hy⟩⟩
theorem Opens.arg {P : Program} {t : TypeId} {α : Type} {d : Kd α} {G : α → Prop} (h : Opens P t d G) {H : Type} {enc : TypeId × Value → H} {w : World} {v : Value} {x : DataW H} {ps : List MemPlace} (ht : DataW.Trod enc P w 0 (fun _ => true) true t v x ps)
 {ts : List TypeId} {ds : List (DataW H)} (hsz : (DataW.weightsEach P ts ds).all (· ≤ reachBytes) = true) {j : Nat} (h1 : ts[j]? = some t) (h2 : ds[j]? = some x) : ∃ y, d.K w y v.cells.toList ∧ G y := by
 obtain ⟨fuel, hf⟩ := ht
 refine h.2 enc w fuel _ _ hf (fun n hn => ?_)
 have := List.all_eq_true.1 hsz _ (DataW.weights_mem_each h1 h2 n hn)
 exact zB this
end Go.Proofs.YtniknpjeknmpjaaDoor.Open
namespace Go.Proofs.YtniknpjeknmpjaaDoor.Q
open Go.RowKit Go.Proofs.YtniknpjeknmpjaaDoorW.PrintWords Go.Proofs.YtniknpjeknmpjaaDoorW.PrintLast Go.Proofs.YtniknpjeknmpjaaDoorW.PrintMore
attribute [local go_sem] max2_int min2_int max_two min_two max_three min_three max_four min_four
set_option linter.unusedVariables false
set_option linter.unusedSimpArgs false
def errW : Option Int → Value
 | none => .nilIface
 | some c => .iface 140 (.int .i64 c)
theorem errW_none : errW none = .nilIface := rfl
theorem errW_some (c : Int) : errW (some c) = .iface 140 (.int .i64 c) := rfl
theorem info3 : (Tryd.prog.info? 3).map (fun i => (i.zero, i.size, i.bytes)) = some (some (.int .i64 0), 1, 8) := by kernel_rfl
theorem info9 : (Tryd.prog.info? 9).map (fun i => (i.zero, i.size, i.bytes)) = some (some (.string ⟨#[]⟩), 1, 16) := by kernel_rfl
-- the values' own types

structure SIns where
 f0 : Int
 f1 : Int
 f2 : Int
 f3 : Int
 f4 : ByteArray
 f5 : (List Int)
def zIns : SIns := ⟨(0 : Int), (0 : Int), (0 : Int), (0 : Int), (⟨#[]⟩ : ByteArray), ([] : List Int)⟩
def kIns : Kd SIns := Kd.iso (Kd.pair (Kd.int .i64) (Kd.pair (Kd.int .i64) (Kd.pair (Kd.int .i64) (Kd.pair (Kd.int .i64) (Kd.pair Kd.string (Kd.slice 3 (Kd.int .i64))))))) (fun x : SIns => (x.f0, x.f1, x.f2, x.f3, x.f4, x.f5))
theorem kIns_open {w : World} {x : SIns} {cs : List Value} (h : kIns.K w x cs) : ∃ A5 c5, cs = [.int .i64 x.f0, .int .i64 x.f1, .int .i64 x.f2, .int .i64 x.f3, .string x.f4, .slice A5 x.f5.length c5] ∧ x.f5.length ≤ c5 ∧ (Kd.int .i64).C w A5 x.f5.length x.f5 := by
 obtain ⟨_, _, rfl, rfl, ⟨_, _, rfl, rfl, ⟨_, _, rfl, rfl, ⟨_, _, rfl, rfl, ⟨_, _, rfl, rfl, ⟨A5, c5, rfl, l5, g5⟩⟩⟩⟩⟩⟩ := h
 exact ⟨A5, c5, rfl, l5, g5⟩
theorem kIns_mkM (w : World) (base : Nat) (ok : Nat → Prop) (x : SIns) {v5 : Value} (g5 : (Kd.int .i64).R 3 w base ok v5 x.f5) : kIns.M w base ok x [.int .i64 x.f0, .int .i64 x.f1, .int .i64 x.f2, .int .i64 x.f3, .string x.f4, v5] := ⟨[.int .i64 x.f0], [.int .i64 x.f1, .int .i64 x.f2, .int .i64 x.f3, .string x.f4, v5], rfl, rfl, ⟨[.int .i64 x.f1], [.int .i64 x.f2, .int .i64 x.f3, .string x.f4, v5], rfl, rfl, ⟨[.int .i64 x.f2], [.int .i64 x.f3, .string x.f4, v5], rfl, rfl, ⟨[.int .i64 x.f3], [.string x.f4, v5], rfl, rfl, ⟨[.string x.f4], [v5], rfl, rfl, ⟨v5, rfl, g5⟩⟩⟩⟩⟩⟩
def rd_TIns (xs : List SIns) (i : Int) : SIns := xs.getD i.toNat zIns
theorem at_TIns {w : World} {A : Option Addr} {n : Nat} {xs : List SIns} (h : Kd.C kIns w A n xs) (i : Int) (h0 : 0 ≤ i) (h1 : i < n) : ∃ ad A5 c5, A = some ad ∧ w.cell? (ad.add (i.toNat * 6)) = some (.int .i64 (rd_TIns xs i).f0) ∧ w.cell? ⟨(ad.add (i.toNat * 6)).block, (ad.add (i.toNat * 6)).off + 1, none⟩ = some (.int .i64 (rd_TIns xs i).f1) ∧ w.cell? ⟨(ad.add (i.toNat * 6)).block, (ad.add (i.toNat * 6)).off + 2, none⟩ = some (.int .i64 (rd_TIns xs i).f2) ∧ w.cell? ⟨(ad.add (i.toNat * 6)).block, (ad.add (i.toNat * 6)).off + 3, none⟩ = some (.int .i64 (rd_TIns xs i).f3) ∧ w.cell? ⟨(ad.add (i.toNat * 6)).block, (ad.add (i.toNat * 6)).off + 4, none⟩ = some (.string (rd_TIns xs i).f4) ∧ w.cell? ⟨(ad.add (i.toNat * 6)).block, (ad.add (i.toNat * 6)).off + 5, none⟩ = some (.slice A5 (rd_TIns xs i).f5.length c5) ∧ (rd_TIns xs i).f5.length ≤ c5 ∧ (Kd.int .i64).C w A5 (rd_TIns xs i).f5.length (rd_TIns xs i).f5 := by
 obtain ⟨ad, c, e, _, hK, hc0⟩ := Kd.C_get h zIns i h0 h1
 have hc : ∀ j u, c[j]? = some u → w.cell? (ad.add (i.toNat * 6 + j)) = some u := hc0
 obtain ⟨A5, c5, rfl, l5, g5⟩ := kIns_open hK
 exact ⟨ad, A5, c5, e, hc 0 _ rfl, by rw [← add_field _ _ 1 (by omega)]; exact hc 1 _ rfl, by rw [← add_field _ _ 2 (by omega)]; exact hc 2 _ rfl, by rw [← add_field _ _ 3 (by omega)]; exact hc 3 _ rfl, by rw [← add_field _ _ 4 (by omega)]; exact hc 4 _ rfl, by rw [← add_field _ _ 5 (by omega)]; exact hc 5 _ rfl, l5, g5⟩
def rd_LIns (xs : List (List SIns)) (i : Int) : (List SIns) := xs.getD i.toNat ([] : List SIns)
theorem at_LIns {w : World} {A : Option Addr} {n : Nat} {xs : List (List SIns)} (h : Kd.C (Kd.slice 43 kIns) w A n xs) (i : Int) (h0 : 0 ≤ i) (h1 : i < n) : ∃ ad A0 c0, A = some ad ∧ w.cell? (ad.add i.toNat) = some (.slice A0 (rd_LIns xs i).length c0) ∧ (rd_LIns xs i).length ≤ c0 ∧ kIns.C w A0 (rd_LIns xs i).length (rd_LIns xs i) := by
 obtain ⟨ad, c, e, _, hK, hc0⟩ := Kd.C_get h ([] : List SIns) i h0 h1
 have hc : ∀ j u, c[j]? = some u → w.cell? (ad.add (i.toNat * 1 + j)) = some u := hc0
 obtain ⟨A0, c0, rfl, l0, g0⟩ := hK
 exact ⟨ad, A0, c0, e, by have hq := hc 0 _ rfl; rwa [Nat.mul_one, Nat.add_zero] at hq, l0, g0⟩


end Go.Proofs.YtniknpjeknmpjaaDoor.Q
namespace Go.Proofs.YtniknpjeknmpjaaDoor.Q
open Go.RowKit Go.Proofs.YtniknpjeknmpjaaDoorW.PrintWords Go.Proofs.YtniknpjeknmpjaaDoorW.PrintLast Go.Proofs.YtniknpjeknmpjaaDoorW.PrintMore
set_option linter.unusedVariables false
section
variable {P Q : Prop}
theorem qB (h : P := by repeat (first | (with_reducible first | exact HB.out | apply below_alloc | apply pw_below_drewN | apply below_drew1 | refine below_set ?_ (Aside0.out (by assumption))) | exact HB.out)) : P := h
theorem qA (h : P := by first | (with_reducible assumption) | assumption) : P := h
theorem qE (h : P := by first | rfl | (simp [errW_none, errW_some] <;> rfl) | (simp [*, errW_none, errW_some] <;> rfl)) : P := h
theorem qT (h : P := by first | rfl | (simp; done) | (simp [*]; done)) : P := h
theorem qO (h : P := by first | omega | exact Nat.le_refl _) : P := h
theorem qD (h : P := by repeat (first | exact Drawn0.refl _ | apply Drawn0.step)) : P := h
theorem qL (h : P := by (try simp only [List.map_toArray, List.map_cons, List.map_nil]); first | done | rfl | (simp only [List.length_drop, List.length_take]; rfl)) : P := h
theorem qK (q : Q) (h : Q → P := by intro h_; (with_reducible repeat (first | refine blk_drewN ?_ _ | refine blk_drew ?_ | refine blk_alloc ?_ _)); exact h_) : P := h q
theorem qR (q : Q) (h : Q → P := by intro h_; (with_reducible repeat (first | apply Kd.R_alloc | apply Kd.R_drewN | apply Kd.R_drew)); exact h_) : P := h q
theorem qCB (q : Q) (h : Q → P := by intro h_; repeat (first | exact (Kd.C_below h_ HB.out) | (with_reducible refine Kd.C_alloc ?_ _) | (with_reducible refine Kd.C_drewN ?_ _) | (with_reducible refine Kd.C_drew ?_))) : P := h q
end
theorem qW {w0 w w1 : World} {g : Nat} {o : Obj} (bk : Aside0 (w0.heap[g]? = some o)) (hb : Below w.heap.size w w1) (h : w0.heap[g]? = some o → w.heap[g]? = some o := by intro h_; (with_reducible repeat (first | refine blk_drewN ?_ _ | refine blk_drew ?_ | refine blk_alloc ?_ _)); exact h_) : Aside0 (w1.heap[g]? = some o) := ⟨blk_below (h bk.out) hb⟩
theorem qH {w W w2 : World} (hb : Below W.heap.size W w2) (h : Below w.heap.size w W := by repeat (first | (with_reducible first | exact HB.out | apply below_alloc | apply pw_below_drewN | apply below_drew1 | refine below_set ?_ (Aside0.out (by assumption))) | exact HB.out)) : Aside0 (Below w.heap.size w w2) := ⟨below_step h hb⟩
theorem qG {w W : World} {g : Nat} (hg : g = W.heap.size) (h : Below w.heap.size w W := by repeat (first | (with_reducible first | exact HB.out | apply below_alloc | apply pw_below_drewN | apply below_drew1 | refine below_set ?_ (Aside0.out (by assumption))) | exact HB.out)) : Aside0 (w.heap.size ≤ g) := ⟨by rw [hg]; exact below_size h⟩
theorem qb {α β : Type} {x : Option α} {f : α → Option β} {r : β} (h : x.bind f = some r) : ∃ t, Aside0 (x = some t) ∧ f t = some r := by
 obtain ⟨t, h1, h2⟩ := Option.bind_eq_some_iff.mp h
 exact ⟨t, ⟨h1⟩, h2⟩
theorem qe {α : Type} [BEq α] [LawfulBEq α] {a b : α} (h : a = b) : (a == b) = true ∧ (a != b) = false := ⟨beq_iff_eq.mpr h, bne_eq_false_iff_eq.mpr h⟩
theorem qn {α : Type} [BEq α] [LawfulBEq α] {a b : α} (h : ¬ a = b) : (a == b) = false ∧ (a != b) = true := ⟨beq_eq_false_iff_ne.mpr h, bne_iff_ne.mpr h⟩
theorem bk1 {w : World} {g : Nat} {t : TypeId} {c0 : Value} (h : w.heap[g]? = some (.cells #[c0] t (0, 0))) : w.cell? ⟨g, 0, none⟩ = some c0 ∧ w.frozen? ⟨g, 0, none⟩ = false := ⟨(blk_cell h 0).trans rfl, blk_frozen h 0⟩
theorem bk3 {w : World} {g : Nat} {t : TypeId} {c0 c1 c2 : Value} (h : w.heap[g]? = some (.cells #[c0, c1, c2] t (0, 0))) : w.cell? ⟨g, 0, none⟩ = some c0 ∧ w.cell? ⟨g, 1, none⟩ = some c1 ∧ w.cell? ⟨g, 2, none⟩ = some c2 ∧ w.frozen? ⟨g, 0, none⟩ = false ∧ w.frozen? ⟨g, 1, none⟩ = false ∧ w.frozen? ⟨g, 2, none⟩ = false := ⟨(blk_cell h 0).trans rfl, (blk_cell h 1).trans rfl, (blk_cell h 2).trans rfl, blk_frozen h 0, blk_frozen h 1, blk_frozen h 2⟩
theorem bk5 {w : World} {g : Nat} {t : TypeId} {c0 c1 c2 c3 c4 : Value} (h : w.heap[g]? = some (.cells #[c0, c1, c2, c3, c4] t (0, 0))) : w.cell? ⟨g, 0, none⟩ = some c0 ∧ w.cell? ⟨g, 1, none⟩ = some c1 ∧ w.cell? ⟨g, 2, none⟩ = some c2 ∧ w.cell? ⟨g, 3, none⟩ = some c3 ∧ w.cell? ⟨g, 4, none⟩ = some c4 ∧ w.frozen? ⟨g, 0, none⟩ = false ∧ w.frozen? ⟨g, 1, none⟩ = false ∧ w.frozen? ⟨g, 2, none⟩ = false ∧ w.frozen? ⟨g, 3, none⟩ = false ∧ w.frozen? ⟨g, 4, none⟩ = false := ⟨(blk_cell h 0).trans rfl, (blk_cell h 1).trans rfl, (blk_cell h 2).trans rfl, (blk_cell h 3).trans rfl, (blk_cell h 4).trans rfl, blk_frozen h 0, blk_frozen h 1, blk_frozen h 2, blk_frozen h 3, blk_frozen h 4⟩
theorem bk6 {w : World} {g : Nat} {t : TypeId} {c0 c1 c2 c3 c4 c5 : Value} (h : w.heap[g]? = some (.cells #[c0, c1, c2, c3, c4, c5] t (0, 0))) : w.cell? ⟨g, 0, none⟩ = some c0 ∧ w.cell? ⟨g, 1, none⟩ = some c1 ∧ w.cell? ⟨g, 2, none⟩ = some c2 ∧ w.cell? ⟨g, 3, none⟩ = some c3 ∧ w.cell? ⟨g, 4, none⟩ = some c4 ∧ w.cell? ⟨g, 5, none⟩ = some c5 ∧ w.frozen? ⟨g, 0, none⟩ = false ∧ w.frozen? ⟨g, 1, none⟩ = false ∧ w.frozen? ⟨g, 2, none⟩ = false ∧ w.frozen? ⟨g, 3, none⟩ = false ∧ w.frozen? ⟨g, 4, none⟩ = false ∧ w.frozen? ⟨g, 5, none⟩ = false := ⟨(blk_cell h 0).trans rfl, (blk_cell h 1).trans rfl, (blk_cell h 2).trans rfl, (blk_cell h 3).trans rfl, (blk_cell h 4).trans rfl, (blk_cell h 5).trans rfl, blk_frozen h 0, blk_frozen h 1, blk_frozen h 2, blk_frozen h 3, blk_frozen h 4, blk_frozen h 5⟩
def bA (n m : Nat) : Array Bool := ((List.range n).map m.testBit).toArray
section
variable {P : Program} {ops : Array Oper} {Q : Exit → Act → World → Prop} {md : Region.Mode} {S : World → Prop} {ds : List Nat}
theorem pu_ {i : Nat} {N : Option Tmp} {oi : Oper} {v : Value} {fuel : Nat} {l : Array Bool} {a a' : Act} {w : World} (l' : Array Bool) (h : wpAnyLast P md ops Q S ds fuel l' a' w) (hi : ops[i]? = some oi := by rfl) (hN : oi.dst = N := by rfl) (hc : anyB md ops l l' i = true := by exact any_of HT_.out (by kernel_rfl)) (hQ : ∀ c a w, Q (.panic c) (a.put oi.dst v) w → Q (.panic c) a w := by exact fun _ _ _ h => h) (hy : Yields P ops oi v a := by exact Or.inl ⟨by rfl, by intro w'; first | (go_simp; done) | (go_simp; with_reducible rfl)⟩) (ha : a.put N v = a' := by (conv => lhs; simp only [Act.put, List.setIfInBounds_toArray, List.set_cons_zero, List.set_cons_succ, i64_w, i32_w]); try rfl) : wpAnyLast P md ops Q S ds (fuel + 1) l a w := pure_ l' hi hN hc hQ hy ha h
theorem tk_ {i : Nat} {N : Option Tmp} {oi : Oper} {v : Value} {fuel : Nat} {l : Array Bool} {a a' : Act} {w : World} (l' : Array Bool) (h : wpAnyLast P md ops Q S ds fuel l' a' w) (hi : ops[i]? = some oi := by rfl) (hN : oi.dst = N := by rfl) (hc : takeB md ops ds l l' i = true := by exact take_ofW HT_.out HW_.out (by kernel_rfl)) (hQ : ∀ c a w, Q (.panic c) (a.put oi.dst v) w → Q (.panic c) a w := by exact fun _ _ _ h => h) (hy : YieldsIf P ops S oi v a := by refine Or.inl ⟨by rfl, ?_⟩; intro w' s_; repeat (obtain ⟨s0_, s_⟩ : _ ∧ _ := s_); first | (go_simp; done) | (go_simp; with_reducible rfl)) (hS : S w := by exact hHeld) (ha : a.put N v = a' := by (conv => lhs; simp only [Act.put, List.setIfInBounds_toArray, List.set_cons_zero, List.set_cons_succ, i64_w, i32_w]); try rfl) : wpAnyLast P md ops Q S ds (fuel + 1) l a w := take_ l' hi hN hc hQ hy hS ha h
end
end Go.Proofs.YtniknpjeknmpjaaDoor.Q
namespace Go.Proofs
open Go.Shelf
def Tryd.lays160_ren : Go.Shelf.Ren := ⟨fun | 160 => 49 | 232 => 64 | 231 => 63 | 227 => 65 | 234 => 67 | 233 => 66 | 236 => 69 | 235 => 68 | 228 => 78 | 271 => 81 | 151 => 80 | 197 => 79 | 120 => 94 | 152 => 93 | 260 => 92 | 137 => 53 | 119 => 108 | 224 => 101 | 225 => 100 | 217 => 71 | 266 => 86 | n => n, fun | 9 => 9 | 4 => 4 | 3 => 3 | 5 => 5 | 117 => 111 | 116 => 110 | 0 => 0 | 124 => 114 | 21 => 21 | 105 => 120 | 46 => 138 | 119 => 146 | 139 => 149 | 138 => 148 | n => n, fun | 3 => 2 | 4 => 3 | n => n⟩
theorem Tryd.lays160 : Go.Proofs.Lays.n160 Tryd.prog Tryd.lays160_ren := {
 mixed := by kernel_rfl
 f119 := Tryd.func108.trans (congrArg some (by kernel_rfl))
 f120 := Tryd.func94.trans (congrArg some (by kernel_rfl))
 f137 := Tryd.func53.trans (congrArg some (by kernel_rfl))
 f151 := Tryd.func80.trans (congrArg some (by kernel_rfl))
 f152 := Tryd.func93.trans (congrArg some (by kernel_rfl))
 f160 := Tryd.func49.trans (congrArg some (by kernel_rfl))
 f197 := Tryd.func79.trans (congrArg some (by kernel_rfl))
 f217 := Tryd.func71.trans (congrArg some (by kernel_rfl))
 f224 := Tryd.func101.trans (congrArg some (by kernel_rfl))
 f225 := Tryd.func100.trans (congrArg some (by kernel_rfl))
 f227 := Tryd.func65.trans (congrArg some (by kernel_rfl))
 f228 := Tryd.func78.trans (congrArg some (by kernel_rfl))
 f231 := Tryd.func63.trans (congrArg some (by kernel_rfl))
 f232 := Tryd.func64.trans (congrArg some (by kernel_rfl))
 f233 := Tryd.func66.trans (congrArg some (by kernel_rfl))
 f234 := Tryd.func67.trans (congrArg some (by kernel_rfl))
 f235 := Tryd.func68.trans (congrArg some (by kernel_rfl))
 f236 := Tryd.func69.trans (congrArg some (by kernel_rfl))
 f260 := Tryd.func92.trans (congrArg some (by kernel_rfl))
 f266 := Tryd.func86.trans (congrArg some (by kernel_rfl))
 f271 := Tryd.func81.trans (congrArg some (by kernel_rfl))
 t0 := Tryd.underlying0
 a0 := Tryd.isAgg0
 z0 := Tryd.sizeOf0
 v0 := Tryd.zeroValue0
 t3 := Tryd.underlying3
 a3 := Tryd.isAgg3
 z3 := Tryd.sizeOf3
 v3 := Tryd.zeroValue3
 t4 := Tryd.underlying4
 a4 := Tryd.isAgg4
 z4 := Tryd.sizeOf4
 v4 := Tryd.zeroValue4
 t5 := Tryd.underlying5
 a5 := Tryd.isAgg5
 z5 := Tryd.sizeOf5
 v5 := Tryd.zeroValue5
 t9 := Tryd.underlying9
 a9 := Tryd.isAgg9
 z9 := Tryd.sizeOf9
 v9 := Tryd.zeroValue9
 t21 := Tryd.underlying21
 a21 := Tryd.isAgg21
 z21 := Tryd.sizeOf21
 v21 := Tryd.zeroValue21
 t46 := Tryd.underlying138
 a46 := Tryd.isAgg138
 z46 := Tryd.sizeOf138
 v46 := Tryd.zeroValue138
 t105 := Tryd.underlying120
 a105 := Tryd.isAgg120
 z105 := Tryd.sizeOf120
 v105 := Tryd.zeroValue120
 t116 := Tryd.underlying110
 a116 := Tryd.isAgg110
 z116 := Tryd.sizeOf110
 t117 := Tryd.underlying111
 a117 := Tryd.isAgg111
 z117 := Tryd.sizeOf111
 v117 := Tryd.zeroValue111
 t119 := Tryd.underlying146
 a119 := Tryd.isAgg146
 z119 := Tryd.sizeOf146
 t124 := Tryd.underlying114
 a124 := Tryd.isAgg114
 z124 := Tryd.sizeOf114
 v124 := Tryd.zeroValue114
 t138 := Tryd.underlying148
 a138 := Tryd.isAgg148
 z138 := Tryd.sizeOf148
 v138 := Tryd.zeroValue148
 t139 := Tryd.underlying149
 a139 := Tryd.isAgg149
 z139 := Tryd.sizeOf149
 v139 := Tryd.zeroValue149
 g3 := by kernel_rfl
 g4 := by kernel_rfl }
def Tryd.lays104_ren : Go.Shelf.Ren := ⟨fun | 104 => 39 | 211 => 54 | 207 => 72 | n => n, fun | 9 => 9 | 4 => 4 | 24 => 81 | 3 => 3 | n => n, fun | n => n⟩
theorem Tryd.lays104 : Go.Proofs.Lays.n104 Tryd.prog Tryd.lays104_ren := {
 mixed := by kernel_rfl
 f104 := Tryd.func39.trans (congrArg some (by kernel_rfl))
 f207 := Tryd.func72.trans (congrArg some (by kernel_rfl))
 f211 := Tryd.func54.trans (congrArg some (by kernel_rfl))
 t3 := Tryd.underlying3
 a3 := Tryd.isAgg3
 z3 := Tryd.sizeOf3
 v3 := Tryd.zeroValue3
 t4 := Tryd.underlying4
 a4 := Tryd.isAgg4
 z4 := Tryd.sizeOf4
 v4 := Tryd.zeroValue4
 t9 := Tryd.underlying9
 a9 := Tryd.isAgg9
 z9 := Tryd.sizeOf9
 v9 := Tryd.zeroValue9
 t24 := Tryd.underlying81
 a24 := Tryd.isAgg81
 z24 := Tryd.sizeOf81
 v24 := Tryd.zeroValue81 }
def Tryd.lays100_ren : Go.Shelf.Ren := ⟨fun | 100 => 58 | 207 => 72 | n => n, fun | 9 => 9 | 4 => 4 | 3 => 3 | n => n, fun | n => n⟩
theorem Tryd.lays100 : Go.Proofs.Lays.n100 Tryd.prog Tryd.lays100_ren := {
 mixed := by kernel_rfl
 f100 := Tryd.func58.trans (congrArg some (by kernel_rfl))
 f207 := Tryd.func72.trans (congrArg some (by kernel_rfl))
 t3 := Tryd.underlying3
 a3 := Tryd.isAgg3
 z3 := Tryd.sizeOf3
 v3 := Tryd.zeroValue3
 t4 := Tryd.underlying4
 a4 := Tryd.isAgg4
 z4 := Tryd.sizeOf4
 v4 := Tryd.zeroValue4
 t9 := Tryd.underlying9
 a9 := Tryd.isAgg9
 z9 := Tryd.sizeOf9
 v9 := Tryd.zeroValue9 }
def Tryd.lays137_ren : Go.Shelf.Ren := ⟨fun | 137 => 53 | 217 => 71 | 266 => 86 | n => n, fun | 9 => 9 | 5 => 5 | 3 => 3 | n => n, fun | n => n⟩
theorem Tryd.lays137 : Go.Proofs.Lays.n137 Tryd.prog Tryd.lays137_ren := {
 mixed := by kernel_rfl
 f137 := Tryd.func53.trans (congrArg some (by kernel_rfl))
 f217 := Tryd.func71.trans (congrArg some (by kernel_rfl))
 f266 := Tryd.func86.trans (congrArg some (by kernel_rfl))
 t3 := Tryd.underlying3
 a3 := Tryd.isAgg3
 z3 := Tryd.sizeOf3
 v3 := Tryd.zeroValue3
 t5 := Tryd.underlying5
 a5 := Tryd.isAgg5
 z5 := Tryd.sizeOf5
 v5 := Tryd.zeroValue5
 t9 := Tryd.underlying9
 a9 := Tryd.isAgg9
 z9 := Tryd.sizeOf9
 v9 := Tryd.zeroValue9 }
def Tryd.lays146_ren : Go.Shelf.Ren := ⟨fun | 146 => 40 | 221 => 55 | 268 => 73 | 138 => 74 | 143 => 75 | 195 => 87 | 197 => 79 | 218 => 88 | 219 => 89 | 260 => 92 | 217 => 71 | 225 => 100 | 224 => 101 | 267 => 102 | 266 => 86 | 314 => 111 | n => n, fun | 9 => 9 | 31 => 67 | 3 => 3 | 4 => 4 | 0 => 0 | 105 => 120 | 21 => 21 | 5 => 5 | 46 => 138 | 119 => 146 | 139 => 149 | 138 => 148 | 146 => 152 | 51 => 135 | n => n, fun | 1 => 0 | 3 => 2 | 4 => 3 | n => n⟩
theorem Tryd.lays146 : Go.Proofs.LaysM.n146 Tryd.prog Tryd.lays146_ren := {
 mixed := by kernel_rfl
 f138 := Tryd.func74.trans (congrArg some (by kernel_rfl))
 f143 := Tryd.func75.trans (congrArg some (by kernel_rfl))
 f146 := Tryd.func40.trans (congrArg some (by kernel_rfl))
 f195 := Tryd.func87.trans (congrArg some (by kernel_rfl))
 f197 := Tryd.func79.trans (congrArg some (by kernel_rfl))
 f217 := Tryd.func71.trans (congrArg some (by kernel_rfl))
 f218 := Tryd.func88.trans (congrArg some (by kernel_rfl))
 f219 := Tryd.func89.trans (congrArg some (by kernel_rfl))
 f221 := Tryd.func55.trans (congrArg some (by kernel_rfl))
 f224 := Tryd.func101.trans (congrArg some (by kernel_rfl))
 f225 := Tryd.func100.trans (congrArg some (by kernel_rfl))
 f260 := Tryd.func92.trans (congrArg some (by kernel_rfl))
 f266 := Tryd.func86.trans (congrArg some (by kernel_rfl))
 f267 := Tryd.func102.trans (congrArg some (by kernel_rfl))
 f268 := Tryd.func73.trans (congrArg some (by kernel_rfl))
 f314 := Tryd.func111.trans (congrArg some (by kernel_rfl))
 t0 := Tryd.underlying0
 a0 := Tryd.isAgg0
 z0 := Tryd.sizeOf0
 v0 := Tryd.zeroValue0
 t3 := Tryd.underlying3
 a3 := Tryd.isAgg3
 z3 := Tryd.sizeOf3
 v3 := Tryd.zeroValue3
 t4 := Tryd.underlying4
 a4 := Tryd.isAgg4
 z4 := Tryd.sizeOf4
 v4 := Tryd.zeroValue4
 t5 := Tryd.underlying5
 a5 := Tryd.isAgg5
 z5 := Tryd.sizeOf5
 v5 := Tryd.zeroValue5
 t9 := Tryd.underlying9
 a9 := Tryd.isAgg9
 z9 := Tryd.sizeOf9
 v9 := Tryd.zeroValue9
 t21 := Tryd.underlying21
 a21 := Tryd.isAgg21
 z21 := Tryd.sizeOf21
 v21 := Tryd.zeroValue21
 t31 := Tryd.underlying67
 a31 := Tryd.isAgg67
 z31 := Tryd.sizeOf67
 v31 := Tryd.zeroValue67
 t46 := Tryd.underlying138
 a46 := Tryd.isAgg138
 z46 := Tryd.sizeOf138
 v46 := Tryd.zeroValue138
 t51 := Tryd.underlying135
 a51 := Tryd.isAgg135
 z51 := Tryd.sizeOf135
 v51 := Tryd.zeroValue135
 t105 := Tryd.underlying120
 a105 := Tryd.isAgg120
 z105 := Tryd.sizeOf120
 v105 := Tryd.zeroValue120
 t119 := Tryd.underlying146
 a119 := Tryd.isAgg146
 z119 := Tryd.sizeOf146
 t138 := Tryd.underlying148
 a138 := Tryd.isAgg148
 z138 := Tryd.sizeOf148
 v138 := Tryd.zeroValue148
 t139 := Tryd.underlying149
 a139 := Tryd.isAgg149
 z139 := Tryd.sizeOf149
 v139 := Tryd.zeroValue149
 t146 := Tryd.underlying152
 a146 := Tryd.isAgg152
 z146 := Tryd.sizeOf152
 v146 := Tryd.zeroValue152
 g1 := by kernel_rfl
 g3 := by kernel_rfl
 g4 := by kernel_rfl
 i0 := by kernel_rfl
 i3 := by kernel_rfl
 i4 := by kernel_rfl
 i5 := by kernel_rfl
 i9 := by kernel_rfl
 i21 := by kernel_rfl
 i31 := by kernel_rfl
 i46 := by kernel_rfl
 i51 := by kernel_rfl
 i105 := by kernel_rfl
 i138 := by kernel_rfl
 i139 := by kernel_rfl
 i146 := by kernel_rfl
 m1 := by kernel_rfl
 s1_3 := fun w h => Go.Proofs.cell_of_shapedOpen_int (zero := #[.int .i64 0]) (t := 3) h (zB (by kernel_rfl)) (by kernel_rfl) rfl (by kernel_rfl) (by kernel_rfl) Tryd.underlying3
 m3 := by kernel_rfl
 m4 := by kernel_rfl }
def Tryd.lays172_ren : Go.Shelf.Ren := ⟨fun | 172 => 76 | 244 => 90 | 245 => 91 | 247 => 103 | 279 => 104 | 280 => 105 | 281 => 106 | 282 => 107 | 287 => 112 | 316 => 113 | 171 => 31 | 205 => 114 | 321 => 115 | 322 => 116 | 243 => 50 | 246 => 70 | 283 => 82 | 284 => 83 | 285 => 84 | 286 => 85 | 129 => 96 | 317 => 95 | 318 => 97 | 319 => 98 | 320 => 99 | 337 => 109 | 338 => 110 | n => n, fun | 9 => 9 | 3 => 3 | 75 => 69 | 76 => 70 | 4 => 4 | 5 => 5 | 167 => 140 | 37 => 46 | 0 => 0 | 85 => 141 | 2 => 2 | 168 => 143 | 53 => 124 | 175 => 154 | 46 => 138 | 210 => 158 | 127 => 97 | 145 => 165 | 143 => 163 | 21 => 21 | 171 => 123 | 173 => 127 | 212 => 134 | 51 => 135 | 20 => 20 | 213 => 136 | 232 => 160 | 233 => 161 | 80 => 52 | n => n, fun | 15 => 4 | 16 => 5 | 17 => 1 | 18 => 6 | 19 => 7 | n => n⟩
theorem Tryd.lays172 : Go.Proofs.LaysC.n172 Tryd.prog Tryd.lays172_ren := {
 mixed := by kernel_rfl
 f129 := Tryd.func96.trans (congrArg some (by kernel_rfl))
 f171 := Tryd.func31.trans (congrArg some (by kernel_rfl))
 f172 := Tryd.func76.trans (congrArg some (by kernel_rfl))
 f205 := Tryd.func114.trans (congrArg some (by kernel_rfl))
 f243 := Tryd.func50.trans (congrArg some (by kernel_rfl))
 f244 := Tryd.func90.trans (congrArg some (by kernel_rfl))
 f245 := Tryd.func91.trans (congrArg some (by kernel_rfl))
 f246 := Tryd.func70.trans (congrArg some (by kernel_rfl))
 f247 := Tryd.func103.trans (congrArg some (by kernel_rfl))
 f279 := Tryd.func104.trans (congrArg some (by kernel_rfl))
 f280 := Tryd.func105.trans (congrArg some (by kernel_rfl))
 f281 := Tryd.func106.trans (congrArg some (by kernel_rfl))
 f282 := Tryd.func107.trans (congrArg some (by kernel_rfl))
 f283 := Tryd.func82.trans (congrArg some (by kernel_rfl))
 f284 := Tryd.func83.trans (congrArg some (by kernel_rfl))
 f285 := Tryd.func84.trans (congrArg some (by kernel_rfl))
 f286 := Tryd.func85.trans (congrArg some (by kernel_rfl))
 f287 := Tryd.func112.trans (congrArg some (by kernel_rfl))
 f316 := Tryd.func113.trans (congrArg some (by kernel_rfl))
 f317 := Tryd.func95.trans (congrArg some (by kernel_rfl))
 f318 := Tryd.func97.trans (congrArg some (by kernel_rfl))
 f319 := Tryd.func98.trans (congrArg some (by kernel_rfl))
 f320 := Tryd.func99.trans (congrArg some (by kernel_rfl))
 f321 := Tryd.func115.trans (congrArg some (by kernel_rfl))
 f322 := Tryd.func116.trans (congrArg some (by kernel_rfl))
 f337 := Tryd.func109.trans (congrArg some (by kernel_rfl))
 f338 := Tryd.func110.trans (congrArg some (by kernel_rfl))
 t0 := Tryd.underlying0
 a0 := Tryd.isAgg0
 z0 := Tryd.sizeOf0
 v0 := Tryd.zeroValue0
 t2 := Tryd.underlying2
 a2 := Tryd.isAgg2
 z2 := Tryd.sizeOf2
 v2 := Tryd.zeroValue2
 t3 := Tryd.underlying3
 a3 := Tryd.isAgg3
 z3 := Tryd.sizeOf3
 v3 := Tryd.zeroValue3
 t4 := Tryd.underlying4
 a4 := Tryd.isAgg4
 z4 := Tryd.sizeOf4
 v4 := Tryd.zeroValue4
 t5 := Tryd.underlying5
 a5 := Tryd.isAgg5
 z5 := Tryd.sizeOf5
 v5 := Tryd.zeroValue5
 t9 := Tryd.underlying9
 a9 := Tryd.isAgg9
 z9 := Tryd.sizeOf9
 v9 := Tryd.zeroValue9
 t20 := Tryd.underlying20
 a20 := Tryd.isAgg20
 z20 := Tryd.sizeOf20
 v20 := Tryd.zeroValue20
 t21 := Tryd.underlying21
 a21 := Tryd.isAgg21
 z21 := Tryd.sizeOf21
 v21 := Tryd.zeroValue21
 t37 := Tryd.underlying46
 a37 := Tryd.isAgg46
 z37 := Tryd.sizeOf46
 v37 := Tryd.zeroValue46
 t46 := Tryd.underlying138
 a46 := Tryd.isAgg138
 z46 := Tryd.sizeOf138
 v46 := Tryd.zeroValue138
 t51 := Tryd.underlying135
 a51 := Tryd.isAgg135
 z51 := Tryd.sizeOf135
 v51 := Tryd.zeroValue135
 t53 := Tryd.underlying124
 a53 := Tryd.isAgg124
 z53 := Tryd.sizeOf124
 v53 := Tryd.zeroValue124
 t75 := Tryd.underlying69
 a75 := Tryd.isAgg69
 z75 := Tryd.sizeOf69
 v75 := Tryd.zeroValue69
 t76 := Tryd.underlying70
 a76 := Tryd.isAgg70
 z76 := Tryd.sizeOf70
 v76 := Tryd.zeroValue70
 t85 := Tryd.underlying141
 a85 := Tryd.isAgg141
 z85 := Tryd.sizeOf141
 v85 := Tryd.zeroValue141
 t127 := Tryd.underlying97
 a127 := Tryd.isAgg97
 z127 := Tryd.sizeOf97
 v127 := Tryd.zeroValue97
 t143 := Tryd.underlying163
 a143 := Tryd.isAgg163
 z143 := Tryd.sizeOf163
 v143 := Tryd.zeroValue163
 t145 := Tryd.underlying165
 a145 := Tryd.isAgg165
 z145 := Tryd.sizeOf165
 v145 := Tryd.zeroValue165
 t167 := Tryd.underlying140
 a167 := Tryd.isAgg140
 z167 := Tryd.sizeOf140
 v167 := Tryd.zeroValue140
 t168 := Tryd.underlying143
 a168 := Tryd.isAgg143
 z168 := Tryd.sizeOf143
 v168 := Tryd.zeroValue143
 t171 := Tryd.underlying123
 a171 := Tryd.isAgg123
 z171 := Tryd.sizeOf123
 v171 := Tryd.zeroValue123
 t173 := Tryd.underlying127
 a173 := Tryd.isAgg127
 z173 := Tryd.sizeOf127
 v173 := Tryd.zeroValue127
 t175 := Tryd.underlying154
 a175 := Tryd.isAgg154
 z175 := Tryd.sizeOf154
 v175 := Tryd.zeroValue154
 t210 := Tryd.underlying158
 a210 := Tryd.isAgg158
 z210 := Tryd.sizeOf158
 v210 := Tryd.zeroValue158
 t212 := Tryd.underlying134
 a212 := Tryd.isAgg134
 z212 := Tryd.sizeOf134
 v212 := Tryd.zeroValue134
 t213 := Tryd.underlying136
 a213 := Tryd.isAgg136
 z213 := Tryd.sizeOf136
 t232 := Tryd.underlying160
 a232 := Tryd.isAgg160
 z232 := Tryd.sizeOf160
 v232 := Tryd.zeroValue160
 t233 := Tryd.underlying161
 a233 := Tryd.isAgg161
 z233 := Tryd.sizeOf161
 v233 := Tryd.zeroValue161
 g15 := by kernel_rfl
 g16 := by kernel_rfl
 g17 := by kernel_rfl
 g18 := by kernel_rfl
 g19 := by kernel_rfl
 t80 := Tryd.underlying52
 a80 := Tryd.isAgg52
 z80 := Tryd.sizeOf52
 v80 := Tryd.zeroValue52
 i0 := by kernel_rfl
 i2 := by kernel_rfl
 i3 := by kernel_rfl
 i4 := by kernel_rfl
 i5 := by kernel_rfl
 i9 := by kernel_rfl
 i20 := by kernel_rfl
 i21 := by kernel_rfl
 i37 := by kernel_rfl
 i46 := by kernel_rfl
 i51 := by kernel_rfl
 i53 := by kernel_rfl
 i75 := by kernel_rfl
 i76 := by kernel_rfl
 i80 := by kernel_rfl
 i85 := by kernel_rfl
 i127 := by kernel_rfl
 i143 := by kernel_rfl
 i145 := by kernel_rfl
 i167 := by kernel_rfl
 i168 := by kernel_rfl
 i171 := by kernel_rfl
 i173 := by kernel_rfl
 i175 := by kernel_rfl
 i210 := by kernel_rfl
 i212 := by kernel_rfl
 i232 := by kernel_rfl
 i233 := by kernel_rfl
 m15 := by kernel_rfl
 m16 := by kernel_rfl
 m17 := by kernel_rfl
 m18 := by kernel_rfl
 m19 := by kernel_rfl
 c0 := by kernel_rfl
 c2 := by kernel_rfl
 c3 := by kernel_rfl
 c4 := by kernel_rfl
 c5 := by kernel_rfl
 c9 := by kernel_rfl
 c20 := by kernel_rfl
 c21 := by kernel_rfl
 c37 := by kernel_rfl
 c46 := by kernel_rfl
 c51 := by kernel_rfl
 c53 := by kernel_rfl
 c75 := by kernel_rfl
 c76 := by kernel_rfl
 c80 := by kernel_rfl
 c85 := by kernel_rfl
 c127 := by kernel_rfl
 c143 := by kernel_rfl
 c145 := by kernel_rfl
 c167 := by kernel_rfl
 c168 := by kernel_rfl
 c171 := by kernel_rfl
 c173 := by kernel_rfl
 c175 := by kernel_rfl
 c210 := by kernel_rfl
 c212 := by kernel_rfl
 c213 := by kernel_rfl
 c232 := by kernel_rfl
 c233 := by kernel_rfl }
def Tryd.lays171_ren : Go.Shelf.Ren := ⟨fun | 171 => 31 | 243 => 50 | 246 => 70 | 283 => 82 | 284 => 83 | 285 => 84 | 286 => 85 | 129 => 96 | 317 => 95 | 318 => 97 | 319 => 98 | 320 => 99 | 337 => 109 | 338 => 110 | n => n, fun | 3 => 3 | 9 => 9 | 2 => 2 | 4 => 4 | 171 => 123 | 0 => 0 | 53 => 124 | 37 => 46 | 5 => 5 | 173 => 127 | 212 => 134 | 51 => 135 | 20 => 20 | 213 => 136 | 46 => 138 | 232 => 160 | 233 => 161 | n => n, fun | 17 => 1 | 18 => 6 | 19 => 7 | n => n⟩
theorem Tryd.lays171 : Go.Proofs.LaysM.n171 Tryd.prog Tryd.lays171_ren := {
 mixed := by kernel_rfl
 f129 := Tryd.func96.trans (congrArg some (by kernel_rfl))
 f171 := Tryd.func31.trans (congrArg some (by kernel_rfl))
 f243 := Tryd.func50.trans (congrArg some (by kernel_rfl))
 f246 := Tryd.func70.trans (congrArg some (by kernel_rfl))
 f283 := Tryd.func82.trans (congrArg some (by kernel_rfl))
 f284 := Tryd.func83.trans (congrArg some (by kernel_rfl))
 f285 := Tryd.func84.trans (congrArg some (by kernel_rfl))
 f286 := Tryd.func85.trans (congrArg some (by kernel_rfl))
 f317 := Tryd.func95.trans (congrArg some (by kernel_rfl))
 f318 := Tryd.func97.trans (congrArg some (by kernel_rfl))
 f319 := Tryd.func98.trans (congrArg some (by kernel_rfl))
 f320 := Tryd.func99.trans (congrArg some (by kernel_rfl))
 f337 := Tryd.func109.trans (congrArg some (by kernel_rfl))
 f338 := Tryd.func110.trans (congrArg some (by kernel_rfl))
 t0 := Tryd.underlying0
 a0 := Tryd.isAgg0
 z0 := Tryd.sizeOf0
 v0 := Tryd.zeroValue0
 t2 := Tryd.underlying2
 a2 := Tryd.isAgg2
 z2 := Tryd.sizeOf2
 v2 := Tryd.zeroValue2
 t3 := Tryd.underlying3
 a3 := Tryd.isAgg3
 z3 := Tryd.sizeOf3
 v3 := Tryd.zeroValue3
 t4 := Tryd.underlying4
 a4 := Tryd.isAgg4
 z4 := Tryd.sizeOf4
 v4 := Tryd.zeroValue4
 t5 := Tryd.underlying5
 a5 := Tryd.isAgg5
 z5 := Tryd.sizeOf5
 v5 := Tryd.zeroValue5
 t9 := Tryd.underlying9
 a9 := Tryd.isAgg9
 z9 := Tryd.sizeOf9
 v9 := Tryd.zeroValue9
 t20 := Tryd.underlying20
 a20 := Tryd.isAgg20
 z20 := Tryd.sizeOf20
 v20 := Tryd.zeroValue20
 t37 := Tryd.underlying46
 a37 := Tryd.isAgg46
 z37 := Tryd.sizeOf46
 v37 := Tryd.zeroValue46
 t46 := Tryd.underlying138
 a46 := Tryd.isAgg138
 z46 := Tryd.sizeOf138
 v46 := Tryd.zeroValue138
 t51 := Tryd.underlying135
 a51 := Tryd.isAgg135
 z51 := Tryd.sizeOf135
 v51 := Tryd.zeroValue135
 t53 := Tryd.underlying124
 a53 := Tryd.isAgg124
 z53 := Tryd.sizeOf124
 v53 := Tryd.zeroValue124
 t171 := Tryd.underlying123
 a171 := Tryd.isAgg123
 z171 := Tryd.sizeOf123
 v171 := Tryd.zeroValue123
 t173 := Tryd.underlying127
 a173 := Tryd.isAgg127
 z173 := Tryd.sizeOf127
 v173 := Tryd.zeroValue127
 t212 := Tryd.underlying134
 a212 := Tryd.isAgg134
 z212 := Tryd.sizeOf134
 v212 := Tryd.zeroValue134
 t213 := Tryd.underlying136
 a213 := Tryd.isAgg136
 z213 := Tryd.sizeOf136
 t232 := Tryd.underlying160
 a232 := Tryd.isAgg160
 z232 := Tryd.sizeOf160
 v232 := Tryd.zeroValue160
 t233 := Tryd.underlying161
 a233 := Tryd.isAgg161
 z233 := Tryd.sizeOf161
 v233 := Tryd.zeroValue161
 g17 := by kernel_rfl
 g18 := by kernel_rfl
 g19 := by kernel_rfl
 i0 := by kernel_rfl
 i2 := by kernel_rfl
 i3 := by kernel_rfl
 i4 := by kernel_rfl
 i5 := by kernel_rfl
 i9 := by kernel_rfl
 i20 := by kernel_rfl
 i37 := by kernel_rfl
 i46 := by kernel_rfl
 i51 := by kernel_rfl
 i53 := by kernel_rfl
 i171 := by kernel_rfl
 i173 := by kernel_rfl
 i212 := by kernel_rfl
 i232 := by kernel_rfl
 i233 := by kernel_rfl
 m17 := by kernel_rfl
 m18 := by kernel_rfl
 m19 := by kernel_rfl }
end Go.Proofs
namespace Go.Proofs.YtniknpjeknmpjaaDoor.Q
open Go.RowKit Go.Shelf Go.Proofs.YtniknpjeknmpjaaDoorW.PrintWords Go.Proofs.YtniknpjeknmpjaaDoorW.PrintLast Go.Proofs.YtniknpjeknmpjaaDoorW.PrintMore
set_option linter.unusedVariables false
theorem var_below {P : Program} {w w1 : World} {n : String} {cs : Array Value} (h : w.var? P n = some cs) (hb : Below w.heap.size w w1) : w1.var? P n = some cs := by
 unfold World.var? at *
 cases hg : P.globalNamed n with
 | none => rw [hg] at h; simp at h
 | some g =>
  rw [hg] at h
  simp only [zJ] at h ⊢
  cases hk : w.heap[g]? with
  | none => rw [hk] at h; simp at h
  | some o => rw [hb.block g (Array.getElem?_eq_some_iff.1 hk).1]; exact h
structure LaidW (w : World) : Prop where
 tab : Lib.TabIs Tryd.prog w "internal/strconv.uint64pow10" .u64 Lib.pow10Tab
 syn : ∃ tp p, w.var? Tryd.prog "strconv.ErrSyntax" = some #[.iface tp p]
 rng : ∃ tp p, w.var? Tryd.prog "strconv.ErrRange" = some #[.iface tp p]
theorem LaidW.below {w w1 : World} (h : LaidW w) (hb : Below w.heap.size w w1) : LaidW w1 := by
 obtain ⟨h1, ⟨t1, p1, h2⟩, t2, p2, h3⟩ := h
 exact ⟨var_below h1 hb, ⟨t1, p1, var_below h2 hb⟩, t2, p2, var_below h3 hb⟩
theorem LaidW.alloc {w : World} (h : LaidW w) (o : Obj) : LaidW (w.alloc o) := h.below (below_alloc (Below.refl _ _) o)
theorem LaidW.drewN {w : World} (h : LaidW w) (n : Nat) : LaidW (w.drewN n) := h.below (pw_below_drewN (Below.refl _ _) n)
theorem LaidW.drew {w : World} (h : LaidW w) : LaidW w.drew := h.below (below_drew (Below.refl _ _))
theorem star_name : "*" ++ "errors.errorString" = "*errors.errorString" := by decide
theorem row_err (u : TypeId) (h : Tryd.prog.typeName? 3 u = some "*errors.errorString") : u = 163 :=
 typeName_ptr_named (nm := "errors.errorString") (by rw [star_name]; kernel_rfl) (by kernel_rfl) (by decide) u (by rw [star_name]; exact h)
theorem err_of {n : String} {text : List UInt8} {r : List (String × DataW Unit)} {W : World} {g : Nat}
 (h : laidMet Tryd.prog ((n, .iface "*errors.errorString" (.ptr (.agg [.lit (.string text)]))) :: r) W) (hg : Tryd.prog.globalNamed n = some g) (ht : (Tryd.prog.globals[g]?).map (·.type) = some 69) :
 ∃ tp p, W.var? Tryd.prog n = some #[.iface tp p] := by
 obtain ⟨a0, s0, hv0, -, -, -⟩ := laid_sentinel h hg ht Tryd.underlying69 row_err Tryd.underlying163 Tryd.underlying165 rfl rfl Tryd.underlying9 (by kernel_rfl) (by kernel_rfl)
 exact ⟨_, _, hv0⟩
def laidList : List (String × DataW Unit) := [("math/bits.deBruijn32tab", Rows.laid_math_bits_deBruijn32tab), ("math/bits.deBruijn64tab", Rows.laid_math_bits_deBruijn64tab), ("internal/strconv.uint64pow10", Rows.laid_internal_strconv_uint64pow10), ("unicode/utf8.acceptRanges", Rows.laid_unicode_utf8_acceptRanges), ("strconv.ErrRange", Rows.laid_strconv_ErrRange), ("strconv.ErrSyntax", Rows.laid_strconv_ErrSyntax), ("unicode/utf8.first", Rows.laid_unicode_utf8_first)]
theorem LaidW.of_met {W : World} (h : laidMet Tryd.prog laidList W) : LaidW W := by
 have h2 := laidMet.tail (laidMet.tail h)
 have h4 := laidMet.tail (laidMet.tail h2)
 have h5 := laidMet.tail h4
 exact ⟨Lib.tabIs_of_head (g := 1) (by kernel_rfl) (by kernel_rfl) Tryd.underlying134 Tryd.underlying124 (by kernel_rfl) (by kernel_rfl) h2,
  err_of h5 (g := 4) (by kernel_rfl) (by kernel_rfl), err_of h4 (g := 5) (by kernel_rfl) (by kernel_rfl)⟩
def strconv_Itoa_31.f (a0 : Int) : Option ByteArray := if -9223372036854775808 ≤ a0 ∧ a0 ≤ 9223372036854775807 then some ⟨(Lib.itoa a0).toArray⟩ else none
theorem strconv_Itoa_31.calls (a0 : Int) (r : ByteArray) (w : World) (hL : LaidW w) (h : strconv_Itoa_31.f a0 = some r) :
 Calls Tryd.prog 31 #[.int .i64 a0] w fun e w' => e = .returned (.string r) ∧ Below w.heap.size w w' := by
 unfold strconv_Itoa_31.f at h
 split at h
 ·next c =>
  obtain rfl := zI h
  refine (Any.strconv_Itoa Tryd.lays171 a0 c.1 c.2 w hL.tab).mono ?_
  rintro e w' ⟨rfl, k, os, rfl⟩
  exact ⟨rfl, below_regrown w (w.drawn + k) os⟩
 ·cases h
end Go.Proofs.YtniknpjeknmpjaaDoor.Q
namespace Go.Proofs.YtniknpjeknmpjaaDoor.Q
open Go.RowKit Go.Proofs.YtniknpjeknmpjaaDoorW.PrintWords Go.Proofs.YtniknpjeknmpjaaDoorW.PrintLast Go.Proofs.YtniknpjeknmpjaaDoorW.PrintMore
attribute [local go_sem] max2_int min2_int max_two min_two max_three min_three max_four min_four
set_option linter.unusedVariables false
set_option linter.unusedSimpArgs false

mutual
def cubbyref07_Same.j0 : Nat → Bool → Int → Int → Int → Int → ByteArray → List Int → Int → Int → Int → Int → ByteArray → List Int → Option (Bool)
 | 0, _, _, _, _, _, _, _, _, _, _, _, _, _ => none
 | k + 1, x47, x293000, x293001, x293002, x293003, x293004, x293005, x294000, x294001, x294002, x294003, x294004, x294005 => if x47 = true then (some false) else (cubbyref07_Same.l0 k 0 x293000 x293001 x293002 x293003 x293004 x293005 x294000 x294001 x294002 x294003 x294004 x294005)
def cubbyref07_Same.l0 : Nat → Int → Int → Int → Int → Int → ByteArray → List Int → Int → Int → Int → Int → ByteArray → List Int → Option (Bool)
 | 0, _, _, _, _, _, _, _, _, _, _, _, _, _ => none
 | k + 1, x5, x293000, x293001, x293002, x293003, x293004, x293005, x294000, x294001, x294002, x294003, x294004, x294005 => if x5 < (x293005.length : Int) then (if 0 ≤ x5 then (if x5 < (x294005.length : Int) then (if (rd x293005 x5) = (rd x294005 x5) then (cubbyref07_Same.l0 k (wrap64 (x5 + 1)) x293000 x293001 x293002 x293003 x293004 x293005 x294000 x294001 x294002 x294003 x294004 x294005) else (some false)) else (none)) else (none)) else (some true)
end
def cubbyref07_Same.f (k : Nat) (a0_0 : Int) (a0_1 : Int) (a0_2 : Int) (a0_3 : Int) (a0_4 : ByteArray) (l0_5 : List Int) (a1_0 : Int) (a1_1 : Int) (a1_2 : Int) (a1_3 : Int) (a1_4 : ByteArray) (l1_5 : List Int) : Option (Bool) := if a0_0 = a1_0 then (if a0_1 = a1_1 then (if a0_2 = a1_2 then (if a0_3 = a1_3 then (if a0_4.toList = a1_4.toList then (cubbyref07_Same.j0 k ((l0_5.length : Int) != (l1_5.length : Int)) a0_0 a0_1 a0_2 a0_3 a0_4 l0_5 a1_0 a1_1 a1_2 a1_3 a1_4 l1_5) else (cubbyref07_Same.j0 k true a0_0 a0_1 a0_2 a0_3 a0_4 l0_5 a1_0 a1_1 a1_2 a1_3 a1_4 l1_5)) else (cubbyref07_Same.j0 k true a0_0 a0_1 a0_2 a0_3 a0_4 l0_5 a1_0 a1_1 a1_2 a1_3 a1_4 l1_5)) else (cubbyref07_Same.j0 k true a0_0 a0_1 a0_2 a0_3 a0_4 l0_5 a1_0 a1_1 a1_2 a1_3 a1_4 l1_5)) else (cubbyref07_Same.j0 k true a0_0 a0_1 a0_2 a0_3 a0_4 l0_5 a1_0 a1_1 a1_2 a1_3 a1_4 l1_5)) else (cubbyref07_Same.j0 k true a0_0 a0_1 a0_2 a0_3 a0_4 l0_5 a1_0 a1_1 a1_2 a1_3 a1_4 l1_5)
set_option maxHeartbeats 8000000 in
set_option maxRecDepth 100000 in
theorem cubbyref07_Same.calls (k : Nat) (a0_0 : Int) (a0_1 : Int) (a0_2 : Int) (a0_3 : Int) (a0_4 : ByteArray) (A0_5 : Option Addr) (c0_5 : Nat) (l0_5 : List Int) (a1_0 : Int) (a1_1 : Int) (a1_2 : Int) (a1_3 : Int) (a1_4 : ByteArray) (A1_5 : Option Addr) (c1_5 : Nat) (l1_5 : List Int) (r : Bool) (w : World) (hr0_5 : Kd.C (Kd.int .i64) w A0_5 l0_5.length l0_5) (hc0_5 : l0_5.length ≤ c0_5) (hr1_5 : Kd.C (Kd.int .i64) w A1_5 l1_5.length l1_5) (hc1_5 : l1_5.length ≤ c1_5) (h : cubbyref07_Same.f k a0_0 a0_1 a0_2 a0_3 a0_4 l0_5 a1_0 a1_1 a1_2 a1_3 a1_4 l1_5 = some r) :
 Calls Tryd.prog 46 #[.agg #[.int .i64 a0_0, .int .i64 a0_1, .int .i64 a0_2, .int .i64 a0_3, .string a0_4, .slice A0_5 l0_5.length c0_5], .agg #[.int .i64 a1_0, .int .i64 a1_1, .int .i64 a1_2, .int .i64 a1_3, .string a1_4, .slice A1_5 l1_5.length c1_5]] w fun e w' => e = .returned (.bool r) ∧ Below w.heap.size w w' := by
 have hu43 := Tryd.underlying43
 have HR0_5 := zA hr0_5
 have HC0_5 := zA hc0_5
 clear hr0_5 hc0_5
 have HR1_5 := zA hr1_5
 have HC1_5 := zA hc1_5
 clear hr1_5 hc1_5
 have HB := zA (Below.refl w.heap.size w)
 have H := h; clear h; unfold cubbyref07_Same.f at H
 have HC3 := zA H
 clear H
 go_enter Tryd.func46, Tryd.ntmps46
 go_upto_region 1 with (first | ((with_reducible refine gate_dst (N := 2) rfl ?_); (try (refine gate_guard (by rfl) ?_; dsimp only)); refine box_event (by rfl) (N := 2) (by rfl) (cs := #[.int .i64 a0_0, .int .i64 a0_1, .int .i64 a0_2, .int .i64 a0_3, .string a0_4, .slice A0_5 l0_5.length c0_5]) (t := 43) ?hr ?_; (case hr => go_simp <;> rfl); intro gb292 hg w4 hbox hb; have BK292 := zA (hbox); have GW292 := qG hg; have GE292 := GW292; replace HB := qH hb; clear hb hbox hg) | ((with_reducible refine gate_dst (N := 3) rfl ?_); (try (refine gate_guard (by rfl) ?_; dsimp only)); refine box_event (by rfl) (N := 3) (by rfl) (cs := #[.int .i64 a1_0, .int .i64 a1_1, .int .i64 a1_2, .int .i64 a1_3, .string a1_4, .slice A1_5 l1_5.length c1_5]) (t := 43) ?hr ?_; (case hr => go_simp <;> rfl); intro gb293 hg w5 hbox hb; have BK293 := zA (hbox); have GW293 := qG hg; have GE293 := GW293; replace HB := qH hb; have NB292_293 := zA ((by rw [hg]; exact Nat.ne_of_lt (blk_lt (g := gb292) (o := .cells #[.int .i64 a0_0, .int .i64 a0_1, .int .i64 a0_2, .int .i64 a0_3, .string a0_4, .slice A0_5 l0_5.length c0_5] 43 (0, 0)) (qK BK292.out)) : gb292 ≠ gb293)); have NB293_292 := zA ((by rw [hg]; exact Nat.ne_of_gt (blk_lt (g := gb292) (o := .cells #[.int .i64 a0_0, .int .i64 a0_1, .int .i64 a0_2, .int .i64 a0_3, .string a0_4, .slice A0_5 l0_5.length c0_5] 43 (0, 0)) (qK BK292.out)) : gb293 ≠ gb292)); replace BK292 := qW BK292 hb; clear hb hbox hg))
 repeat (go_quiet (first | ((with_reducible refine gate_dst (N := 2) rfl ?_); (try (refine gate_guard (by rfl) ?_; dsimp only)); refine box_event (by rfl) (N := 2) (by rfl) (cs := #[.int .i64 a0_0, .int .i64 a0_1, .int .i64 a0_2, .int .i64 a0_3, .string a0_4, .slice A0_5 l0_5.length c0_5]) (t := 43) ?hr ?_; (case hr => go_simp <;> rfl); intro gb292 hg w4 hbox hb; have BK292 := zA (hbox); have GW292 := qG hg; have GE292 := GW292; replace HB := qH hb; clear hb hbox hg) | ((with_reducible refine gate_dst (N := 3) rfl ?_); (try (refine gate_guard (by rfl) ?_; dsimp only)); refine box_event (by rfl) (N := 3) (by rfl) (cs := #[.int .i64 a1_0, .int .i64 a1_1, .int .i64 a1_2, .int .i64 a1_3, .string a1_4, .slice A1_5 l1_5.length c1_5]) (t := 43) ?hr ?_; (case hr => go_simp <;> rfl); intro gb293 hg w5 hbox hb; have BK293 := zA (hbox); have GW293 := qG hg; have GE293 := GW293; replace HB := qH hb; have NB292_293 := zA ((by rw [hg]; exact Nat.ne_of_lt (blk_lt (g := gb292) (o := .cells #[.int .i64 a0_0, .int .i64 a0_1, .int .i64 a0_2, .int .i64 a0_3, .string a0_4, .slice A0_5 l0_5.length c0_5] 43 (0, 0)) (qK BK292.out)) : gb292 ≠ gb293)); have NB293_292 := zA ((by rw [hg]; exact Nat.ne_of_gt (blk_lt (g := gb292) (o := .cells #[.int .i64 a0_0, .int .i64 a0_1, .int .i64 a0_2, .int .i64 a0_3, .string a0_4, .slice A0_5 l0_5.length c0_5] 43 (0, 0)) (qK BK292.out)) : gb293 ≠ gb292)); replace BK292 := qW BK292 hb; clear hb hbox hg)); go_upto_region 1 with (first | ((with_reducible refine gate_dst (N := 2) rfl ?_); (try (refine gate_guard (by rfl) ?_; dsimp only)); refine box_event (by rfl) (N := 2) (by rfl) (cs := #[.int .i64 a0_0, .int .i64 a0_1, .int .i64 a0_2, .int .i64 a0_3, .string a0_4, .slice A0_5 l0_5.length c0_5]) (t := 43) ?hr ?_; (case hr => go_simp <;> rfl); intro gb292 hg w4 hbox hb; have BK292 := zA (hbox); have GW292 := qG hg; have GE292 := GW292; replace HB := qH hb; clear hb hbox hg) | ((with_reducible refine gate_dst (N := 3) rfl ?_); (try (refine gate_guard (by rfl) ?_; dsimp only)); refine box_event (by rfl) (N := 3) (by rfl) (cs := #[.int .i64 a1_0, .int .i64 a1_1, .int .i64 a1_2, .int .i64 a1_3, .string a1_4, .slice A1_5 l1_5.length c1_5]) (t := 43) ?hr ?_; (case hr => go_simp <;> rfl); intro gb293 hg w5 hbox hb; have BK293 := zA (hbox); have GW293 := qG hg; have GE293 := GW293; replace HB := qH hb; have NB292_293 := zA ((by rw [hg]; exact Nat.ne_of_lt (blk_lt (g := gb292) (o := .cells #[.int .i64 a0_0, .int .i64 a0_1, .int .i64 a0_2, .int .i64 a0_3, .string a0_4, .slice A0_5 l0_5.length c0_5] 43 (0, 0)) (qK BK292.out)) : gb292 ≠ gb293)); have NB293_292 := zA ((by rw [hg]; exact Nat.ne_of_gt (blk_lt (g := gb292) (o := .cells #[.int .i64 a0_0, .int .i64 a0_1, .int .i64 a0_2, .int .i64 a0_3, .string a0_4, .slice A0_5 l0_5.length c0_5] 43 (0, 0)) (qK BK292.out)) : gb293 ≠ gb292)); replace BK292 := qW BK292 hb; clear hb hbox hg)))
 (try simp only [Act.put, List.setIfInBounds_toArray, List.set_cons_zero, List.set_cons_succ])
 go_cut [47] (fun v47 wc => ∃ (kq : Nat) (x47_2 : Bool), v47 = .bool x47_2 ∧ Aside0 (cubbyref07_Same.j0 kq x47_2 a0_0 a0_1 a0_2 a0_3 a0_4 l0_5 a1_0 a1_1 a1_2 a1_3 a1_4 l1_5 = some r) ∧ Aside0 (kq ≤ k) ∧ Aside0 (wc.heap[gb292]? = some (.cells #[.int .i64 a0_0, .int .i64 a0_1, .int .i64 a0_2, .int .i64 a0_3, .string a0_4, (.slice A0_5 l0_5.length c0_5)] 43 (0, 0))) ∧ Aside0 (wc.heap[gb293]? = some (.cells #[.int .i64 a1_0, .int .i64 a1_1, .int .i64 a1_2, .int .i64 a1_3, .string a1_4, (.slice A1_5 l1_5.length c1_5)] 43 (0, 0))) ∧ Aside0 (Below w.heap.size w wc))
 case first =>
  have H := HC3.out
  clear HC3
  by_cases c6 : a0_0 = a1_0
  ·rw [zC c6] at H
   obtain ⟨c6b0, c6b1⟩ := qe c6; clear c6
   (first | rw [c6b0] | (simp only [i64_w, i32_w]; rw [c6b0]) | skip)
   by_cases c7 : a0_1 = a1_1
   ·rw [zC c7] at H
    obtain ⟨c7b0, c7b1⟩ := qe c7; clear c7
    by_cases c8 : a0_2 = a1_2
    ·rw [zC c8] at H
     obtain ⟨c8b0, c8b1⟩ := qe c8; clear c8
     by_cases c9 : a0_3 = a1_3
     ·rw [zC c9] at H
      obtain ⟨c9b0, c9b1⟩ := qe c9; clear c9
      by_cases c10 : a0_4.toList = a1_4.toList
      ·rw [zC c10] at H
       obtain ⟨c10b0, c10b1⟩ := qe c10; clear c10
       have H' := zA H
       clear H
       have hnb11 := NB292_293.out
       have hnc11 := NB293_292.out
       have z12_0 := bk6 BK292.out
       have z13_0 := bk6 BK293.out
       go_wp2
       repeat (go_quiet (fail); try go_wp2)
       go_meet
       case rel => exact ⟨_, (((l0_5.length : Int) != (l1_5.length : Int))), qT, H', ⟨qO⟩, ⟨qK BK292.out⟩, ⟨qK BK293.out⟩, ⟨qB⟩⟩
      ·rw [zD c10] at H
       obtain ⟨c10b0, c10b1⟩ := qn c10
       have H' := zA H
       clear H
       have hnb14 := NB292_293.out
       have hnc14 := NB293_292.out
       have z15_0 := bk6 BK292.out
       have z16_0 := bk6 BK293.out
       go_wp2
       repeat (go_quiet (fail); try go_wp2)
       go_meet
       case rel => exact ⟨_, (true), qT, H', ⟨qO⟩, ⟨qK BK292.out⟩, ⟨qK BK293.out⟩, ⟨qB⟩⟩
     ·rw [zD c9] at H
      obtain ⟨c9b0, c9b1⟩ := qn c9
      have H' := zA H
      clear H
      have hnb17 := NB292_293.out
      have hnc17 := NB293_292.out
      have z18_0 := bk6 BK292.out
      have z19_0 := bk6 BK293.out
      go_wp2
      repeat (go_quiet (fail); try go_wp2)
      go_meet
      case rel => exact ⟨_, (true), qT, H', ⟨qO⟩, ⟨qK BK292.out⟩, ⟨qK BK293.out⟩, ⟨qB⟩⟩
    ·rw [zD c8] at H
     obtain ⟨c8b0, c8b1⟩ := qn c8
     have H' := zA H
     clear H
     have hnb20 := NB292_293.out
     have hnc20 := NB293_292.out
     have z21_0 := bk6 BK292.out
     have z22_0 := bk6 BK293.out
     go_wp2
     repeat (go_quiet (fail); try go_wp2)
     go_meet
     case rel => exact ⟨_, (true), qT, H', ⟨qO⟩, ⟨qK BK292.out⟩, ⟨qK BK293.out⟩, ⟨qB⟩⟩
   ·rw [zD c7] at H
    obtain ⟨c7b0, c7b1⟩ := qn c7
    have H' := zA H
    clear H
    have hnb23 := NB292_293.out
    have hnc23 := NB293_292.out
    have z24_0 := bk6 BK292.out
    have z25_0 := bk6 BK293.out
    go_wp2
    repeat (go_quiet (fail); try go_wp2)
    go_meet
    case rel => exact ⟨_, (true), qT, H', ⟨qO⟩, ⟨qK BK292.out⟩, ⟨qK BK293.out⟩, ⟨qB⟩⟩
  ·rw [zD c6] at H
   obtain ⟨c6b0, c6b1⟩ := qn c6
   (first | rw [c6b0] | (simp only [i64_w, i32_w]; rw [c6b0]) | skip)
   have H' := zA H
   clear H
   have hnb26 := NB292_293.out
   have hnc26 := NB293_292.out
   have z27_0 := bk6 BK292.out
   have z28_0 := bk6 BK293.out
   go_wp2
   repeat (go_quiet (fail); try go_wp2)
   go_meet
   case rel => exact ⟨_, (true), qT, H', ⟨qO⟩, ⟨qK BK292.out⟩, ⟨qK BK293.out⟩, ⟨qB⟩⟩
 case rest =>
  clear HC3
  try clear c1; try clear c2; try clear p2; try clear c4; try clear c6; try clear c6b0 c6b1; try clear c7; try clear c7b0 c7b1; try clear c8; try clear c8b0 c8b1; try clear c9; try clear c9b0 c9b1; try clear c10; try clear c10b0 c10b1; try clear c11; try clear c14; try clear c17; try clear c20; try clear c23; try clear c26; try clear z12_0; try clear z13_0; try clear z15_0; try clear z16_0; try clear z18_0; try clear z19_0; try clear z21_0; try clear z22_0; try clear z24_0; try clear z25_0; try clear z27_0; try clear z28_0
  obtain ⟨kq, x47_2, rfl, HA, HJ2, BK292, BK293, HB⟩ := hcut
  cases kq with
  | zero => exact absurd HA.out (by simp [cubbyref07_Same.j0])
  | succ kj2 =>
   have H := HA.out
   clear HA
   simp only [cubbyref07_Same.j0] at H
   by_cases c29 : x47_2 = true
   ·subst c29
    have H1 : (some false) = some r := by rw [zC rfl] at H; exact H
    clear H
    have H := H1
    clear H1
    obtain rfl := zI H
    go_wp2
    repeat (go_quiet (fail); try go_wp2)
    go_ret
    exact ⟨qE, qB⟩
   ·replace c29 := Bool.eq_false_iff.mpr c29
    subst c29
    have H1 : (cubbyref07_Same.l0 kj2 0 a0_0 a0_1 a0_2 a0_3 a0_4 l0_5 a1_0 a1_1 a1_2 a1_3 a1_4 l1_5) = some r := by rw [zD (show ¬ (false = true) by decide)] at H; exact H
    clear H
    have H := H1
    clear H1
    have H' := zA H
    clear H
    go_wp2
    repeat (go_quiet (fail); try go_wp2)
    go_loopg [5] kj2 (fun kq v5 w' => ∃ (x5_2 : Int), v5 = .int .i64 x5_2 ∧ Aside0 (cubbyref07_Same.l0 kq x5_2 a0_0 a0_1 a0_2 a0_3 a0_4 l0_5 a1_0 a1_1 a1_2 a1_3 a1_4 l1_5 = some r) ∧ Aside0 (kq ≤ kj2) ∧ Aside0 (w'.heap[gb292]? = some (.cells #[.int .i64 a0_0, .int .i64 a0_1, .int .i64 a0_2, .int .i64 a0_3, .string a0_4, (.slice A0_5 l0_5.length c0_5)] 43 (0, 0))) ∧ Aside0 (w'.heap[gb293]? = some (.cells #[.int .i64 a1_0, .int .i64 a1_1, .int .i64 a1_2, .int .i64 a1_3, .string a1_4, (.slice A1_5 l1_5.length c1_5)] 43 (0, 0))) ∧ Aside0 (Below w.heap.size w w'))
    case atStart => exact ⟨(0), qT, H', ⟨Nat.le_refl _⟩, ⟨qK BK292.out⟩, ⟨qK BK293.out⟩, ⟨qB⟩⟩
    case round =>
     clear H'
     try clear c1; try clear c2; try clear p2; try clear c4; try clear c6; try clear c6b0 c6b1; try clear c7; try clear c7b0 c7b1; try clear c8; try clear c8b0 c8b1; try clear c9; try clear c9b0 c9b1; try clear c10; try clear c10b0 c10b1; try clear c11; try clear c14; try clear c17; try clear c20; try clear c23; try clear c26; try clear c29; try clear z12_0; try clear z13_0; try clear z15_0; try clear z16_0; try clear z18_0; try clear z19_0; try clear z21_0; try clear z22_0; try clear z24_0; try clear z25_0; try clear z27_0; try clear z28_0
     obtain ⟨x5_2, rfl, HA, HK2, BK292, BK293, HB⟩ := hrel
     cases gk with
     | zero => exact absurd HA.out (by simp [cubbyref07_Same.l0])
     | succ k2 =>
      have H := HA.out
      clear HA
      simp only [cubbyref07_Same.l0] at H
      by_cases c30 : x5_2 < (l0_5.length : Int)
      ·rw [zC c30] at H
       have c30b0 := zF c30
       clear c30
       by_cases c31 : 0 ≤ x5_2
       ·rw [zC c31] at H
        have c31b0 := zF c31
        clear c31
        by_cases c32 : x5_2 < (l1_5.length : Int)
        ·rw [zC c32] at H
         have c32b0 := zF c32
         clear c32
         by_cases c33 : (rd l0_5 x5_2) = (rd l1_5 x5_2)
         ·rw [zC c33] at H
          obtain ⟨c33b0, c33b1⟩ := qe c33; clear c33
          have H' := zA H
          clear H
          have hnb34 := NB292_293.out
          have hnc34 := NB293_292.out
          have z35_0 := bk6 BK292.out
          have p294 : 0 ≤ (x5_2 : Int) := zB qA
          have q294 : x5_2 < (l0_5.length : Int) := zB qA
          obtain ⟨ad294, e294, hx294_0⟩ := Kd.at_int HR0_5.out x5_2 p294 q294
          cases e294
          replace hx294_0 := (HB.out.cell (zE w _ hx294_0)).trans hx294_0
          replace p294 := eq_true p294
          replace q294 := eq_true q294
          have z36_0 := bk6 BK293.out
          have p295 : 0 ≤ (x5_2 : Int) := zB qA
          have q295 : x5_2 < (l1_5.length : Int) := zB qA
          obtain ⟨ad295, e295, hx295_0⟩ := Kd.at_int HR1_5.out x5_2 p295 q295
          cases e295
          replace hx295_0 := (HB.out.cell (zE w _ hx295_0)).trans hx295_0
          replace p295 := eq_true p295
          replace q295 := eq_true q295
          go_wp2
          repeat (go_quiet (fail); try go_wp2)
          go_roundg k2
          case measure => have := HJ2.out; have := HK2.out; omega
          case rel => exact ⟨(wrap64 (x5_2 + 1)), qT, H', ⟨by have := HJ2.out; have := HK2.out; omega⟩, ⟨qK BK292.out⟩, ⟨qK BK293.out⟩, ⟨qB⟩⟩
         ·rw [zD c33] at H
          obtain ⟨c33b0, c33b1⟩ := qn c33
          obtain rfl := zI H
          have hnb37 := NB292_293.out
          have hnc37 := NB293_292.out
          have z38_0 := bk6 BK292.out
          have p294 : 0 ≤ (x5_2 : Int) := zB qA
          have q294 : x5_2 < (l0_5.length : Int) := zB qA
          obtain ⟨ad294, e294, hx294_0⟩ := Kd.at_int HR0_5.out x5_2 p294 q294
          cases e294
          replace hx294_0 := (HB.out.cell (zE w _ hx294_0)).trans hx294_0
          replace p294 := eq_true p294
          replace q294 := eq_true q294
          have z39_0 := bk6 BK293.out
          have p295 : 0 ≤ (x5_2 : Int) := zB qA
          have q295 : x5_2 < (l1_5.length : Int) := zB qA
          obtain ⟨ad295, e295, hx295_0⟩ := Kd.at_int HR1_5.out x5_2 p295 q295
          cases e295
          replace hx295_0 := (HB.out.cell (zE w _ hx295_0)).trans hx295_0
          replace p295 := eq_true p295
          replace q295 := eq_true q295
          go_wp2
          repeat (go_quiet (fail); try go_wp2)
          go_ret
          exact ⟨qE, qB⟩
        ·rw [zD c32] at H
         exact absurd H (by simp)
       ·rw [zD c31] at H
        exact absurd H (by simp)
      ·rw [zD c30] at H
       have c30b0 := zG c30
       clear c30
       obtain rfl := zI H
       have hnb40 := NB292_293.out
       have hnc40 := NB293_292.out
       have z41_0 := bk6 BK292.out
       go_wp2
       repeat (go_quiet (fail); try go_wp2)
       go_ret
       exact ⟨qE, qB⟩

mutual
def cubbyref07_Blocks.l0 : Nat → List (List (SIns)) → List (List (SIns)) → Int → Option (Bool)
 | 0, _, _, _ => none
 | k + 1, x0, x1, x5 => if x5 < (x0.length : Int) then (if 0 ≤ x5 then (if x5 < (x1.length : Int) then (if ((rd_LIns x0 x5).length : Int) = ((rd_LIns x1 x5).length : Int) then (cubbyref07_Blocks.l1 k x0 x1 x5 0) else (some false)) else (none)) else (none)) else (some true)
def cubbyref07_Blocks.l1 : Nat → List (List (SIns)) → List (List (SIns)) → Int → Int → Option (Bool)
 | 0, _, _, _, _ => none
 | k + 1, x0, x1, x5, x6 => if 0 ≤ x5 then (if x5 < (x0.length : Int) then (if x6 < ((rd_LIns x0 x5).length : Int) then (if 0 ≤ x6 then (if x5 < (x1.length : Int) then (if x6 < ((rd_LIns x1 x5).length : Int) then ((cubbyref07_Same.f k ((rd_TIns (rd_LIns x0 x5) x6).f0) ((rd_TIns (rd_LIns x0 x5) x6).f1) ((rd_TIns (rd_LIns x0 x5) x6).f2) ((rd_TIns (rd_LIns x0 x5) x6).f3) ((rd_TIns (rd_LIns x0 x5) x6).f4) ((rd_TIns (rd_LIns x0 x5) x6).f5) ((rd_TIns (rd_LIns x1 x5) x6).f0) ((rd_TIns (rd_LIns x1 x5) x6).f1) ((rd_TIns (rd_LIns x1 x5) x6).f2) ((rd_TIns (rd_LIns x1 x5) x6).f3) ((rd_TIns (rd_LIns x1 x5) x6).f4) ((rd_TIns (rd_LIns x1 x5) x6).f5)).bind fun t303 => (if t303 = true then (cubbyref07_Blocks.l1 k x0 x1 x5 (wrap64 (x6 + 1))) else (some false))) else (none)) else (none)) else (none)) else (cubbyref07_Blocks.l0 k x0 x1 (wrap64 (x5 + 1)))) else (none)) else (none)
end
def cubbyref07_Blocks.f (k : Nat) (l0 : List (List (SIns))) (l1 : List (List (SIns))) : Option (Bool) := if (l0.length : Int) = (l1.length : Int) then (cubbyref07_Blocks.l0 k l0 l1 0) else (some false)
def cubbyref07_Blocks.T6 : Bool × List (List Nat × List Nat) := (true, [([], []), ([], []), ([0, 1], [0, 1]), ([2], [2]), ([3], [3]), ([], []), ([], []), ([5, 6], [5, 6]), ([7], [7]), ([8], [8]), ([4, 9], [4, 9])])
def cubbyref07_Blocks.B6 : List Nat := [0, 0, 3, 7, 15, 0, 0, 96, 224, 480, 1023]
theorem cubbyref07_Blocks.tab6 : rtab .any (opsOf Tryd.f24 6) = cubbyref07_Blocks.T6 := by kernel_rfl
theorem cubbyref07_Blocks.bits6 : waitsOk cubbyref07_Blocks.T6.2 cubbyref07_Blocks.B6 = true := by kernel_rfl
def cubbyref07_Blocks.T11 : Bool × List (List Nat × List Nat) := (true, [([], []), ([], []), ([0, 1], [0, 1]), ([2], [2]), ([], []), ([3, 4], [3, 4]), ([5], [5]), ([], []), ([], []), ([7, 8], [7, 8]), ([9], [9]), ([], []), ([10, 11], [10, 11]), ([12], [12]), ([6, 13], [6, 13]), ([14], [14])])
def cubbyref07_Blocks.B11 : List Nat := [0, 0, 3, 7, 0, 31, 63, 0, 0, 384, 896, 0, 3968, 8064, 16383, 32767]
theorem cubbyref07_Blocks.tab11 : rtab .any (opsOf Tryd.f24 11) = cubbyref07_Blocks.T11 := by kernel_rfl
theorem cubbyref07_Blocks.bits11 : waitsOk cubbyref07_Blocks.T11.2 cubbyref07_Blocks.B11 = true := by kernel_rfl
set_option maxHeartbeats 8000000 in
set_option maxRecDepth 100000 in
theorem cubbyref07_Blocks.calls (k : Nat) (A0 : Option Addr) (c0 : Nat) (l0 : List (List (SIns))) (A1 : Option Addr) (c1 : Nat) (l1 : List (List (SIns))) (r : Bool) (w : World) (hr0 : Kd.C (Kd.slice 43 kIns) w A0 l0.length l0) (hc0 : l0.length ≤ c0) (hr1 : Kd.C (Kd.slice 43 kIns) w A1 l1.length l1) (hc1 : l1.length ≤ c1) (h : cubbyref07_Blocks.f k l0 l1 = some r) :
 Calls Tryd.prog 24 #[.slice A0 l0.length c0, .slice A1 l1.length c1] w fun e w' => e = .returned (.bool r) ∧ Below w.heap.size w w' := by
 have hu43 := Tryd.underlying43
 have HR0 := zA hr0
 have HC0 := zA hc0
 clear hr0 hc0
 have HR1 := zA hr1
 have HC1 := zA hc1
 clear hr1 hc1
 have HB := zA (Below.refl w.heap.size w)
 have H := h; clear h; unfold cubbyref07_Blocks.f at H
 by_cases c3 : (l0.length : Int) = (l1.length : Int)
 ·rw [zC c3] at H
  obtain ⟨c3b0, c3b1⟩ := qe c3
  have c3b2 : (l0.length == l1.length) = true := by first | simpa using c3 | (simp at c3 ⊢; omega)
  clear c3
  have H' := zA H
  clear H
  go_enter Tryd.func24, Tryd.ntmps24
  go_wp2
  go_loopg [5] k (fun kq v5 w' => ∃ (x5_1 : Int), v5 = .int .i64 x5_1 ∧ Aside0 (cubbyref07_Blocks.l0 kq l0 l1 x5_1 = some r) ∧ Aside0 (kq ≤ k) ∧ Aside0 (Below w.heap.size w w'))
  case atStart => exact ⟨(0), qT, H', ⟨Nat.le_refl _⟩, ⟨qB⟩⟩
  case round =>
   clear H'
   try clear c1; try clear c2; try clear p2; try clear c3b0 c3b1 c3b2
   obtain ⟨x5_1, rfl, HA, HK1, HB⟩ := hrel
   cases gk with
   | zero => exact absurd HA.out (by simp [cubbyref07_Blocks.l0])
   | succ k1 =>
    have H := HA.out
    clear HA
    simp only [cubbyref07_Blocks.l0] at H
    by_cases c4 : x5_1 < (l0.length : Int)
    ·rw [zC c4] at H
     have c4b0 := zF c4
     clear c4
     by_cases c5 : 0 ≤ x5_1
     ·rw [zC c5] at H
      have c5b0 := zF c5
      clear c5
      by_cases c6 : x5_1 < (l1.length : Int)
      ·rw [zC c6] at H
       have c6b0 := zF c6
       clear c6
       by_cases c7 : ((rd_LIns l0 x5_1).length : Int) = ((rd_LIns l1 x5_1).length : Int)
       ·rw [zC c7] at H
        obtain ⟨c7b0, c7b1⟩ := qe c7
        have c7b2 : ((rd_LIns l0 x5_1).length == (rd_LIns l1 x5_1).length) = true := by first | simpa using c7 | (simp at c7 ⊢; omega)
        clear c7
        have H' := zA H
        clear H
        try go_wp2
        have n0_ := zA (below_drew1 HB.out)
        clear HB
        have HB := n0_
        clear n0_
        have p296 : 0 ≤ (x5_1 : Int) := zB qA
        have q296 : x5_1 < (l0.length : Int) := zB qA
        obtain ⟨ad296, A296_0, c296_0, e296, hx296_0, hl296_0, hi296_0⟩ := at_LIns HR0.out x5_1 p296 q296
        have hw296_0 := hx296_0
        cases e296
        replace hx296_0 := (HB.out.cell (zE w _ hx296_0)).trans hx296_0
        have HR296_0 := zA hi296_0
        have HC296_0 := zA hl296_0
        clear hi296_0 hl296_0
        replace p296 := eq_true p296
        replace q296 := eq_true q296
        have p297 : 0 ≤ (x5_1 : Int) := zB qA
        have q297 : x5_1 < (l1.length : Int) := zB qA
        obtain ⟨ad297, A297_0, c297_0, e297, hx297_0, hl297_0, hi297_0⟩ := at_LIns HR1.out x5_1 p297 q297
        have hw297_0 := hx297_0
        cases e297
        replace hx297_0 := (HB.out.cell (zE w _ hx297_0)).trans hx297_0
        have HR297_0 := zA hi297_0
        have HC297_0 := zA hl297_0
        clear hi297_0 hl297_0
        replace p297 := eq_true p297
        replace q297 := eq_true q297
        refine start_ (n := 11) (S := fun w' => w'.cell? (ad296.add (x5_1).toNat) = some (.slice A296_0 (rd_LIns l0 x5_1).length c296_0) ∧ w'.cell? (ad297.add (x5_1).toNat) = some (.slice A297_0 (rd_LIns l1 x5_1).length c297_0)) (ds := []) (bA 11 0) (by kernel_rfl) rfl rfl ⟨((HB.out.cell (zE w _ hw296_0)).trans hw296_0), ((HB.out.cell (zE w _ hw297_0)).trans hw297_0)⟩ (fun hHeld => ?_); refine with_tabW cubbyref07_Blocks.tab6 cubbyref07_Blocks.bits6 (fun HT_ HW_ => ?_)
        generalize wr.drew = w8 at HB HR296_0 HR297_0 hx296_0 hx297_0 hHeld ⊢
        refine pu_ (i := 0) (N := some 18) (bA 11 1) ?_
        refine pu_ (i := 1) (N := some 19) (bA 11 3) ?_
        refine pu_ (i := 2) (N := some 20) (bA 11 7) ?_
        refine pu_ (i := 5) (N := some 23) (bA 11 39) ?_
        refine pu_ (i := 6) (N := some 24) (bA 11 103) ?_
        refine pu_ (i := 7) (N := some 25) (bA 11 231) ?_
        refine tk_ (i := 3) (N := some 21) (bA 11 239) ?_
        refine pu_ (i := 4) (N := some 22) (bA 11 255) ?_
        refine tk_ (i := 8) (N := some 26) (bA 11 511) ?_
        refine pu_ (i := 9) (N := some 27) (bA 11 1023) ?_
        refine pu_ (i := 10) (N := some 28) (bA 11 2047) ?_
        refine done_ (done_of HT_.out (by kernel_rfl)) ?_
        try go_wp2
        go_loopg [6] k1 (fun kq v6 w' => ∃ (x6_2 : Int), v6 = .int .i64 x6_2 ∧ Aside0 (cubbyref07_Blocks.l1 kq l0 l1 x5_1 x6_2 = some r) ∧ Aside0 (kq ≤ k1) ∧ Aside0 (Below w.heap.size w w'))
        case atStart => exact ⟨(0), qT, H', ⟨Nat.le_refl _⟩, ⟨qB⟩⟩
        case round =>
         clear H'
         try clear c1; try clear c2; try clear p2; try clear q2; try clear hx2; try clear c3b0 c3b1 c3b2; try clear c4b0; try clear c5b0; try clear c6b0; try clear c7b0 c7b1 c7b2; try clear hx296_0; try clear hx297_0; try clear p296; try clear p297; try clear q296; try clear q297
         obtain ⟨x6_2, rfl, HA, HK2, HB⟩ := hrel
         cases gk with
         | zero => exact absurd HA.out (by simp [cubbyref07_Blocks.l1])
         | succ k2 =>
          have H := HA.out
          clear HA
          simp only [cubbyref07_Blocks.l1] at H
          by_cases c9 : 0 ≤ x5_1
          ·rw [zC c9] at H
           have c9b0 := zF c9
           clear c9
           by_cases c10 : x5_1 < (l0.length : Int)
           ·rw [zC c10] at H
            have c10b0 := zF c10
            clear c10
            by_cases c11 : x6_2 < ((rd_LIns l0 x5_1).length : Int)
            ·rw [zC c11] at H
             have c11b0 := zF c11
             clear c11
             by_cases c12 : 0 ≤ x6_2
             ·rw [zC c12] at H
              have c12b0 := zF c12
              clear c12
              by_cases c13 : x5_1 < (l1.length : Int)
              ·rw [zC c13] at H
               have c13b0 := zF c13
               clear c13
               by_cases c14 : x6_2 < ((rd_LIns l1 x5_1).length : Int)
               ·rw [zC c14] at H
                have c14b0 := zF c14
                clear c14
                replace H := qb H; obtain ⟨t303, A15, H⟩ := H
                by_cases c16 : t303 = true
                ·subst c16
                 have H1 : (cubbyref07_Blocks.l1 k2 l0 l1 x5_1 (wrap64 (x6_2 + 1))) = some r := by rw [zC rfl] at H; exact H
                 clear H
                 have H := H1
                 clear H1
                 have H' := zA H
                 clear H
                 have p298 : 0 ≤ (x5_1 : Int) := zB qA
                 have q298 : x5_1 < (l0.length : Int) := zB qA
                 obtain ⟨ad298, A298_0, c298_0, e298, hx298_0, hl298_0, hi298_0⟩ := at_LIns HR0.out x5_1 p298 q298
                 obtain rfl : ad296 = ad298 := (by injection e298)
                 replace hx298_0 := (HB.out.cell (zE w _ hx298_0)).trans hx298_0
                 have HR298_0 := zA hi298_0
                 have HC298_0 := zA hl298_0
                 clear hi298_0 hl298_0
                 replace p298 := eq_true p298
                 replace q298 := eq_true q298
                 try go_wp2
                 have n0_ := zA (below_drew1 HB.out)
                 clear HB
                 have HB := n0_
                 clear n0_
                 have p299 : 0 ≤ (x5_1 : Int) := zB qA
                 have q299 : x5_1 < (l0.length : Int) := zB qA
                 obtain ⟨ad299, A299_0, c299_0, e299, hx299_0, hl299_0, hi299_0⟩ := at_LIns HR0.out x5_1 p299 q299
                 have hw299_0 := hx299_0
                 obtain rfl : ad296 = ad299 := (by injection e299)
                 replace hx299_0 := (HB.out.cell (zE w _ hx299_0)).trans hx299_0
                 have HR299_0 := zA hi299_0
                 have HC299_0 := zA hl299_0
                 clear hi299_0 hl299_0
                 replace p299 := eq_true p299
                 replace q299 := eq_true q299
                 have p300 : 0 ≤ (x6_2 : Int) := zB qA
                 have q300 : x6_2 < ((rd_LIns l0 x5_1).length : Int) := zB qA
                 obtain ⟨ad300, A300_5, c300_5, e300, hx300_0, hx300_1, hx300_2, hx300_3, hx300_4, hx300_5, hl300_5, hi300_5⟩ := at_TIns HR299_0.out x6_2 p300 q300
                 have hw300_5 := hx300_5
                 have hw300_4 := hx300_4
                 have hw300_3 := hx300_3
                 have hw300_2 := hx300_2
                 have hw300_1 := hx300_1
                 have hw300_0 := hx300_0
                 cases e300
                 replace hx300_0 := (HB.out.cell (zE w _ hx300_0)).trans hx300_0
                 replace hx300_1 := (HB.out.cell (zE w _ hx300_1)).trans hx300_1
                 replace hx300_2 := (HB.out.cell (zE w _ hx300_2)).trans hx300_2
                 replace hx300_3 := (HB.out.cell (zE w _ hx300_3)).trans hx300_3
                 replace hx300_4 := (HB.out.cell (zE w _ hx300_4)).trans hx300_4
                 replace hx300_5 := (HB.out.cell (zE w _ hx300_5)).trans hx300_5
                 have HR300_5 := zA hi300_5
                 have HC300_5 := zA hl300_5
                 clear hi300_5 hl300_5
                 replace p300 := eq_true p300
                 replace q300 := eq_true q300
                 have p301 : 0 ≤ (x5_1 : Int) := zB qA
                 have q301 : x5_1 < (l1.length : Int) := zB qA
                 obtain ⟨ad301, A301_0, c301_0, e301, hx301_0, hl301_0, hi301_0⟩ := at_LIns HR1.out x5_1 p301 q301
                 have hw301_0 := hx301_0
                 obtain rfl : ad297 = ad301 := (by injection e301)
                 replace hx301_0 := (HB.out.cell (zE w _ hx301_0)).trans hx301_0
                 have HR301_0 := zA hi301_0
                 have HC301_0 := zA hl301_0
                 clear hi301_0 hl301_0
                 replace p301 := eq_true p301
                 replace q301 := eq_true q301
                 have p302 : 0 ≤ (x6_2 : Int) := zB qA
                 have q302 : x6_2 < ((rd_LIns l1 x5_1).length : Int) := zB qA
                 obtain ⟨ad302, A302_5, c302_5, e302, hx302_0, hx302_1, hx302_2, hx302_3, hx302_4, hx302_5, hl302_5, hi302_5⟩ := at_TIns HR301_0.out x6_2 p302 q302
                 have hw302_5 := hx302_5
                 have hw302_4 := hx302_4
                 have hw302_3 := hx302_3
                 have hw302_2 := hx302_2
                 have hw302_1 := hx302_1
                 have hw302_0 := hx302_0
                 cases e302
                 replace hx302_0 := (HB.out.cell (zE w _ hx302_0)).trans hx302_0
                 replace hx302_1 := (HB.out.cell (zE w _ hx302_1)).trans hx302_1
                 replace hx302_2 := (HB.out.cell (zE w _ hx302_2)).trans hx302_2
                 replace hx302_3 := (HB.out.cell (zE w _ hx302_3)).trans hx302_3
                 replace hx302_4 := (HB.out.cell (zE w _ hx302_4)).trans hx302_4
                 replace hx302_5 := (HB.out.cell (zE w _ hx302_5)).trans hx302_5
                 have HR302_5 := zA hi302_5
                 have HC302_5 := zA hl302_5
                 clear hi302_5 hl302_5
                 replace p302 := eq_true p302
                 replace q302 := eq_true q302
                 refine start_ (n := 16) (S := fun w' => w'.cell? (ad296.add (x5_1).toNat) = some (.slice (some ad300) (rd_LIns l0 x5_1).length c299_0) ∧ w'.cell? (ad300.add ((x6_2).toNat * 6)) = some (.int .i64 ((rd_TIns (rd_LIns l0 x5_1) x6_2).f0)) ∧ w'.cell? ⟨(ad300.add ((x6_2).toNat * 6)).block, (ad300.add ((x6_2).toNat * 6)).off + 1, none⟩ = some (.int .i64 ((rd_TIns (rd_LIns l0 x5_1) x6_2).f1)) ∧ w'.cell? ⟨(ad300.add ((x6_2).toNat * 6)).block, (ad300.add ((x6_2).toNat * 6)).off + 2, none⟩ = some (.int .i64 ((rd_TIns (rd_LIns l0 x5_1) x6_2).f2)) ∧ w'.cell? ⟨(ad300.add ((x6_2).toNat * 6)).block, (ad300.add ((x6_2).toNat * 6)).off + 3, none⟩ = some (.int .i64 ((rd_TIns (rd_LIns l0 x5_1) x6_2).f3)) ∧ w'.cell? ⟨(ad300.add ((x6_2).toNat * 6)).block, (ad300.add ((x6_2).toNat * 6)).off + 4, none⟩ = some (.string ((rd_TIns (rd_LIns l0 x5_1) x6_2).f4)) ∧ w'.cell? ⟨(ad300.add ((x6_2).toNat * 6)).block, (ad300.add ((x6_2).toNat * 6)).off + 5, none⟩ = some (.slice A300_5 ((rd_TIns (rd_LIns l0 x5_1) x6_2).f5).length c300_5) ∧ w'.cell? (ad297.add (x5_1).toNat) = some (.slice (some ad302) (rd_LIns l1 x5_1).length c301_0) ∧ w'.cell? (ad302.add ((x6_2).toNat * 6)) = some (.int .i64 ((rd_TIns (rd_LIns l1 x5_1) x6_2).f0)) ∧ w'.cell? ⟨(ad302.add ((x6_2).toNat * 6)).block, (ad302.add ((x6_2).toNat * 6)).off + 1, none⟩ = some (.int .i64 ((rd_TIns (rd_LIns l1 x5_1) x6_2).f1)) ∧ w'.cell? ⟨(ad302.add ((x6_2).toNat * 6)).block, (ad302.add ((x6_2).toNat * 6)).off + 2, none⟩ = some (.int .i64 ((rd_TIns (rd_LIns l1 x5_1) x6_2).f2)) ∧ w'.cell? ⟨(ad302.add ((x6_2).toNat * 6)).block, (ad302.add ((x6_2).toNat * 6)).off + 3, none⟩ = some (.int .i64 ((rd_TIns (rd_LIns l1 x5_1) x6_2).f3)) ∧ w'.cell? ⟨(ad302.add ((x6_2).toNat * 6)).block, (ad302.add ((x6_2).toNat * 6)).off + 4, none⟩ = some (.string ((rd_TIns (rd_LIns l1 x5_1) x6_2).f4)) ∧ w'.cell? ⟨(ad302.add ((x6_2).toNat * 6)).block, (ad302.add ((x6_2).toNat * 6)).off + 5, none⟩ = some (.slice A302_5 ((rd_TIns (rd_LIns l1 x5_1) x6_2).f5).length c302_5)) (ds := []) (bA 16 0) (by kernel_rfl) rfl rfl ⟨((HB.out.cell (zE w _ hw299_0)).trans hw299_0), ((HB.out.cell (zE w _ hw300_0)).trans hw300_0), ((HB.out.cell (zE w _ hw300_1)).trans hw300_1), ((HB.out.cell (zE w _ hw300_2)).trans hw300_2), ((HB.out.cell (zE w _ hw300_3)).trans hw300_3), ((HB.out.cell (zE w _ hw300_4)).trans hw300_4), ((HB.out.cell (zE w _ hw300_5)).trans hw300_5), ((HB.out.cell (zE w _ hw301_0)).trans hw301_0), ((HB.out.cell (zE w _ hw302_0)).trans hw302_0), ((HB.out.cell (zE w _ hw302_1)).trans hw302_1), ((HB.out.cell (zE w _ hw302_2)).trans hw302_2), ((HB.out.cell (zE w _ hw302_3)).trans hw302_3), ((HB.out.cell (zE w _ hw302_4)).trans hw302_4), ((HB.out.cell (zE w _ hw302_5)).trans hw302_5)⟩ (fun hHeld => ?_); refine with_tabW cubbyref07_Blocks.tab11 cubbyref07_Blocks.bits11 (fun HT_ HW_ => ?_)
                 generalize wr.drew = w17 at HB HR299_0 HR300_5 HR301_0 HR302_5 hx299_0 hx300_0 hx300_1 hx300_2 hx300_3 hx300_4 hx300_5 hx301_0 hx302_0 hx302_1 hx302_2 hx302_3 hx302_4 hx302_5 hHeld ⊢
                 refine pu_ (i := 0) (N := some 38) (bA 16 1) ?_
                 refine pu_ (i := 1) (N := some 39) (bA 16 3) ?_
                 refine pu_ (i := 2) (N := some 40) (bA 16 7) ?_
                 refine pu_ (i := 4) (N := some 42) (bA 16 23) ?_
                 refine pu_ (i := 7) (N := some 45) (bA 16 151) ?_
                 refine pu_ (i := 8) (N := some 46) (bA 16 407) ?_
                 refine pu_ (i := 9) (N := some 47) (bA 16 919) ?_
                 refine pu_ (i := 11) (N := some 49) (bA 16 2967) ?_
                 refine tk_ (i := 3) (N := some 41) (bA 16 2975) ?_
                 refine pu_ (i := 5) (N := some 43) (bA 16 3007) ?_
                 refine tk_ (i := 6) (N := some 44) (bA 16 3071) ?_
                 refine tk_ (i := 10) (N := some 48) (bA 16 4095) ?_
                 refine pu_ (i := 12) (N := some 50) (bA 16 8191) ?_
                 refine tk_ (i := 13) (N := some 51) (bA 16 16383) ?_
                 refine one_ (i := 14) (N := some 52) (bA 16 32767) rfl rfl (one_of HT_.out (by kernel_rfl)) (by decide) (fun K hK => ?_)
                 refine goes_ Tryd.func46 (by kernel_rfl) rfl #[.agg #[.int .i64 ((rd_TIns (rd_LIns l0 x5_1) x6_2).f0), .int .i64 ((rd_TIns (rd_LIns l0 x5_1) x6_2).f1), .int .i64 ((rd_TIns (rd_LIns l0 x5_1) x6_2).f2), .int .i64 ((rd_TIns (rd_LIns l0 x5_1) x6_2).f3), .string ((rd_TIns (rd_LIns l0 x5_1) x6_2).f4), .slice A300_5 ((rd_TIns (rd_LIns l0 x5_1) x6_2).f5).length c300_5], .agg #[.int .i64 ((rd_TIns (rd_LIns l1 x5_1) x6_2).f0), .int .i64 ((rd_TIns (rd_LIns l1 x5_1) x6_2).f1), .int .i64 ((rd_TIns (rd_LIns l1 x5_1) x6_2).f2), .int .i64 ((rd_TIns (rd_LIns l1 x5_1) x6_2).f3), .string ((rd_TIns (rd_LIns l1 x5_1) x6_2).f4), .slice A302_5 ((rd_TIns (rd_LIns l1 x5_1) x6_2).f5).length c302_5]] (by rfl) rfl rfl qL ?_
                 with_reducible refine (cubbyref07_Same.calls k2 ((rd_TIns (rd_LIns l0 x5_1) x6_2).f0) ((rd_TIns (rd_LIns l0 x5_1) x6_2).f1) ((rd_TIns (rd_LIns l0 x5_1) x6_2).f2) ((rd_TIns (rd_LIns l0 x5_1) x6_2).f3) ((rd_TIns (rd_LIns l0 x5_1) x6_2).f4) _ _ ((rd_TIns (rd_LIns l0 x5_1) x6_2).f5) ((rd_TIns (rd_LIns l1 x5_1) x6_2).f0) ((rd_TIns (rd_LIns l1 x5_1) x6_2).f1) ((rd_TIns (rd_LIns l1 x5_1) x6_2).f2) ((rd_TIns (rd_LIns l1 x5_1) x6_2).f3) ((rd_TIns (rd_LIns l1 x5_1) x6_2).f4) _ _ ((rd_TIns (rd_LIns l1 x5_1) x6_2).f5) true _ ?side1 ?side2 ?side3 ?side4 A15.out).mono ?_
                 (case side1 => exact qCB HR300_5.out)
                 (case side2 => exact HC300_5.out)
                 (case side3 => exact qCB HR302_5.out)
                 (case side4 => exact HC302_5.out)
                 rintro e w18 ⟨rfl, hb⟩
                 refine ⟨_, rfl, ?_⟩
                 have n0_ := qH hb
                 clear HB
                 have HB := n0_
                 clear n0_
                 (try clear hb)
                 (try clear hb2)
                 (try clear hk)
                 (try clear hi)
                 refine hK.out _ _ ⟨((HB.out.cell (zE w _ hw299_0)).trans hw299_0), ((HB.out.cell (zE w _ hw300_0)).trans hw300_0), ((HB.out.cell (zE w _ hw300_1)).trans hw300_1), ((HB.out.cell (zE w _ hw300_2)).trans hw300_2), ((HB.out.cell (zE w _ hw300_3)).trans hw300_3), ((HB.out.cell (zE w _ hw300_4)).trans hw300_4), ((HB.out.cell (zE w _ hw300_5)).trans hw300_5), ((HB.out.cell (zE w _ hw301_0)).trans hw301_0), ((HB.out.cell (zE w _ hw302_0)).trans hw302_0), ((HB.out.cell (zE w _ hw302_1)).trans hw302_1), ((HB.out.cell (zE w _ hw302_2)).trans hw302_2), ((HB.out.cell (zE w _ hw302_3)).trans hw302_3), ((HB.out.cell (zE w _ hw302_4)).trans hw302_4), ((HB.out.cell (zE w _ hw302_5)).trans hw302_5)⟩ (fun hHeld => ?_)
                 clear hK K
                 refine norm_ (a' := ?_) ?_ ?_
                 rotate_left
                 ·show Act.put _ (some 52) _ = _
                  simp only [Act.put, List.setIfInBounds_toArray, List.set_cons_zero, List.set_cons_succ, i64_w, i32_w]
                  rfl
                 refine pu_ (i := 15) (N := some 53) (bA 16 65535) ?_
                 refine done_ (done_of HT_.out (by kernel_rfl)) ?_
                 try go_wp2
                 go_roundg k2
                 case measure => have := HK1.out; have := HK2.out; omega
                 case rel => exact ⟨(wrap64 (x6_2 + 1)), qT, H', ⟨by have := HK1.out; have := HK2.out; omega⟩, ⟨qB⟩⟩
                ·replace c16 := Bool.eq_false_iff.mpr c16
                 subst c16
                 have H1 : (some false) = some r := by rw [zD (show ¬ (false = true) by decide)] at H; exact H
                 clear H
                 have H := H1
                 clear H1
                 obtain rfl := zI H
                 have p298 : 0 ≤ (x5_1 : Int) := zB qA
                 have q298 : x5_1 < (l0.length : Int) := zB qA
                 obtain ⟨ad298, A298_0, c298_0, e298, hx298_0, hl298_0, hi298_0⟩ := at_LIns HR0.out x5_1 p298 q298
                 obtain rfl : ad296 = ad298 := (by injection e298)
                 replace hx298_0 := (HB.out.cell (zE w _ hx298_0)).trans hx298_0
                 have HR298_0 := zA hi298_0
                 have HC298_0 := zA hl298_0
                 clear hi298_0 hl298_0
                 replace p298 := eq_true p298
                 replace q298 := eq_true q298
                 try go_wp2
                 have n0_ := zA (below_drew1 HB.out)
                 clear HB
                 have HB := n0_
                 clear n0_
                 have p299 : 0 ≤ (x5_1 : Int) := zB qA
                 have q299 : x5_1 < (l0.length : Int) := zB qA
                 obtain ⟨ad299, A299_0, c299_0, e299, hx299_0, hl299_0, hi299_0⟩ := at_LIns HR0.out x5_1 p299 q299
                 have hw299_0 := hx299_0
                 obtain rfl : ad296 = ad299 := (by injection e299)
                 replace hx299_0 := (HB.out.cell (zE w _ hx299_0)).trans hx299_0
                 have HR299_0 := zA hi299_0
                 have HC299_0 := zA hl299_0
                 clear hi299_0 hl299_0
                 replace p299 := eq_true p299
                 replace q299 := eq_true q299
                 have p300 : 0 ≤ (x6_2 : Int) := zB qA
                 have q300 : x6_2 < ((rd_LIns l0 x5_1).length : Int) := zB qA
                 obtain ⟨ad300, A300_5, c300_5, e300, hx300_0, hx300_1, hx300_2, hx300_3, hx300_4, hx300_5, hl300_5, hi300_5⟩ := at_TIns HR299_0.out x6_2 p300 q300
                 have hw300_5 := hx300_5
                 have hw300_4 := hx300_4
                 have hw300_3 := hx300_3
                 have hw300_2 := hx300_2
                 have hw300_1 := hx300_1
                 have hw300_0 := hx300_0
                 cases e300
                 replace hx300_0 := (HB.out.cell (zE w _ hx300_0)).trans hx300_0
                 replace hx300_1 := (HB.out.cell (zE w _ hx300_1)).trans hx300_1
                 replace hx300_2 := (HB.out.cell (zE w _ hx300_2)).trans hx300_2
                 replace hx300_3 := (HB.out.cell (zE w _ hx300_3)).trans hx300_3
                 replace hx300_4 := (HB.out.cell (zE w _ hx300_4)).trans hx300_4
                 replace hx300_5 := (HB.out.cell (zE w _ hx300_5)).trans hx300_5
                 have HR300_5 := zA hi300_5
                 have HC300_5 := zA hl300_5
                 clear hi300_5 hl300_5
                 replace p300 := eq_true p300
                 replace q300 := eq_true q300
                 have p301 : 0 ≤ (x5_1 : Int) := zB qA
                 have q301 : x5_1 < (l1.length : Int) := zB qA
                 obtain ⟨ad301, A301_0, c301_0, e301, hx301_0, hl301_0, hi301_0⟩ := at_LIns HR1.out x5_1 p301 q301
                 have hw301_0 := hx301_0
                 obtain rfl : ad297 = ad301 := (by injection e301)
                 replace hx301_0 := (HB.out.cell (zE w _ hx301_0)).trans hx301_0
                 have HR301_0 := zA hi301_0
                 have HC301_0 := zA hl301_0
                 clear hi301_0 hl301_0
                 replace p301 := eq_true p301
                 replace q301 := eq_true q301
                 have p302 : 0 ≤ (x6_2 : Int) := zB qA
                 have q302 : x6_2 < ((rd_LIns l1 x5_1).length : Int) := zB qA
                 obtain ⟨ad302, A302_5, c302_5, e302, hx302_0, hx302_1, hx302_2, hx302_3, hx302_4, hx302_5, hl302_5, hi302_5⟩ := at_TIns HR301_0.out x6_2 p302 q302
                 have hw302_5 := hx302_5
                 have hw302_4 := hx302_4
                 have hw302_3 := hx302_3
                 have hw302_2 := hx302_2
                 have hw302_1 := hx302_1
                 have hw302_0 := hx302_0
                 cases e302
                 replace hx302_0 := (HB.out.cell (zE w _ hx302_0)).trans hx302_0
                 replace hx302_1 := (HB.out.cell (zE w _ hx302_1)).trans hx302_1
                 replace hx302_2 := (HB.out.cell (zE w _ hx302_2)).trans hx302_2
                 replace hx302_3 := (HB.out.cell (zE w _ hx302_3)).trans hx302_3
                 replace hx302_4 := (HB.out.cell (zE w _ hx302_4)).trans hx302_4
                 replace hx302_5 := (HB.out.cell (zE w _ hx302_5)).trans hx302_5
                 have HR302_5 := zA hi302_5
                 have HC302_5 := zA hl302_5
                 clear hi302_5 hl302_5
                 replace p302 := eq_true p302
                 replace q302 := eq_true q302
                 refine start_ (n := 16) (S := fun w' => w'.cell? (ad296.add (x5_1).toNat) = some (.slice (some ad300) (rd_LIns l0 x5_1).length c299_0) ∧ w'.cell? (ad300.add ((x6_2).toNat * 6)) = some (.int .i64 ((rd_TIns (rd_LIns l0 x5_1) x6_2).f0)) ∧ w'.cell? ⟨(ad300.add ((x6_2).toNat * 6)).block, (ad300.add ((x6_2).toNat * 6)).off + 1, none⟩ = some (.int .i64 ((rd_TIns (rd_LIns l0 x5_1) x6_2).f1)) ∧ w'.cell? ⟨(ad300.add ((x6_2).toNat * 6)).block, (ad300.add ((x6_2).toNat * 6)).off + 2, none⟩ = some (.int .i64 ((rd_TIns (rd_LIns l0 x5_1) x6_2).f2)) ∧ w'.cell? ⟨(ad300.add ((x6_2).toNat * 6)).block, (ad300.add ((x6_2).toNat * 6)).off + 3, none⟩ = some (.int .i64 ((rd_TIns (rd_LIns l0 x5_1) x6_2).f3)) ∧ w'.cell? ⟨(ad300.add ((x6_2).toNat * 6)).block, (ad300.add ((x6_2).toNat * 6)).off + 4, none⟩ = some (.string ((rd_TIns (rd_LIns l0 x5_1) x6_2).f4)) ∧ w'.cell? ⟨(ad300.add ((x6_2).toNat * 6)).block, (ad300.add ((x6_2).toNat * 6)).off + 5, none⟩ = some (.slice A300_5 ((rd_TIns (rd_LIns l0 x5_1) x6_2).f5).length c300_5) ∧ w'.cell? (ad297.add (x5_1).toNat) = some (.slice (some ad302) (rd_LIns l1 x5_1).length c301_0) ∧ w'.cell? (ad302.add ((x6_2).toNat * 6)) = some (.int .i64 ((rd_TIns (rd_LIns l1 x5_1) x6_2).f0)) ∧ w'.cell? ⟨(ad302.add ((x6_2).toNat * 6)).block, (ad302.add ((x6_2).toNat * 6)).off + 1, none⟩ = some (.int .i64 ((rd_TIns (rd_LIns l1 x5_1) x6_2).f1)) ∧ w'.cell? ⟨(ad302.add ((x6_2).toNat * 6)).block, (ad302.add ((x6_2).toNat * 6)).off + 2, none⟩ = some (.int .i64 ((rd_TIns (rd_LIns l1 x5_1) x6_2).f2)) ∧ w'.cell? ⟨(ad302.add ((x6_2).toNat * 6)).block, (ad302.add ((x6_2).toNat * 6)).off + 3, none⟩ = some (.int .i64 ((rd_TIns (rd_LIns l1 x5_1) x6_2).f3)) ∧ w'.cell? ⟨(ad302.add ((x6_2).toNat * 6)).block, (ad302.add ((x6_2).toNat * 6)).off + 4, none⟩ = some (.string ((rd_TIns (rd_LIns l1 x5_1) x6_2).f4)) ∧ w'.cell? ⟨(ad302.add ((x6_2).toNat * 6)).block, (ad302.add ((x6_2).toNat * 6)).off + 5, none⟩ = some (.slice A302_5 ((rd_TIns (rd_LIns l1 x5_1) x6_2).f5).length c302_5)) (ds := []) (bA 16 0) (by kernel_rfl) rfl rfl ⟨((HB.out.cell (zE w _ hw299_0)).trans hw299_0), ((HB.out.cell (zE w _ hw300_0)).trans hw300_0), ((HB.out.cell (zE w _ hw300_1)).trans hw300_1), ((HB.out.cell (zE w _ hw300_2)).trans hw300_2), ((HB.out.cell (zE w _ hw300_3)).trans hw300_3), ((HB.out.cell (zE w _ hw300_4)).trans hw300_4), ((HB.out.cell (zE w _ hw300_5)).trans hw300_5), ((HB.out.cell (zE w _ hw301_0)).trans hw301_0), ((HB.out.cell (zE w _ hw302_0)).trans hw302_0), ((HB.out.cell (zE w _ hw302_1)).trans hw302_1), ((HB.out.cell (zE w _ hw302_2)).trans hw302_2), ((HB.out.cell (zE w _ hw302_3)).trans hw302_3), ((HB.out.cell (zE w _ hw302_4)).trans hw302_4), ((HB.out.cell (zE w _ hw302_5)).trans hw302_5)⟩ (fun hHeld => ?_); refine with_tabW cubbyref07_Blocks.tab11 cubbyref07_Blocks.bits11 (fun HT_ HW_ => ?_)
                 generalize wr.drew = w19 at HB HR299_0 HR300_5 HR301_0 HR302_5 hx299_0 hx300_0 hx300_1 hx300_2 hx300_3 hx300_4 hx300_5 hx301_0 hx302_0 hx302_1 hx302_2 hx302_3 hx302_4 hx302_5 hHeld ⊢
                 refine pu_ (i := 0) (N := some 38) (bA 16 1) ?_
                 refine pu_ (i := 1) (N := some 39) (bA 16 3) ?_
                 refine pu_ (i := 2) (N := some 40) (bA 16 7) ?_
                 refine pu_ (i := 4) (N := some 42) (bA 16 23) ?_
                 refine pu_ (i := 7) (N := some 45) (bA 16 151) ?_
                 refine pu_ (i := 8) (N := some 46) (bA 16 407) ?_
                 refine pu_ (i := 9) (N := some 47) (bA 16 919) ?_
                 refine pu_ (i := 11) (N := some 49) (bA 16 2967) ?_
                 refine tk_ (i := 3) (N := some 41) (bA 16 2975) ?_
                 refine pu_ (i := 5) (N := some 43) (bA 16 3007) ?_
                 refine tk_ (i := 6) (N := some 44) (bA 16 3071) ?_
                 refine tk_ (i := 10) (N := some 48) (bA 16 4095) ?_
                 refine pu_ (i := 12) (N := some 50) (bA 16 8191) ?_
                 refine tk_ (i := 13) (N := some 51) (bA 16 16383) ?_
                 refine one_ (i := 14) (N := some 52) (bA 16 32767) rfl rfl (one_of HT_.out (by kernel_rfl)) (by decide) (fun K hK => ?_)
                 refine goes_ Tryd.func46 (by kernel_rfl) rfl #[.agg #[.int .i64 ((rd_TIns (rd_LIns l0 x5_1) x6_2).f0), .int .i64 ((rd_TIns (rd_LIns l0 x5_1) x6_2).f1), .int .i64 ((rd_TIns (rd_LIns l0 x5_1) x6_2).f2), .int .i64 ((rd_TIns (rd_LIns l0 x5_1) x6_2).f3), .string ((rd_TIns (rd_LIns l0 x5_1) x6_2).f4), .slice A300_5 ((rd_TIns (rd_LIns l0 x5_1) x6_2).f5).length c300_5], .agg #[.int .i64 ((rd_TIns (rd_LIns l1 x5_1) x6_2).f0), .int .i64 ((rd_TIns (rd_LIns l1 x5_1) x6_2).f1), .int .i64 ((rd_TIns (rd_LIns l1 x5_1) x6_2).f2), .int .i64 ((rd_TIns (rd_LIns l1 x5_1) x6_2).f3), .string ((rd_TIns (rd_LIns l1 x5_1) x6_2).f4), .slice A302_5 ((rd_TIns (rd_LIns l1 x5_1) x6_2).f5).length c302_5]] (by rfl) rfl rfl qL ?_
                 with_reducible refine (cubbyref07_Same.calls k2 ((rd_TIns (rd_LIns l0 x5_1) x6_2).f0) ((rd_TIns (rd_LIns l0 x5_1) x6_2).f1) ((rd_TIns (rd_LIns l0 x5_1) x6_2).f2) ((rd_TIns (rd_LIns l0 x5_1) x6_2).f3) ((rd_TIns (rd_LIns l0 x5_1) x6_2).f4) _ _ ((rd_TIns (rd_LIns l0 x5_1) x6_2).f5) ((rd_TIns (rd_LIns l1 x5_1) x6_2).f0) ((rd_TIns (rd_LIns l1 x5_1) x6_2).f1) ((rd_TIns (rd_LIns l1 x5_1) x6_2).f2) ((rd_TIns (rd_LIns l1 x5_1) x6_2).f3) ((rd_TIns (rd_LIns l1 x5_1) x6_2).f4) _ _ ((rd_TIns (rd_LIns l1 x5_1) x6_2).f5) false _ ?side1 ?side2 ?side3 ?side4 A15.out).mono ?_
                 (case side1 => exact qCB HR300_5.out)
                 (case side2 => exact HC300_5.out)
                 (case side3 => exact qCB HR302_5.out)
                 (case side4 => exact HC302_5.out)
                 rintro e w20 ⟨rfl, hb⟩
                 refine ⟨_, rfl, ?_⟩
                 have n0_ := qH hb
                 clear HB
                 have HB := n0_
                 clear n0_
                 (try clear hb)
                 (try clear hb2)
                 (try clear hk)
                 (try clear hi)
                 refine hK.out _ _ ⟨((HB.out.cell (zE w _ hw299_0)).trans hw299_0), ((HB.out.cell (zE w _ hw300_0)).trans hw300_0), ((HB.out.cell (zE w _ hw300_1)).trans hw300_1), ((HB.out.cell (zE w _ hw300_2)).trans hw300_2), ((HB.out.cell (zE w _ hw300_3)).trans hw300_3), ((HB.out.cell (zE w _ hw300_4)).trans hw300_4), ((HB.out.cell (zE w _ hw300_5)).trans hw300_5), ((HB.out.cell (zE w _ hw301_0)).trans hw301_0), ((HB.out.cell (zE w _ hw302_0)).trans hw302_0), ((HB.out.cell (zE w _ hw302_1)).trans hw302_1), ((HB.out.cell (zE w _ hw302_2)).trans hw302_2), ((HB.out.cell (zE w _ hw302_3)).trans hw302_3), ((HB.out.cell (zE w _ hw302_4)).trans hw302_4), ((HB.out.cell (zE w _ hw302_5)).trans hw302_5)⟩ (fun hHeld => ?_)
                 clear hK K
                 refine norm_ (a' := ?_) ?_ ?_
                 rotate_left
                 ·show Act.put _ (some 52) _ = _
                  simp only [Act.put, List.setIfInBounds_toArray, List.set_cons_zero, List.set_cons_succ, i64_w, i32_w]
                  rfl
                 refine pu_ (i := 15) (N := some 53) (bA 16 65535) ?_
                 refine done_ (done_of HT_.out (by kernel_rfl)) ?_
                 try go_wp2
                 go_ret
                 exact ⟨qE, qB⟩
               ·rw [zD c14] at H
                exact absurd H (by simp)
              ·rw [zD c13] at H
               exact absurd H (by simp)
             ·rw [zD c12] at H
              exact absurd H (by simp)
            ·rw [zD c11] at H
             have c11b0 := zG c11
             clear c11
             have H' := zA H
             clear H
             have p298 : 0 ≤ (x5_1 : Int) := zB qA
             have q298 : x5_1 < (l0.length : Int) := zB qA
             obtain ⟨ad298, A298_0, c298_0, e298, hx298_0, hl298_0, hi298_0⟩ := at_LIns HR0.out x5_1 p298 q298
             obtain rfl : ad296 = ad298 := (by injection e298)
             replace hx298_0 := (HB.out.cell (zE w _ hx298_0)).trans hx298_0
             have HR298_0 := zA hi298_0
             have HC298_0 := zA hl298_0
             clear hi298_0 hl298_0
             replace p298 := eq_true p298
             replace q298 := eq_true q298
             go_wp2
             go_roundg k2
             case measure => have := HK1.out; have := HK2.out; omega
             case rel => exact ⟨(wrap64 (x5_1 + 1)), qT, H', ⟨by have := HK1.out; have := HK2.out; omega⟩, ⟨qB⟩⟩
           ·rw [zD c10] at H
            exact absurd H (by simp)
          ·rw [zD c9] at H
           exact absurd H (by simp)
       ·rw [zD c7] at H
        obtain ⟨c7b0, c7b1⟩ := qn c7
        have c7b2 : ((rd_LIns l0 x5_1).length == (rd_LIns l1 x5_1).length) = false := by first | simpa using c7 | (simp at c7 ⊢; omega)
        obtain rfl := zI H
        try go_wp2
        have n0_ := zA (below_drew1 HB.out)
        clear HB
        have HB := n0_
        clear n0_
        have p296 : 0 ≤ (x5_1 : Int) := zB qA
        have q296 : x5_1 < (l0.length : Int) := zB qA
        obtain ⟨ad296, A296_0, c296_0, e296, hx296_0, hl296_0, hi296_0⟩ := at_LIns HR0.out x5_1 p296 q296
        have hw296_0 := hx296_0
        cases e296
        replace hx296_0 := (HB.out.cell (zE w _ hx296_0)).trans hx296_0
        have HR296_0 := zA hi296_0
        have HC296_0 := zA hl296_0
        clear hi296_0 hl296_0
        replace p296 := eq_true p296
        replace q296 := eq_true q296
        have p297 : 0 ≤ (x5_1 : Int) := zB qA
        have q297 : x5_1 < (l1.length : Int) := zB qA
        obtain ⟨ad297, A297_0, c297_0, e297, hx297_0, hl297_0, hi297_0⟩ := at_LIns HR1.out x5_1 p297 q297
        have hw297_0 := hx297_0
        cases e297
        replace hx297_0 := (HB.out.cell (zE w _ hx297_0)).trans hx297_0
        have HR297_0 := zA hi297_0
        have HC297_0 := zA hl297_0
        clear hi297_0 hl297_0
        replace p297 := eq_true p297
        replace q297 := eq_true q297
        refine start_ (n := 11) (S := fun w' => w'.cell? (ad296.add (x5_1).toNat) = some (.slice A296_0 (rd_LIns l0 x5_1).length c296_0) ∧ w'.cell? (ad297.add (x5_1).toNat) = some (.slice A297_0 (rd_LIns l1 x5_1).length c297_0)) (ds := []) (bA 11 0) (by kernel_rfl) rfl rfl ⟨((HB.out.cell (zE w _ hw296_0)).trans hw296_0), ((HB.out.cell (zE w _ hw297_0)).trans hw297_0)⟩ (fun hHeld => ?_); refine with_tabW cubbyref07_Blocks.tab6 cubbyref07_Blocks.bits6 (fun HT_ HW_ => ?_)
        generalize wr.drew = w21 at HB HR296_0 HR297_0 hx296_0 hx297_0 hHeld ⊢
        refine pu_ (i := 0) (N := some 18) (bA 11 1) ?_
        refine pu_ (i := 1) (N := some 19) (bA 11 3) ?_
        refine pu_ (i := 2) (N := some 20) (bA 11 7) ?_
        refine pu_ (i := 5) (N := some 23) (bA 11 39) ?_
        refine pu_ (i := 6) (N := some 24) (bA 11 103) ?_
        refine pu_ (i := 7) (N := some 25) (bA 11 231) ?_
        refine tk_ (i := 3) (N := some 21) (bA 11 239) ?_
        refine pu_ (i := 4) (N := some 22) (bA 11 255) ?_
        refine tk_ (i := 8) (N := some 26) (bA 11 511) ?_
        refine pu_ (i := 9) (N := some 27) (bA 11 1023) ?_
        refine pu_ (i := 10) (N := some 28) (bA 11 2047) ?_
        refine done_ (done_of HT_.out (by kernel_rfl)) ?_
        try go_wp2
        go_ret
        exact ⟨qE, qB⟩
      ·rw [zD c6] at H
       exact absurd H (by simp)
     ·rw [zD c5] at H
      exact absurd H (by simp)
    ·rw [zD c4] at H
     have c4b0 := zG c4
     clear c4
     obtain rfl := zI H
     go_wp2
     go_ret
     exact ⟨qE, qB⟩
 ·rw [zD c3] at H
  obtain ⟨c3b0, c3b1⟩ := qn c3
  have c3b2 : (l0.length == l1.length) = false := by first | simpa using c3 | (simp at c3 ⊢; omega)
  obtain rfl := zI H
  go_enter Tryd.func24, Tryd.ntmps24
  go_wp2
  go_ret
  exact ⟨qE, qB⟩

def cubbylaw08_sameCode.f (k : Nat) (a0_0 : ByteArray) (a0_1 : Int) (a0_2 : Int) (a0_3 : Int) (l0_4 : List (List (SIns))) (a1_0 : ByteArray) (a1_1 : Int) (a1_2 : Int) (a1_3 : Int) (l1_4 : List (List (SIns))) : Option (Bool) := if a0_0.toList = a1_0.toList then (if a0_1 = a1_1 then (if a0_2 = a1_2 then (if a0_3 = a1_3 then ((cubbyref07_Blocks.f k l0_4 l1_4).bind fun t328 => (some t328)) else (some false)) else (some false)) else (some false)) else (some false)
set_option maxHeartbeats 8000000 in
set_option maxRecDepth 100000 in
theorem cubbylaw08_sameCode.calls (k : Nat) (a0_0 : ByteArray) (a0_1 : Int) (a0_2 : Int) (a0_3 : Int) (A0_4 : Option Addr) (c0_4 : Nat) (l0_4 : List (List (SIns))) (a1_0 : ByteArray) (a1_1 : Int) (a1_2 : Int) (a1_3 : Int) (A1_4 : Option Addr) (c1_4 : Nat) (l1_4 : List (List (SIns))) (r : Bool) (w : World) (hr0_4 : Kd.C (Kd.slice 43 kIns) w A0_4 l0_4.length l0_4) (hc0_4 : l0_4.length ≤ c0_4) (hr1_4 : Kd.C (Kd.slice 43 kIns) w A1_4 l1_4.length l1_4) (hc1_4 : l1_4.length ≤ c1_4) (h : cubbylaw08_sameCode.f k a0_0 a0_1 a0_2 a0_3 l0_4 a1_0 a1_1 a1_2 a1_3 l1_4 = some r) :
 Calls Tryd.prog 15 #[.agg #[.string a0_0, .int .i64 a0_1, .int .i64 a0_2, .int .i64 a0_3, .slice A0_4 l0_4.length c0_4], .agg #[.string a1_0, .int .i64 a1_1, .int .i64 a1_2, .int .i64 a1_3, .slice A1_4 l1_4.length c1_4]] w fun e w' => e = .returned (.bool r) ∧ Below w.heap.size w w' := by
 have hu37 := Tryd.underlying37
 have HR0_4 := zA hr0_4
 have HC0_4 := zA hc0_4
 clear hr0_4 hc0_4
 have HR1_4 := zA hr1_4
 have HC1_4 := zA hc1_4
 clear hr1_4 hc1_4
 have HB := zA (Below.refl w.heap.size w)
 have H := h; clear h; unfold cubbylaw08_sameCode.f at H
 by_cases c3 : a0_0.toList = a1_0.toList
 ·rw [zC c3] at H
  obtain ⟨c3b0, c3b1⟩ := qe c3; clear c3
  by_cases c4 : a0_1 = a1_1
  ·rw [zC c4] at H
   obtain ⟨c4b0, c4b1⟩ := qe c4; clear c4
   by_cases c5 : a0_2 = a1_2
   ·rw [zC c5] at H
    obtain ⟨c5b0, c5b1⟩ := qe c5; clear c5
    by_cases c6 : a0_3 = a1_3
    ·rw [zC c6] at H
     obtain ⟨c6b0, c6b1⟩ := qe c6; clear c6
     replace H := qb H; obtain ⟨t328, A7, H⟩ := H
     obtain rfl := zI H
     go_enter Tryd.func15, Tryd.ntmps15
     go_wp2_with (first | ((with_reducible refine gate_dst (N := 2) rfl ?_); refine box_event (by rfl) (N := 2) (by rfl) (cs := #[.string a0_0, .int .i64 a0_1, .int .i64 a0_2, .int .i64 a0_3, .slice A0_4 l0_4.length c0_4]) (t := 37) ?hr ?_; (case hr => go_simp <;> rfl); intro gb326 hg w8 hbox hb; have BK326 := zA (hbox); have GW326 := qG hg; have GE326 := GW326; replace HB := qH hb; clear hb hbox hg) | ((with_reducible refine gate_dst (N := 3) rfl ?_); refine box_event (by rfl) (N := 3) (by rfl) (cs := #[.string a1_0, .int .i64 a1_1, .int .i64 a1_2, .int .i64 a1_3, .slice A1_4 l1_4.length c1_4]) (t := 37) ?hr ?_; (case hr => go_simp <;> rfl); intro gb327 hg w9 hbox hb; have BK327 := zA (hbox); have GW327 := qG hg; have GE327 := GW327; replace HB := qH hb; have NB326_327 := zA ((by rw [hg]; exact Nat.ne_of_lt (blk_lt (g := gb326) (o := .cells #[.string a0_0, .int .i64 a0_1, .int .i64 a0_2, .int .i64 a0_3, .slice A0_4 l0_4.length c0_4] 37 (0, 0)) (qK BK326.out)) : gb326 ≠ gb327)); have NB327_326 := zA ((by rw [hg]; exact Nat.ne_of_gt (blk_lt (g := gb326) (o := .cells #[.string a0_0, .int .i64 a0_1, .int .i64 a0_2, .int .i64 a0_3, .slice A0_4 l0_4.length c0_4] 37 (0, 0)) (qK BK326.out)) : gb327 ≠ gb326)); replace BK326 := qW BK326 hb; clear hb hbox hg; have hnb10 := NB326_327.out; have hnc10 := NB327_326.out; have z11_0 := bk5 BK326.out; have z12_0 := bk5 BK327.out) | (go_at_call 24; (with_reducible refine (cubbyref07_Blocks.calls k _ _ l0_4 _ _ l1_4 t328 _ ?side1 ?side2 ?side3 ?side4 A7.out).mono ?_); (case side1 => exact qCB HR0_4.out); (case side2 => exact HC0_4.out); (case side3 => exact qCB HR1_4.out); (case side4 => exact HC1_4.out); (try clear A7); rintro e w13 ⟨rfl, hb⟩; replace BK326 := qW BK326 hb; replace BK327 := qW BK327 hb; replace HB := qH hb; (try clear hb)))
     go_ret
     exact ⟨qE, qB⟩
    ·rw [zD c6] at H
     obtain ⟨c6b0, c6b1⟩ := qn c6
     obtain rfl := zI H
     go_enter Tryd.func15, Tryd.ntmps15
     go_wp2_with (first | ((with_reducible refine gate_dst (N := 2) rfl ?_); refine box_event (by rfl) (N := 2) (by rfl) (cs := #[.string a0_0, .int .i64 a0_1, .int .i64 a0_2, .int .i64 a0_3, .slice A0_4 l0_4.length c0_4]) (t := 37) ?hr ?_; (case hr => go_simp <;> rfl); intro gb326 hg w14 hbox hb; have BK326 := zA (hbox); have GW326 := qG hg; have GE326 := GW326; replace HB := qH hb; clear hb hbox hg) | ((with_reducible refine gate_dst (N := 3) rfl ?_); refine box_event (by rfl) (N := 3) (by rfl) (cs := #[.string a1_0, .int .i64 a1_1, .int .i64 a1_2, .int .i64 a1_3, .slice A1_4 l1_4.length c1_4]) (t := 37) ?hr ?_; (case hr => go_simp <;> rfl); intro gb327 hg w15 hbox hb; have BK327 := zA (hbox); have GW327 := qG hg; have GE327 := GW327; replace HB := qH hb; have NB326_327 := zA ((by rw [hg]; exact Nat.ne_of_lt (blk_lt (g := gb326) (o := .cells #[.string a0_0, .int .i64 a0_1, .int .i64 a0_2, .int .i64 a0_3, .slice A0_4 l0_4.length c0_4] 37 (0, 0)) (qK BK326.out)) : gb326 ≠ gb327)); have NB327_326 := zA ((by rw [hg]; exact Nat.ne_of_gt (blk_lt (g := gb326) (o := .cells #[.string a0_0, .int .i64 a0_1, .int .i64 a0_2, .int .i64 a0_3, .slice A0_4 l0_4.length c0_4] 37 (0, 0)) (qK BK326.out)) : gb327 ≠ gb326)); replace BK326 := qW BK326 hb; clear hb hbox hg; have hnb16 := NB326_327.out; have hnc16 := NB327_326.out; have z17_0 := bk5 BK326.out; have z18_0 := bk5 BK327.out))
     go_ret
     exact ⟨qE, qB⟩
   ·rw [zD c5] at H
    obtain ⟨c5b0, c5b1⟩ := qn c5
    obtain rfl := zI H
    go_enter Tryd.func15, Tryd.ntmps15
    go_wp2_with (first | ((with_reducible refine gate_dst (N := 2) rfl ?_); refine box_event (by rfl) (N := 2) (by rfl) (cs := #[.string a0_0, .int .i64 a0_1, .int .i64 a0_2, .int .i64 a0_3, .slice A0_4 l0_4.length c0_4]) (t := 37) ?hr ?_; (case hr => go_simp <;> rfl); intro gb326 hg w19 hbox hb; have BK326 := zA (hbox); have GW326 := qG hg; have GE326 := GW326; replace HB := qH hb; clear hb hbox hg) | ((with_reducible refine gate_dst (N := 3) rfl ?_); refine box_event (by rfl) (N := 3) (by rfl) (cs := #[.string a1_0, .int .i64 a1_1, .int .i64 a1_2, .int .i64 a1_3, .slice A1_4 l1_4.length c1_4]) (t := 37) ?hr ?_; (case hr => go_simp <;> rfl); intro gb327 hg w20 hbox hb; have BK327 := zA (hbox); have GW327 := qG hg; have GE327 := GW327; replace HB := qH hb; have NB326_327 := zA ((by rw [hg]; exact Nat.ne_of_lt (blk_lt (g := gb326) (o := .cells #[.string a0_0, .int .i64 a0_1, .int .i64 a0_2, .int .i64 a0_3, .slice A0_4 l0_4.length c0_4] 37 (0, 0)) (qK BK326.out)) : gb326 ≠ gb327)); have NB327_326 := zA ((by rw [hg]; exact Nat.ne_of_gt (blk_lt (g := gb326) (o := .cells #[.string a0_0, .int .i64 a0_1, .int .i64 a0_2, .int .i64 a0_3, .slice A0_4 l0_4.length c0_4] 37 (0, 0)) (qK BK326.out)) : gb327 ≠ gb326)); replace BK326 := qW BK326 hb; clear hb hbox hg; have hnb21 := NB326_327.out; have hnc21 := NB327_326.out; have z22_0 := bk5 BK326.out; have z23_0 := bk5 BK327.out))
    go_ret
    exact ⟨qE, qB⟩
  ·rw [zD c4] at H
   obtain ⟨c4b0, c4b1⟩ := qn c4
   obtain rfl := zI H
   go_enter Tryd.func15, Tryd.ntmps15
   go_wp2_with (first | ((with_reducible refine gate_dst (N := 2) rfl ?_); refine box_event (by rfl) (N := 2) (by rfl) (cs := #[.string a0_0, .int .i64 a0_1, .int .i64 a0_2, .int .i64 a0_3, .slice A0_4 l0_4.length c0_4]) (t := 37) ?hr ?_; (case hr => go_simp <;> rfl); intro gb326 hg w24 hbox hb; have BK326 := zA (hbox); have GW326 := qG hg; have GE326 := GW326; replace HB := qH hb; clear hb hbox hg) | ((with_reducible refine gate_dst (N := 3) rfl ?_); refine box_event (by rfl) (N := 3) (by rfl) (cs := #[.string a1_0, .int .i64 a1_1, .int .i64 a1_2, .int .i64 a1_3, .slice A1_4 l1_4.length c1_4]) (t := 37) ?hr ?_; (case hr => go_simp <;> rfl); intro gb327 hg w25 hbox hb; have BK327 := zA (hbox); have GW327 := qG hg; have GE327 := GW327; replace HB := qH hb; have NB326_327 := zA ((by rw [hg]; exact Nat.ne_of_lt (blk_lt (g := gb326) (o := .cells #[.string a0_0, .int .i64 a0_1, .int .i64 a0_2, .int .i64 a0_3, .slice A0_4 l0_4.length c0_4] 37 (0, 0)) (qK BK326.out)) : gb326 ≠ gb327)); have NB327_326 := zA ((by rw [hg]; exact Nat.ne_of_gt (blk_lt (g := gb326) (o := .cells #[.string a0_0, .int .i64 a0_1, .int .i64 a0_2, .int .i64 a0_3, .slice A0_4 l0_4.length c0_4] 37 (0, 0)) (qK BK326.out)) : gb327 ≠ gb326)); replace BK326 := qW BK326 hb; clear hb hbox hg; have hnb26 := NB326_327.out; have hnc26 := NB327_326.out; have z27_0 := bk5 BK326.out; have z28_0 := bk5 BK327.out))
   go_ret
   exact ⟨qE, qB⟩
 ·rw [zD c3] at H
  obtain ⟨c3b0, c3b1⟩ := qn c3
  obtain rfl := zI H
  go_enter Tryd.func15, Tryd.ntmps15
  go_wp2_with (first | ((with_reducible refine gate_dst (N := 2) rfl ?_); refine box_event (by rfl) (N := 2) (by rfl) (cs := #[.string a0_0, .int .i64 a0_1, .int .i64 a0_2, .int .i64 a0_3, .slice A0_4 l0_4.length c0_4]) (t := 37) ?hr ?_; (case hr => go_simp <;> rfl); intro gb326 hg w29 hbox hb; have BK326 := zA (hbox); have GW326 := qG hg; have GE326 := GW326; replace HB := qH hb; clear hb hbox hg) | ((with_reducible refine gate_dst (N := 3) rfl ?_); refine box_event (by rfl) (N := 3) (by rfl) (cs := #[.string a1_0, .int .i64 a1_1, .int .i64 a1_2, .int .i64 a1_3, .slice A1_4 l1_4.length c1_4]) (t := 37) ?hr ?_; (case hr => go_simp <;> rfl); intro gb327 hg w30 hbox hb; have BK327 := zA (hbox); have GW327 := qG hg; have GE327 := GW327; replace HB := qH hb; have NB326_327 := zA ((by rw [hg]; exact Nat.ne_of_lt (blk_lt (g := gb326) (o := .cells #[.string a0_0, .int .i64 a0_1, .int .i64 a0_2, .int .i64 a0_3, .slice A0_4 l0_4.length c0_4] 37 (0, 0)) (qK BK326.out)) : gb326 ≠ gb327)); have NB327_326 := zA ((by rw [hg]; exact Nat.ne_of_gt (blk_lt (g := gb326) (o := .cells #[.string a0_0, .int .i64 a0_1, .int .i64 a0_2, .int .i64 a0_3, .slice A0_4 l0_4.length c0_4] 37 (0, 0)) (qK BK326.out)) : gb327 ≠ gb326)); replace BK326 := qW BK326 hb; clear hb hbox hg; have hnb31 := NB326_327.out; have hnc31 := NB327_326.out; have z32_0 := bk5 BK326.out; have z33_0 := bk5 BK327.out))
  go_ret
  exact ⟨qE, qB⟩
end Go.Proofs.YtniknpjeknmpjaaDoor.Q
namespace Go.Proofs.YtniknpjeknmpjaaDoor.Q
open Go.RowKit Go.Shelf Go.Proofs.YtniknpjeknmpjaaDoorW.PrintWords Go.Proofs.YtniknpjeknmpjaaDoorW.PrintLast Go.Proofs.YtniknpjeknmpjaaDoorW.PrintMore
set_option linter.unusedVariables false
set_option linter.unusedSimpArgs false
attribute [local go_sem] Oper.semAt_some
def cutB (s : ByteArray) : ByteArray × ByteArray := if 0 ≤ Lib.indexByte s.data.toList 10 then (s.extract 0 ((Lib.indexByte s.data.toList 10).toNat + 1), s.extract ((Lib.indexByte s.data.toList 10).toNat + 1) s.size) else (s, ⟨#[]⟩)
theorem cutB_pos {s : ByteArray} {i : Nat} (h : Lib.indexByte s.data.toList 10 = (i : Int)) : cutB s = (s.extract 0 (i + 1), s.extract (i + 1) s.size) := by
 unfold cutB
 rw [h, zC (by omega), Int.toNat_natCast]
theorem cutB_neg {s : ByteArray} (h : ¬ 0 ≤ Lib.indexByte s.data.toList 10) : cutB s = (s, ⟨#[]⟩) := zD h
theorem indexByte_lt : ∀ {l : List UInt8} {b : UInt8} {i : Nat}, Lib.indexByte l b = (i : Int) → i < l.length
 | [], b, i, h => by simp only [Lib.indexByte] at h; omega
 | c :: l, b, i, h => by
  unfold Lib.indexByte at h
  split at h
  ·have : i = 0 := by omega
   subst this; simp
  ·have hge := Lib.indexByte_ge l b
   split at h
   ·omega
   ·next h2 =>
    have h3 : Lib.indexByte l b ≠ -1 := by simpa using h2
    obtain ⟨q, hq⟩ : ∃ q : Nat, Lib.indexByte l b = q := ⟨(Lib.indexByte l b).toNat, by omega⟩
    have := indexByte_lt hq
    simp; omega
theorem cutB_less {s : ByteArray} (h : s.size ≠ 0) : (cutB s).2.size < s.size := by
 by_cases h0 : 0 ≤ Lib.indexByte s.data.toList 10
 ·obtain ⟨i, hi⟩ : ∃ i : Nat, Lib.indexByte s.data.toList 10 = i := ⟨_, (Int.toNat_of_nonneg h0).symm⟩
  have hl : s.data.toList.length = s.size := by simp
  have := indexByte_lt hi
  rw [cutB_pos hi]
  simp only [ByteArray.size_extract]
  omega
 ·rw [cutB_neg h0]
  have : (⟨#[]⟩ : ByteArray).size = 0 := rfl
  show (⟨#[]⟩ : ByteArray).size < s.size
  omega
def leftAt (Bn : Nat) (w : World) : Nat := match w.cell? ⟨Bn, 0, none⟩ with
 | some (.string s) => s.size
 | _ => 0
theorem leftAt_eq {Bn : Nat} {w : World} {s : ByteArray} (h : w.cell? ⟨Bn, 0, none⟩ = some (.string s)) : leftAt Bn w = s.size := by unfold leftAt; rw [h]
set_option maxRecDepth 100000 in
set_option maxHeartbeats 4000000 in
theorem lines1_in (m l Bn : Nat) (J : ByteArray → World → Prop) (Jx : World → Prop) (hm : 1 ≤ m)
 (hJc : ∀ s W, J s W → W.cell? ⟨Bn, 0, none⟩ = some (.string s) ∧ W.frozen? ⟨Bn, 0, none⟩ = false ∧ s.size ≤ 1000000) (hJd : ∀ s W, J s W → J s W.drew)
 (hY : ∀ s W, J s W → s.size ≠ 0 → YieldAt Fence.wide (m - 1) Tryd.prog l #[.string (cutB s).1] (W.setCell ⟨Bn, 0, none⟩ (.string (cutB s).2)) fun e W' => (e = .returned (.bool true) ∧ J (cutB s).2 W') ∨ (e = .returned (.bool false) ∧ Jx W'))
 (s0 : ByteArray) (W : World) (h0 : J s0 W) :
 CallsIn Fence.wide m Tryd.prog 52 #[.func (.yield l) #[] #[], .pointer (some ⟨Bn, 0, none⟩)] W fun e W' => (∃ v, e = .returned v) ∧ ((∃ s : ByteArray, s.size = 0 ∧ J s W') ∨ Jx W') := by
 refine callsIn_of_wp Tryd.func52 rfl trivial ?_ rfl
 simp only [Tryd.ntmps52, List.size_toArray, List.length_cons, List.length_nil, Nat.reduceAdd, Nat.reduceSub, Array.replicate_succ, Array.replicate_zero, List.push_toArray, List.append_toArray, List.nil_append, List.cons_append]
 gi_wp2
 gi_loopw [3] (fun p wr => ∃ s, J s wr) (fun p wr => leftAt Bn wr)
 case atStart => exact ⟨s0, h0⟩
 case round =>
  obtain ⟨s, hJ⟩ := hrel
  obtain ⟨hc, hf, hsz⟩ := hJc s _ hJ
  by_cases hz : s.size = 0
  ·have d1 := zG (show ¬ (0 : Int) < (s.size : Int) by omega)
   have d2 := zG (show ¬ 0 < s.size by omega)
   gi_wp2
   go_end0
   exact ⟨⟨_, rfl⟩, .inl ⟨s, hz, hJ⟩⟩
  ·have d1 := zF (show (0 : Int) < (s.size : Int) by omega)
   have d2 := zF (show 0 < s.size by omega)
   by_cases hi : 0 ≤ Lib.indexByte s.data.toList 10
   ·obtain ⟨i, hidx⟩ : ∃ i : Nat, Lib.indexByte s.data.toList 10 = i := ⟨_, (Int.toNat_of_nonneg hi).symm⟩
    have hil := indexByte_lt hidx
    have hsl : s.data.toList.length = s.size := by simp
    have hy0 := hY s wr.drew (hJd _ _ hJ) hz
    have hcl := cutB_less hz
    rw [cutB_pos hidx] at hy0 hcl
    obtain ⟨fn, tmps, assign, body, hy, hR⟩ := hy0
    dsimp only at hy hR hcl
    replace hy : (Instr.yield l #[.string (s.extract 0 (i + 1))]).run Tryd.prog ((wr.setCell ⟨Bn, 0, none⟩ (.string (s.extract (i + 1) s.size))).drew) = .ok (.round l fn tmps assign body) ((wr.setCell ⟨Bn, 0, none⟩ (.string (s.extract (i + 1) s.size))).drew) := hy
    replace hR : RoundIn Fence.wide (m - 1) Tryd.prog l fn tmps assign body ((wr.setCell ⟨Bn, 0, none⟩ (.string (s.extract (i + 1) s.size))).drew) _ := hR
    have hleft := leftAt_eq hc
    have hi1 : i < s.size := by omega
    have hi2 : i + 1 ≤ s.size := by omega
    have hi3 := eq_true (show (i : Int) + 1 ≤ (s.size : Int) by omega)
    have hi4 := eq_true (show (0 : Int) ≤ (i : Int) + 1 by omega)
    have hw2 : IntKind.i64.wrap ((i : Int) + 1) = (i : Int) + 1 := by rw [i64_w]; unfold wrap64; omega
    have d3 := zF (show (0 : Int) ≤ (i : Int) by omega)
    have hix : Lib.indexByte s.data.toList ((10 : Int).toNat.toUInt8) = (i : Int) := hidx
    have mixed : Tryd.prog.follows .mixedOrders = true := by kernel_rfl
    clear hY hidx hi
    gi_wp2_with (refine ⟨trivial, ?_⟩; gi_at_call 53; refine (callsIn_wide.2 (Any.strings_IndexByte Tryd.lays137 s 10 _)).mono ?_; rintro e w' ⟨rfl, rfl⟩; rw [hix])
    gi_region_with_o fail
    all_goals
     gi_wp2
     refine hR.mono ?_
     rintro e W3 (⟨rfl, hJ3⟩ | ⟨rfl, hJx3⟩)
     ·gi_wp2
      go_roundw
      case rel => exact ⟨_, hJ3⟩
      case measure => rw [hleft, leftAt_eq (hJc _ _ hJ3).1]; exact hcl
     ·gi_wp2
      refine bodyPost_ret (results_none rfl _ _ _) rfl ?_
      exact ⟨⟨_, rfl⟩, .inr hJx3⟩
   ·have hy0 := hY s wr hJ hz
    have hcl := cutB_less hz
    rw [cutB_neg hi] at hy0 hcl
    obtain ⟨fn, tmps, assign, body, hy, hR⟩ := hy0
    dsimp only at hy hR hcl
    have hleft := leftAt_eq hc
    have d3 := zG hi
    obtain ⟨i, hix⟩ : ∃ i, i = Lib.indexByte s.data.toList 10 := ⟨_, rfl⟩
    rw [← hix] at d3 hi
    have hix : Lib.indexByte s.data.toList ((10 : Int).toNat.toUInt8) = i := hix.symm
    clear hY
    gi_wp2_with (refine ⟨trivial, ?_⟩; gi_at_call 53; refine (callsIn_wide.2 (Any.strings_IndexByte Tryd.lays137 s 10 _)).mono ?_; rintro e w' ⟨rfl, rfl⟩; rw [hix])
    refine hR.mono ?_
    rintro e W3 (⟨rfl, hJ3⟩ | ⟨rfl, hJx3⟩)
    ·gi_wp2
     go_roundw
     case rel => exact ⟨_, hJ3⟩
     case measure => rw [hleft, leftAt_eq (hJc _ _ hJ3).1]; exact hcl
    ·gi_wp2
     refine bodyPost_ret (results_none rfl _ _ _) rfl ?_
     exact ⟨⟨_, rfl⟩, .inr hJx3⟩
end Go.Proofs.YtniknpjeknmpjaaDoor.Q
namespace Go.Proofs.YtniknpjeknmpjaaDoor.Q
open Go.RowKit Go.Shelf Go.Proofs.YtniknpjeknmpjaaDoorW.PrintWords Go.Proofs.YtniknpjeknmpjaaDoorW.PrintLast Go.Proofs.YtniknpjeknmpjaaDoorW.PrintMore
set_option linter.unusedVariables false
set_option linter.unusedSimpArgs false
def Same2 (k : Nat) (W W' : World) : Prop := W'.heap[k]? = W.heap[k]? ∧ W'.heap[k + 1]? = W.heap[k + 1]?
def roundEnd (k : Nat) (I : World → Prop) (Ix : Code → World → Prop) (W : World) : Exit → Act → World → Prop
 | .normal, _, W' => Same2 k W W' ∧ I W'
 | .ret, _, W' => Same2 k W W' ∧ Ix .ret W'
 | _, _, _ => False
def AbPut (k : Nat) (I : World → Prop) : Prop := ∀ W j o, k ≤ j → j ≤ k + 1 → I W → I (W.putObj j o)
set_option maxHeartbeats 2000000 in
theorem wpIn_lines {m B : Nat} {g : Operand} {ps : Array Tmp} {assign body : Code} {Q : Exit → Act → World → Prop} {a : Act} {w : World} (h2 : 2 ≤ m)
 (hg : a.eval g = .func (.func 52) #[] #[.pointer (some ⟨B, 0, none⟩)]) (hps : ps.size = 1)
 (I K : ByteArray → World → Prop) (Ix : Code → World → Prop)
 (hc : ∀ s W, I s W → W.cell? ⟨B, 0, none⟩ = some (.string s) ∧ W.frozen? ⟨B, 0, none⟩ = false ∧ s.size ≤ 1000000) (hB : B < w.heap.size) (hd : ∀ s W, I s W → I s W.drew)
 (hK : ∀ s W, I s W → s.size ≠ 0 → K s (W.setCell ⟨B, 0, none⟩ (.string (cutB s).2)))
 (hIp : ∀ s, AbPut w.heap.size (I s)) (hKp : ∀ s, AbPut w.heap.size (K s)) (hXp : ∀ c, AbPut w.heap.size (Ix c))
 (s0 : ByteArray) (h0 : ∀ o1 o2, I s0 ((w.alloc o1).alloc o2)) (a₁ : ByteArray → Act)
 (hassign : ∀ (l : Nat) (x : ByteArray) (W : World) (K : Act → World → Prop), K (a₁ x) W →
   assign.wpIn (Fence.wide.inRound l) (m - 1 - 1) Tryd.prog (Exit.then K (fun _ _ _ => False)) { tmps := (ps.zip #[Value.string x]).foldl (fun t (p, v) => t.setIfInBounds p v) a.tmps, defers := [] } W)
 (hbody : ∀ (l : Nat) (s : ByteArray) (W : World), K s W → body.wpIn (Fence.wide.inRound l) (m - 1 - 1) Tryd.prog (roundEnd w.heap.size (I (cutB s).2) Ix W) (a₁ (cutB s).1) W)
 (hdone : ∀ (s : ByteArray) (W : World), s.size = 0 → I s W → W.heap[w.heap.size]? = some (.deferred (some [])) → Q .normal { a with defers := { target := .collected w.heap.size, args := #[] } :: a.defers } W)
 (hstop : ∀ (c : Code) (W : World), Ix c W → W.heap[w.heap.size]? = some (.deferred (some [])) → c.wpIn Fence.wide m Tryd.prog Q { a with defers := { target := .collected w.heap.size, args := #[] } :: a.defers } W) :
 (Code.rangeFunc g ps assign body).wpIn Fence.wide m Tryd.prog Q a w := by
 refine wpIn_rangeFunc fun fn hfn => ?_
 obtain ⟨rec, hrec⟩ : ∃ rec : LoopState → Option Code → Loop, rec = fun st pe => { state := st, pending := pe, fn, tmps := a.tmps, params := ps, assign, body, defers := w.heap.size } := ⟨_, rfl⟩
 obtain ⟨W1, hW1⟩ : ∃ W1, W1 = (w.alloc (.deferred (some []))).alloc (.loop (rec .ready none)) := ⟨_, rfl⟩
 have hsz : (w.alloc (.deferred (some []))).heap.size = w.heap.size + 1 := by simp
 have hL1 : W1.heap[w.heap.size + 1]? = some (.loop (rec .ready none)) := by
  rw [hW1, ← hsz]; exact World.alloc_heap_new _ _
 have hK1 : W1.heap[w.heap.size]? = some (.deferred (some [])) := by
  rw [hW1]; exact (Below.heap_alloc _ _ _ (by rw [hsz]; omega)).trans (World.alloc_heap_new w _)
 have hI1 : I s0 W1 := by rw [hW1]; exact h0 _ _
 have hent : ∀ args w, (callFunc 52 args).run Tryd.prog w = .ok (.enter 52 args) w := enters_of Tryd.func52 (by kernel_rfl) rfl
 refine ⟨w.heap.size + 1, [{ target := .collected w.heap.size, args := #[] }], W1, { target := .fn (.func 52) #[.pointer (some ⟨B, 0, none⟩)], args := #[.func (.yield (w.heap.size + 1)) #[] #[]] }, W1, 52,
  #[.func (.yield (w.heap.size + 1)) #[] #[]] ++ #[.pointer (some ⟨B, 0, none⟩)], W1, ?_, ?_, fun _ _ => trivial, ?_, fun _ => by omega, ?_⟩
 ·rw [hW1, hrec]; exact run_enterLoop_outer _ _ _ _ _
 ·simp only [resolve, hg]
  simp [go_sem]
 ·simp [invoke, go_sem, hent]
 ·refine (lines1_in (m - 1) (w.heap.size + 1) B (fun s W => I s W ∧ W.heap[w.heap.size + 1]? = some (.loop (rec .ready none)) ∧ W.heap[w.heap.size]? = some (.deferred (some [])))
   (fun W => ∃ c, Ix c W ∧ W.heap[w.heap.size + 1]? = some (.loop (rec .done (some c))) ∧ W.heap[w.heap.size]? = some (.deferred (some []))) (by omega) (fun s W h => hc s W h.1) (fun s W h => ⟨hd s W h.1, h.2.1, h.2.2⟩) ?_ s0 W1 ⟨hI1, hL1, hK1⟩).mono ?_
  ·-- a round
   rintro s W ⟨hi, hl, hk⟩ hz
   have hk3 := hK s W hi hz
   have hn1 : w.heap.size + 1 ≠ B := by omega
   have hn2 : w.heap.size ≠ B := by omega
   have hl3 : (W.setCell ⟨B, 0, none⟩ (.string (cutB s).2)).heap[w.heap.size + 1]? = some (.loop (rec .ready none)) := (heap_setCell_other _ _ _ _ hn1).trans hl
   have hd3 : (W.setCell ⟨B, 0, none⟩ (.string (cutB s).2)).heap[w.heap.size]? = some (.deferred (some [])) := (heap_setCell_other _ _ _ _ hn2).trans hk
   generalize W.setCell ⟨B, 0, none⟩ (.string (cutB s).2) = W2 at hk3 hl3 hd3 ⊢
   have hlt : w.heap.size + 1 < W2.heap.size := (Array.getElem?_eq_some_iff.1 hl3).1
   have hy := run_yield (P := Tryd.prog) (args := #[.string (cutB s).1]) hl3 (by rw [hrec]; exact hps.symm)
   rw [hrec] at hy
   refine ⟨fn, _, assign, body, hy, roundIn_of_wpIn hfn (hassign _ _ W2 _ ⟨_, run_beginRound hl3 (by rw [hrec]), ?_⟩)⟩
   have hl2 : (W2.putObj (w.heap.size + 1) (.loop { rec .ready none with state := .busy })).heap[w.heap.size + 1]? = some (.loop { rec .ready none with state := .busy }) := World.putObj_heap_same hlt
   have hd2 : (W2.putObj (w.heap.size + 1) (.loop { rec .ready none with state := .busy })).heap[w.heap.size]? = some (.deferred (some [])) := (World.putObj_heap_other (by omega)).trans hd3
   have hkk := hKp s W2 (w.heap.size + 1) (.loop { rec .ready none with state := .busy }) (by omega) (by omega) hk3
   generalize W2.putObj (w.heap.size + 1) (.loop { rec .ready none with state := .busy }) = W4 at hl2 hd2 hkk ⊢
   refine wpIn_mono (hbody _ s W4 hkk) ?_
   have fin : ∀ (jump : Option Code) (W3 : World), Same2 w.heap.size W4 W3 →
    (Instr.endRound (w.heap.size + 1) jump).run Tryd.prog W3 = .ok (.bool jump.isNone) (W3.putObj (w.heap.size + 1) (.loop (rec (if jump.isNone then .ready else .done) jump))) ∧
    (W3.putObj (w.heap.size + 1) (.loop (rec (if jump.isNone then .ready else .done) jump))).heap[w.heap.size + 1]? = some (.loop (rec (if jump.isNone then .ready else .done) jump)) ∧
    (W3.putObj (w.heap.size + 1) (.loop (rec (if jump.isNone then .ready else .done) jump))).heap[w.heap.size]? = some (.deferred (some [])) := fun jump W3 hs => by
    have hl3 := hs.2.trans hl2
    have hd3 := hs.1.trans hd2
    have := run_endRound (P := Tryd.prog) jump hl3
    rw [hrec] at this ⊢
    exact ⟨this, World.putObj_heap_same (Array.getElem?_eq_some_iff.1 hl3).1, (World.putObj_heap_other (by omega)).trans hd3⟩
   rintro e a3 W3 hp
   cases e with
   | normal =>
    obtain ⟨hs, hi3⟩ := hp
    obtain ⟨hr, hl4, hk4⟩ := fin none W3 hs
    exact ⟨_, _, hr, .inl ⟨rfl, hIp _ _ _ _ (by omega) (by omega) hi3, hl4, hk4⟩⟩
   | ret =>
    obtain ⟨hs, hi3⟩ := hp
    obtain ⟨hr, hl4, hk4⟩ := fin (some .ret) W3 hs
    exact ⟨_, _, hr, .inr ⟨rfl, .ret, hXp _ _ _ _ (by omega) (by omega) hi3, hl4, hk4⟩⟩
   | exit id => exact hp.elim
   | goto t => exact hp.elim
   | panic ch => exact hp.elim
   | outgrown => exact hp.elim
  ·-- behind the iterator
   rintro e W2 ⟨⟨v, rfl⟩, (⟨s, hz, hi, hl, hk⟩ | ⟨c, hi, hl, hk⟩)⟩
   ·exact ⟨none, _, by have := run_endLoop (P := Tryd.prog) hl (by rw [hrec]; simp); rw [hrec] at this; exact this, hdone s _ hz (hIp _ _ _ _ (by omega) (by omega) hi) ((World.putObj_heap_other (by omega)).trans hk)⟩
   ·exact ⟨some c, _, by have := run_endLoop (P := Tryd.prog) hl (by rw [hrec]; simp); rw [hrec] at this; exact this, hstop c _ (hXp _ _ _ _ (by omega) (by omega) hi) ((World.putObj_heap_other (by omega)).trans hk)⟩
def blank1 : ByteArray := ⟨#[32]⟩
def wordsOf (s : ByteArray) : List ByteArray := Lib.splitB blank1 0 (Lib.countB s blank1) s
theorem wordsOf_len (s : ByteArray) : (wordsOf s).length = Lib.countB s blank1 + 1 := Lib.splitB_all blank1 (by decide) 0 _ s rfl
theorem split_calls (s : ByteArray) (w : World) (hs : s.size < 4294967281) :
 Calls Tryd.prog 40 #[.string s, .string blank1] w fun e w' => e = .returned (.slice (some ⟨w.heap.size, 0, none⟩) (wordsOf s).length (wordsOf s).length) ∧ w' = w.alloc (.cells ((wordsOf s).map Value.string).toArray 9) := by
 have hle := Lib.countB_le blank1 (by decide) s.size s (Nat.le_refl _)
 have hlen := Lib.splitB_all blank1 (by decide) 0 _ s rfl
 have c := Any.strings_genSplit_core { Tryd.lays146 with } Tryd.lays146.i9 s blank1 0 (-1) (Lib.countB s blank1 + 1) w hs (by decide) (Nat.zero_le _)
  (fun x c hx => (Any.strings_Index_one { Tryd.lays146 with } x 32 _).mono fun e w' ⟨he, hw⟩ => ⟨by rw [he]; show _ = Ending.returned (Value.int .i64 (Lib.index x.data.toList [32])); rw [Lib.index_one], hw⟩)
  ((Any.strings_Count_one { Tryd.lays146 with } s 32 w).mono fun e w' ⟨he, hw⟩ => ⟨by rw [he]; show _ = Ending.returned (Value.int .i64 ((Lib.count s.data.toList [32] : Nat) : Int)); rw [Lib.count_one]; rfl, hw⟩) (by decide) (by decide) (by rw [zC (by decide)]; omega)
 rw [Nat.add_sub_cancel, hlen] at c
 have e2 : Lib.cellsOf (Lib.splitB blank1 0 (Lib.countB s blank1) s) (Lib.countB s blank1 + 1) = ((wordsOf s).map Value.string).toArray := by rw [← hlen]; exact Lib.cellsOf_full _
 rw [e2] at c
 have c' : Calls Tryd.prog 55 #[.string s, .string blank1, .int .i64 0, .int .i64 (-1)] w fun e w' => e = .returned (.slice (some ⟨w.heap.size, 0, none⟩) (Lib.countB s blank1 + 1) (Lib.countB s blank1 + 1)) ∧ w' = w.alloc (.cells ((wordsOf s).map Value.string).toArray 9) := c
 clear c e2
 rw [wordsOf_len]
 go_enter Tryd.func40, Tryd.ntmps40
 go_wp2_with (go_at_call 55; refine c'.mono ?_; rintro e w' ⟨rfl, hw⟩; rw [hw])
 go_ret
 exact ⟨rfl, rfl⟩
theorem split_at (s : ByteArray) (w : World) (hs : s.size < 4294967281) : Calls Tryd.prog 40 #[.string s, .string blank1] w fun e w' => ∃ g, e = .returned (.slice (some ⟨g, 0, none⟩) (wordsOf s).length (wordsOf s).length) ∧ w'.heap[g]? = some (.cells ((wordsOf s).map Value.string).toArray 9 (0, 0)) ∧ Below w.heap.size w w' ∧ w.heap.size ≤ g := by
 refine (split_calls s w hs).mono ?_
 rintro e w' ⟨rfl, rfl⟩
 exact ⟨_, rfl, blk_new w _, below_alloc (Below.refl _ _) _, Nat.le_refl _⟩
def numOf (t : ByteArray) : Option Int :=
 match Lib.atoiAll t.data.toList with
 | .ok v => if 0 ≤ v ∧ v < 2147483648 ∧ (⟨(Lib.itoa v).toArray⟩ : ByteArray) = t then some v else none
 | _ => none
theorem numOf_ok {t : ByteArray} {v : Int} (h : Lib.atoiAll t.data.toList = .ok v) : numOf t = if 0 ≤ v ∧ v < 2147483648 ∧ (⟨(Lib.itoa v).toArray⟩ : ByteArray) = t then some v else none := by unfold numOf; rw [h]
theorem atoi_ok {t : ByteArray} {v : Int} (h : Lib.atoiAll t.data.toList = .ok v) (w : World) (hs : t.size ≤ 281474976710656) :
 Calls Tryd.prog 76 #[.string t] w fun e w' => e = .returned (.tuple #[.int .i64 v, .nilIface]) ∧ Below w.heap.size w w' := by
 refine (Any.strconv_Atoi_ok Tryd.lays172 t (by omega) v h w).mono ?_
 rintro e w' ⟨rfl, hw⟩
 refine ⟨rfl, ?_⟩
 rcases hw with rfl | ⟨t, rfl⟩
 ·exact Below.refl _ _
 ·exact Lib.bytesWorld_below _ _ _
theorem atoi_bad {t : ByteArray} (h : ∀ v, Lib.atoiAll t.data.toList ≠ .ok v) (w : World) (hL : LaidW w) (hs : t.size ≤ 281474976710656) :
 numOf t = none ∧ Calls Tryd.prog 76 #[.string t] w fun e w' => ∃ (v : Int) (q : Value), e = .returned (.tuple #[.int .i64 v, .iface 143 q]) ∧ Below w.heap.size w w' := by
 obtain ⟨-, ⟨t1, p1, h2⟩, t2, p2, h3⟩ := hL
 rcases h' : Lib.atoiAll t.data.toList with v | _ | _
 ·exact absurd h' (h v)
 ·refine ⟨by unfold numOf; rw [h'], (Any.strconv_Atoi_syntax_var Tryd.lays172 t hs h' t1 p1 w h2).mono ?_⟩
  rintro e w' ⟨N, rfl, _, _, hb⟩
  exact ⟨_, _, rfl, hb⟩
 ·refine ⟨by unfold numOf; rw [h'], (Any.strconv_Atoi_range_var Tryd.lays172 t hs h' t2 p2 w h3).mono ?_⟩
  rintro e w' ⟨N, rfl, _, _, hb⟩
  exact ⟨_, _, rfl, hb⟩
theorem splitB_small (sep : ByteArray) : ∀ (k : Nat) (s : ByteArray), ∀ t ∈ Lib.splitB sep 0 k s, t.size ≤ s.size
 | 0, s, t, h => by rw [List.mem_singleton.1 h]; exact Nat.le_refl _
 | k + 1, s, t, h => by
  unfold Lib.splitB at h
  split at h
  ·rw [List.mem_singleton.1 h]; exact Nat.le_refl _
  ·rcases List.mem_cons.1 h with h | h
   ·rw [h]; simp only [ByteArray.size_extract]; omega
   ·have := splitB_small sep k _ t h
    simp only [ByteArray.size_extract] at this
    omega
theorem wordsOf_small (s : ByteArray) : ∀ t ∈ wordsOf s, t.size ≤ s.size := splitB_small _ _ _
end Go.Proofs.YtniknpjeknmpjaaDoor.Q
namespace Go.Proofs.YtniknpjeknmpjaaDoor.Plain
open Go Go.RowKit Go.Proofs.YtniknpjeknmpjaaDoorW.PrintWords Go.Proofs.YtniknpjeknmpjaaDoorW.PrintMore
theorem wrap_nat {j : Nat} (h : j ≤ 4611686018427387904) : wrap64 ((j : Int) + 1) = ((j + 1 : Nat) : Int) := by
 unfold wrap64
 omega
theorem wrap_pred {j : Nat} (h0 : 0 < j) (h : j ≤ 4611686018427387904) : wrap64 ((j : Int) - 1) = ((j - 1 : Nat) : Int) := by
 unfold wrap64
 omega
theorem wrap_id {i : Int} (h0 : -4611686018427387904 ≤ i) (h : i ≤ 4611686018427387904) : wrap64 i = i := by
 unfold wrap64
 omega
theorem drop_cons {α : Type} {l : List α} {j : Nat} (h : j < l.length) : l.drop j = l[j] :: l.drop (j + 1) := by
 rw [List.drop_eq_getElem_cons h]
theorem loop_eq (bs : ByteArray) : ∀ (n i : Nat) (r : List UInt8), bs.size - i = n → ByteArray.toList.loop bs i r = r.reverse ++ bs.data.toList.drop i := by
 intro n
 induction n with
 | zero =>
  intro i r h
  unfold ByteArray.toList.loop
  rw [zD (by omega), List.drop_eq_nil_of_le (by simp; have : bs.data.size = bs.size := rfl; omega), List.append_nil]
 | succ n ih =>
  intro i r h
  unfold ByteArray.toList.loop
  have hs : bs.data.size = bs.size := rfl
  rw [zC (by omega), ih (i + 1) _ (by omega), List.drop_eq_getElem_cons (i := i) (by simp; omega)]
  have : bs.get! i = bs.data.toList[i]'(by simp; omega) := by
   show bs.data[i]! = _
   rw [getElem!_pos bs.data i (by omega)]
   simp
  rw [this]
  simp
theorem toList_data (bs : ByteArray) : bs.toList = bs.data.toList := by
 unfold ByteArray.toList
 rw [loop_eq bs _ 0 [] rfl]
 simp
theorem toList_inj {a b : ByteArray} : a.toList = b.toList ↔ a = b := by
 rw [toList_data, toList_data]
 constructor
 ·intro h
  cases a
  cases b
  simp at h
  rw [h]
 ·rintro rfl
  rfl
end Go.Proofs.YtniknpjeknmpjaaDoor.Plain
namespace Go.Proofs.YtniknpjeknmpjaaDoor.Q
open Go.RowKit Go.Proofs.YtniknpjeknmpjaaDoorW.PrintWords Go.Proofs.YtniknpjeknmpjaaDoorW.PrintLast Go.Proofs.YtniknpjeknmpjaaDoorW.PrintMore
attribute [local go_sem] max2_int min2_int max_two min_two max_three min_three max_four min_four
set_option linter.unusedVariables false
set_option linter.unusedSimpArgs false

def text_of.f (a0 : Int) (a1 : Bool) : Option (Int × ByteArray × ByteArray × Bool) := if a0 = 1 then (some (a0, (⟨#[99, 111, 110, 115, 116]⟩ : ByteArray), (⟨#[68, 65]⟩ : ByteArray), true)) else (if a0 = 2 then (some (a0, (⟨#[99, 111, 112, 121]⟩ : ByteArray), (⟨#[68, 65]⟩ : ByteArray), true)) else (if a0 = 3 then (some (a0, (⟨#[97, 100, 100]⟩ : ByteArray), (⟨#[68, 65, 66]⟩ : ByteArray), true)) else (if a0 = 4 then (some (a0, (⟨#[115, 117, 98]⟩ : ByteArray), (⟨#[68, 65, 66]⟩ : ByteArray), true)) else (if a0 = 5 then (some (a0, (⟨#[109, 117, 108]⟩ : ByteArray), (⟨#[68, 65, 66]⟩ : ByteArray), true)) else (if a0 = 6 then (some (a0, (⟨#[108, 101, 115, 115]⟩ : ByteArray), (⟨#[68, 65, 66]⟩ : ByteArray), true)) else (if a0 = 7 then (some (a0, (⟨#[100, 105, 118]⟩ : ByteArray), (⟨#[68, 65, 66]⟩ : ByteArray), true)) else (if a0 = 8 then (some (a0, (⟨#[108, 111, 97, 100]⟩ : ByteArray), (⟨#[68, 65]⟩ : ByteArray), true)) else (if a0 = 9 then (some (a0, (⟨#[115, 116, 111, 114, 101]⟩ : ByteArray), (⟨#[65, 66]⟩ : ByteArray), true)) else (if a0 = 10 then (some (a0, (⟨#[111, 117, 116]⟩ : ByteArray), (⟨#[65]⟩ : ByteArray), true)) else (if a0 = 11 then (if a1 = true then (some (a0, (⟨#[99, 97, 108, 108]⟩ : ByteArray), (⟨#[68, 78, 65]⟩ : ByteArray), true)) else (some (a0, (⟨#[99, 97, 108, 108]⟩ : ByteArray), (⟨#[68, 78, 76]⟩ : ByteArray), true))) else (if a0 = 12 then (some (a0, (⟨#[106, 117, 109, 112]⟩ : ByteArray), (⟨#[65]⟩ : ByteArray), true)) else (if a0 = 13 then (some (a0, (⟨#[98, 114, 97, 110, 99, 104]⟩ : ByteArray), (⟨#[65, 66, 68]⟩ : ByteArray), true)) else (if a0 = 14 then (some (a0, (⟨#[114, 101, 116]⟩ : ByteArray), (⟨#[65]⟩ : ByteArray), true)) else (if a0 = 21 then (some (a0, (⟨#[102, 101, 116, 99, 104]⟩ : ByteArray), (⟨#[68, 65]⟩ : ByteArray), a1)) else (if a0 = 22 then (some (a0, (⟨#[115, 97, 118, 101]⟩ : ByteArray), (⟨#[68, 65]⟩ : ByteArray), a1)) else (some (0, (⟨#[]⟩ : ByteArray), (⟨#[]⟩ : ByteArray), false)))))))))))))))))
set_option maxHeartbeats 8000000 in
set_option maxRecDepth 100000 in
theorem text_of.calls (a0 : Int) (a1 : Bool) (r1 : Int) (r2 : ByteArray) (r3 : ByteArray) (r4 : Bool) (w : World) (h : text_of.f a0 a1 = some (r1, r2, r3, r4)) :
 Calls Tryd.prog 51 #[.int .i64 a0, .bool a1] w fun e w' => e = .returned (.tuple #[.agg #[.int .i64 r1, .string r2, .string r3], .bool r4]) ∧ Below w.heap.size w w' := by
 have hu94 := Tryd.underlying94
 have HB := zA (Below.refl w.heap.size w)
 have H := h; clear h; unfold text_of.f at H
 by_cases c3 : a0 = 1
 ·rw [zC c3] at H
  obtain ⟨c3b0, c3b1⟩ := qe c3; clear c3
  simp only [Option.some.injEq, Prod.mk.injEq] at H
  obtain ⟨rfl, rfl, rfl, rfl⟩ := H
  go_enter Tryd.func51, Tryd.ntmps51
  go_wp2_with (first | ((with_reducible refine gate_dst (N := 4) rfl ?_); refine box_event (by rfl) (N := 4) (by rfl) (cs := #[.int .i64 0, .string (⟨#[]⟩ : ByteArray), .string (⟨#[]⟩ : ByteArray)]) (t := 94) ?hr ?_; (case hr => go_simp <;> rfl); intro gb148 hg w4 hbox hb; have BK148 := zA (hbox); have GW148 := qG hg; have GE148 := GW148; replace HB := qH hb; clear hb hbox hg; have z5_0 := bk3 BK148.out))
  refine bodyPost_ret (results_ct rfl _ _ gb148 94 #[.int .i64 a0, .string (⟨#[99, 111, 110, 115, 116]⟩ : ByteArray), .string (⟨#[68, 65]⟩ : ByteArray)] (0, 0) _ rfl (by (with_reducible repeat (first | refine blk_drewN ?_ _ | refine blk_drew ?_ | refine blk_alloc ?_ _)); refine blk_put (cs := #[.int .i64 a0, .string (⟨#[99, 111, 110, 115, 116]⟩ : ByteArray), .string (⟨#[]⟩ : ByteArray)]) ?_ 2 _ rfl; (with_reducible repeat (first | refine blk_drewN ?_ _ | refine blk_drew ?_ | refine blk_alloc ?_ _)); refine blk_put (cs := #[.int .i64 a0, .string (⟨#[]⟩ : ByteArray), .string (⟨#[]⟩ : ByteArray)]) ?_ 1 _ rfl; (with_reducible repeat (first | refine blk_drewN ?_ _ | refine blk_drew ?_ | refine blk_alloc ?_ _)); refine blk_put (cs := #[.int .i64 0, .string (⟨#[]⟩ : ByteArray), .string (⟨#[]⟩ : ByteArray)]) ?_ 0 _ rfl; (with_reducible repeat (first | refine blk_drewN ?_ _ | refine blk_drew ?_ | refine blk_alloc ?_ _)); exact BK148.out) Tryd.underlying94 rfl (by kernel_rfl)) rfl ?_
  exact ⟨qE, qB⟩
 ·rw [zD c3] at H
  obtain ⟨c3b0, c3b1⟩ := qn c3
  by_cases c6 : a0 = 2
  ·rw [zC c6] at H
   obtain ⟨c6b0, c6b1⟩ := qe c6; clear c6
   simp only [Option.some.injEq, Prod.mk.injEq] at H
   obtain ⟨rfl, rfl, rfl, rfl⟩ := H
   go_enter Tryd.func51, Tryd.ntmps51
   go_wp2_with (first | ((with_reducible refine gate_dst (N := 4) rfl ?_); refine box_event (by rfl) (N := 4) (by rfl) (cs := #[.int .i64 0, .string (⟨#[]⟩ : ByteArray), .string (⟨#[]⟩ : ByteArray)]) (t := 94) ?hr ?_; (case hr => go_simp <;> rfl); intro gb148 hg w7 hbox hb; have BK148 := zA (hbox); have GW148 := qG hg; have GE148 := GW148; replace HB := qH hb; clear hb hbox hg; have z8_0 := bk3 BK148.out))
   refine bodyPost_ret (results_ct rfl _ _ gb148 94 #[.int .i64 a0, .string (⟨#[99, 111, 112, 121]⟩ : ByteArray), .string (⟨#[68, 65]⟩ : ByteArray)] (0, 0) _ rfl (by (with_reducible repeat (first | refine blk_drewN ?_ _ | refine blk_drew ?_ | refine blk_alloc ?_ _)); refine blk_put (cs := #[.int .i64 a0, .string (⟨#[99, 111, 112, 121]⟩ : ByteArray), .string (⟨#[]⟩ : ByteArray)]) ?_ 2 _ rfl; (with_reducible repeat (first | refine blk_drewN ?_ _ | refine blk_drew ?_ | refine blk_alloc ?_ _)); refine blk_put (cs := #[.int .i64 a0, .string (⟨#[]⟩ : ByteArray), .string (⟨#[]⟩ : ByteArray)]) ?_ 1 _ rfl; (with_reducible repeat (first | refine blk_drewN ?_ _ | refine blk_drew ?_ | refine blk_alloc ?_ _)); refine blk_put (cs := #[.int .i64 0, .string (⟨#[]⟩ : ByteArray), .string (⟨#[]⟩ : ByteArray)]) ?_ 0 _ rfl; (with_reducible repeat (first | refine blk_drewN ?_ _ | refine blk_drew ?_ | refine blk_alloc ?_ _)); exact BK148.out) Tryd.underlying94 rfl (by kernel_rfl)) rfl ?_
   exact ⟨qE, qB⟩
  ·rw [zD c6] at H
   obtain ⟨c6b0, c6b1⟩ := qn c6
   by_cases c9 : a0 = 3
   ·rw [zC c9] at H
    obtain ⟨c9b0, c9b1⟩ := qe c9; clear c9
    simp only [Option.some.injEq, Prod.mk.injEq] at H
    obtain ⟨rfl, rfl, rfl, rfl⟩ := H
    go_enter Tryd.func51, Tryd.ntmps51
    go_wp2_with (first | ((with_reducible refine gate_dst (N := 4) rfl ?_); refine box_event (by rfl) (N := 4) (by rfl) (cs := #[.int .i64 0, .string (⟨#[]⟩ : ByteArray), .string (⟨#[]⟩ : ByteArray)]) (t := 94) ?hr ?_; (case hr => go_simp <;> rfl); intro gb148 hg w10 hbox hb; have BK148 := zA (hbox); have GW148 := qG hg; have GE148 := GW148; replace HB := qH hb; clear hb hbox hg; have z11_0 := bk3 BK148.out))
    refine bodyPost_ret (results_ct rfl _ _ gb148 94 #[.int .i64 a0, .string (⟨#[97, 100, 100]⟩ : ByteArray), .string (⟨#[68, 65, 66]⟩ : ByteArray)] (0, 0) _ rfl (by (with_reducible repeat (first | refine blk_drewN ?_ _ | refine blk_drew ?_ | refine blk_alloc ?_ _)); refine blk_put (cs := #[.int .i64 a0, .string (⟨#[97, 100, 100]⟩ : ByteArray), .string (⟨#[]⟩ : ByteArray)]) ?_ 2 _ rfl; (with_reducible repeat (first | refine blk_drewN ?_ _ | refine blk_drew ?_ | refine blk_alloc ?_ _)); refine blk_put (cs := #[.int .i64 a0, .string (⟨#[]⟩ : ByteArray), .string (⟨#[]⟩ : ByteArray)]) ?_ 1 _ rfl; (with_reducible repeat (first | refine blk_drewN ?_ _ | refine blk_drew ?_ | refine blk_alloc ?_ _)); refine blk_put (cs := #[.int .i64 0, .string (⟨#[]⟩ : ByteArray), .string (⟨#[]⟩ : ByteArray)]) ?_ 0 _ rfl; (with_reducible repeat (first | refine blk_drewN ?_ _ | refine blk_drew ?_ | refine blk_alloc ?_ _)); exact BK148.out) Tryd.underlying94 rfl (by kernel_rfl)) rfl ?_
    exact ⟨qE, qB⟩
   ·rw [zD c9] at H
    obtain ⟨c9b0, c9b1⟩ := qn c9
    by_cases c12 : a0 = 4
    ·rw [zC c12] at H
     obtain ⟨c12b0, c12b1⟩ := qe c12; clear c12
     simp only [Option.some.injEq, Prod.mk.injEq] at H
     obtain ⟨rfl, rfl, rfl, rfl⟩ := H
     go_enter Tryd.func51, Tryd.ntmps51
     go_wp2_with (first | ((with_reducible refine gate_dst (N := 4) rfl ?_); refine box_event (by rfl) (N := 4) (by rfl) (cs := #[.int .i64 0, .string (⟨#[]⟩ : ByteArray), .string (⟨#[]⟩ : ByteArray)]) (t := 94) ?hr ?_; (case hr => go_simp <;> rfl); intro gb148 hg w13 hbox hb; have BK148 := zA (hbox); have GW148 := qG hg; have GE148 := GW148; replace HB := qH hb; clear hb hbox hg; have z14_0 := bk3 BK148.out))
     refine bodyPost_ret (results_ct rfl _ _ gb148 94 #[.int .i64 a0, .string (⟨#[115, 117, 98]⟩ : ByteArray), .string (⟨#[68, 65, 66]⟩ : ByteArray)] (0, 0) _ rfl (by (with_reducible repeat (first | refine blk_drewN ?_ _ | refine blk_drew ?_ | refine blk_alloc ?_ _)); refine blk_put (cs := #[.int .i64 a0, .string (⟨#[115, 117, 98]⟩ : ByteArray), .string (⟨#[]⟩ : ByteArray)]) ?_ 2 _ rfl; (with_reducible repeat (first | refine blk_drewN ?_ _ | refine blk_drew ?_ | refine blk_alloc ?_ _)); refine blk_put (cs := #[.int .i64 a0, .string (⟨#[]⟩ : ByteArray), .string (⟨#[]⟩ : ByteArray)]) ?_ 1 _ rfl; (with_reducible repeat (first | refine blk_drewN ?_ _ | refine blk_drew ?_ | refine blk_alloc ?_ _)); refine blk_put (cs := #[.int .i64 0, .string (⟨#[]⟩ : ByteArray), .string (⟨#[]⟩ : ByteArray)]) ?_ 0 _ rfl; (with_reducible repeat (first | refine blk_drewN ?_ _ | refine blk_drew ?_ | refine blk_alloc ?_ _)); exact BK148.out) Tryd.underlying94 rfl (by kernel_rfl)) rfl ?_
     exact ⟨qE, qB⟩
    ·rw [zD c12] at H
     obtain ⟨c12b0, c12b1⟩ := qn c12
     by_cases c15 : a0 = 5
     ·rw [zC c15] at H
      obtain ⟨c15b0, c15b1⟩ := qe c15; clear c15
      simp only [Option.some.injEq, Prod.mk.injEq] at H
      obtain ⟨rfl, rfl, rfl, rfl⟩ := H
      go_enter Tryd.func51, Tryd.ntmps51
      go_wp2_with (first | ((with_reducible refine gate_dst (N := 4) rfl ?_); refine box_event (by rfl) (N := 4) (by rfl) (cs := #[.int .i64 0, .string (⟨#[]⟩ : ByteArray), .string (⟨#[]⟩ : ByteArray)]) (t := 94) ?hr ?_; (case hr => go_simp <;> rfl); intro gb148 hg w16 hbox hb; have BK148 := zA (hbox); have GW148 := qG hg; have GE148 := GW148; replace HB := qH hb; clear hb hbox hg; have z17_0 := bk3 BK148.out))
      refine bodyPost_ret (results_ct rfl _ _ gb148 94 #[.int .i64 a0, .string (⟨#[109, 117, 108]⟩ : ByteArray), .string (⟨#[68, 65, 66]⟩ : ByteArray)] (0, 0) _ rfl (by (with_reducible repeat (first | refine blk_drewN ?_ _ | refine blk_drew ?_ | refine blk_alloc ?_ _)); refine blk_put (cs := #[.int .i64 a0, .string (⟨#[109, 117, 108]⟩ : ByteArray), .string (⟨#[]⟩ : ByteArray)]) ?_ 2 _ rfl; (with_reducible repeat (first | refine blk_drewN ?_ _ | refine blk_drew ?_ | refine blk_alloc ?_ _)); refine blk_put (cs := #[.int .i64 a0, .string (⟨#[]⟩ : ByteArray), .string (⟨#[]⟩ : ByteArray)]) ?_ 1 _ rfl; (with_reducible repeat (first | refine blk_drewN ?_ _ | refine blk_drew ?_ | refine blk_alloc ?_ _)); refine blk_put (cs := #[.int .i64 0, .string (⟨#[]⟩ : ByteArray), .string (⟨#[]⟩ : ByteArray)]) ?_ 0 _ rfl; (with_reducible repeat (first | refine blk_drewN ?_ _ | refine blk_drew ?_ | refine blk_alloc ?_ _)); exact BK148.out) Tryd.underlying94 rfl (by kernel_rfl)) rfl ?_
      exact ⟨qE, qB⟩
     ·rw [zD c15] at H
      obtain ⟨c15b0, c15b1⟩ := qn c15
      by_cases c18 : a0 = 6
      ·rw [zC c18] at H
       obtain ⟨c18b0, c18b1⟩ := qe c18; clear c18
       simp only [Option.some.injEq, Prod.mk.injEq] at H
       obtain ⟨rfl, rfl, rfl, rfl⟩ := H
       go_enter Tryd.func51, Tryd.ntmps51
       go_wp2_with (first | ((with_reducible refine gate_dst (N := 4) rfl ?_); refine box_event (by rfl) (N := 4) (by rfl) (cs := #[.int .i64 0, .string (⟨#[]⟩ : ByteArray), .string (⟨#[]⟩ : ByteArray)]) (t := 94) ?hr ?_; (case hr => go_simp <;> rfl); intro gb148 hg w19 hbox hb; have BK148 := zA (hbox); have GW148 := qG hg; have GE148 := GW148; replace HB := qH hb; clear hb hbox hg; have z20_0 := bk3 BK148.out))
       refine bodyPost_ret (results_ct rfl _ _ gb148 94 #[.int .i64 a0, .string (⟨#[108, 101, 115, 115]⟩ : ByteArray), .string (⟨#[68, 65, 66]⟩ : ByteArray)] (0, 0) _ rfl (by (with_reducible repeat (first | refine blk_drewN ?_ _ | refine blk_drew ?_ | refine blk_alloc ?_ _)); refine blk_put (cs := #[.int .i64 a0, .string (⟨#[108, 101, 115, 115]⟩ : ByteArray), .string (⟨#[]⟩ : ByteArray)]) ?_ 2 _ rfl; (with_reducible repeat (first | refine blk_drewN ?_ _ | refine blk_drew ?_ | refine blk_alloc ?_ _)); refine blk_put (cs := #[.int .i64 a0, .string (⟨#[]⟩ : ByteArray), .string (⟨#[]⟩ : ByteArray)]) ?_ 1 _ rfl; (with_reducible repeat (first | refine blk_drewN ?_ _ | refine blk_drew ?_ | refine blk_alloc ?_ _)); refine blk_put (cs := #[.int .i64 0, .string (⟨#[]⟩ : ByteArray), .string (⟨#[]⟩ : ByteArray)]) ?_ 0 _ rfl; (with_reducible repeat (first | refine blk_drewN ?_ _ | refine blk_drew ?_ | refine blk_alloc ?_ _)); exact BK148.out) Tryd.underlying94 rfl (by kernel_rfl)) rfl ?_
       exact ⟨qE, qB⟩
      ·rw [zD c18] at H
       obtain ⟨c18b0, c18b1⟩ := qn c18
       by_cases c21 : a0 = 7
       ·rw [zC c21] at H
        obtain ⟨c21b0, c21b1⟩ := qe c21; clear c21
        simp only [Option.some.injEq, Prod.mk.injEq] at H
        obtain ⟨rfl, rfl, rfl, rfl⟩ := H
        go_enter Tryd.func51, Tryd.ntmps51
        go_wp2_with (first | ((with_reducible refine gate_dst (N := 4) rfl ?_); refine box_event (by rfl) (N := 4) (by rfl) (cs := #[.int .i64 0, .string (⟨#[]⟩ : ByteArray), .string (⟨#[]⟩ : ByteArray)]) (t := 94) ?hr ?_; (case hr => go_simp <;> rfl); intro gb148 hg w22 hbox hb; have BK148 := zA (hbox); have GW148 := qG hg; have GE148 := GW148; replace HB := qH hb; clear hb hbox hg; have z23_0 := bk3 BK148.out))
        refine bodyPost_ret (results_ct rfl _ _ gb148 94 #[.int .i64 a0, .string (⟨#[100, 105, 118]⟩ : ByteArray), .string (⟨#[68, 65, 66]⟩ : ByteArray)] (0, 0) _ rfl (by (with_reducible repeat (first | refine blk_drewN ?_ _ | refine blk_drew ?_ | refine blk_alloc ?_ _)); refine blk_put (cs := #[.int .i64 a0, .string (⟨#[100, 105, 118]⟩ : ByteArray), .string (⟨#[]⟩ : ByteArray)]) ?_ 2 _ rfl; (with_reducible repeat (first | refine blk_drewN ?_ _ | refine blk_drew ?_ | refine blk_alloc ?_ _)); refine blk_put (cs := #[.int .i64 a0, .string (⟨#[]⟩ : ByteArray), .string (⟨#[]⟩ : ByteArray)]) ?_ 1 _ rfl; (with_reducible repeat (first | refine blk_drewN ?_ _ | refine blk_drew ?_ | refine blk_alloc ?_ _)); refine blk_put (cs := #[.int .i64 0, .string (⟨#[]⟩ : ByteArray), .string (⟨#[]⟩ : ByteArray)]) ?_ 0 _ rfl; (with_reducible repeat (first | refine blk_drewN ?_ _ | refine blk_drew ?_ | refine blk_alloc ?_ _)); exact BK148.out) Tryd.underlying94 rfl (by kernel_rfl)) rfl ?_
        exact ⟨qE, qB⟩
       ·rw [zD c21] at H
        obtain ⟨c21b0, c21b1⟩ := qn c21
        by_cases c24 : a0 = 8
        ·rw [zC c24] at H
         obtain ⟨c24b0, c24b1⟩ := qe c24; clear c24
         simp only [Option.some.injEq, Prod.mk.injEq] at H
         obtain ⟨rfl, rfl, rfl, rfl⟩ := H
         go_enter Tryd.func51, Tryd.ntmps51
         go_wp2_with (first | ((with_reducible refine gate_dst (N := 4) rfl ?_); refine box_event (by rfl) (N := 4) (by rfl) (cs := #[.int .i64 0, .string (⟨#[]⟩ : ByteArray), .string (⟨#[]⟩ : ByteArray)]) (t := 94) ?hr ?_; (case hr => go_simp <;> rfl); intro gb148 hg w25 hbox hb; have BK148 := zA (hbox); have GW148 := qG hg; have GE148 := GW148; replace HB := qH hb; clear hb hbox hg; have z26_0 := bk3 BK148.out))
         refine bodyPost_ret (results_ct rfl _ _ gb148 94 #[.int .i64 a0, .string (⟨#[108, 111, 97, 100]⟩ : ByteArray), .string (⟨#[68, 65]⟩ : ByteArray)] (0, 0) _ rfl (by (with_reducible repeat (first | refine blk_drewN ?_ _ | refine blk_drew ?_ | refine blk_alloc ?_ _)); refine blk_put (cs := #[.int .i64 a0, .string (⟨#[108, 111, 97, 100]⟩ : ByteArray), .string (⟨#[]⟩ : ByteArray)]) ?_ 2 _ rfl; (with_reducible repeat (first | refine blk_drewN ?_ _ | refine blk_drew ?_ | refine blk_alloc ?_ _)); refine blk_put (cs := #[.int .i64 a0, .string (⟨#[]⟩ : ByteArray), .string (⟨#[]⟩ : ByteArray)]) ?_ 1 _ rfl; (with_reducible repeat (first | refine blk_drewN ?_ _ | refine blk_drew ?_ | refine blk_alloc ?_ _)); refine blk_put (cs := #[.int .i64 0, .string (⟨#[]⟩ : ByteArray), .string (⟨#[]⟩ : ByteArray)]) ?_ 0 _ rfl; (with_reducible repeat (first | refine blk_drewN ?_ _ | refine blk_drew ?_ | refine blk_alloc ?_ _)); exact BK148.out) Tryd.underlying94 rfl (by kernel_rfl)) rfl ?_
         exact ⟨qE, qB⟩
        ·rw [zD c24] at H
         obtain ⟨c24b0, c24b1⟩ := qn c24
         by_cases c27 : a0 = 9
         ·rw [zC c27] at H
          obtain ⟨c27b0, c27b1⟩ := qe c27; clear c27
          simp only [Option.some.injEq, Prod.mk.injEq] at H
          obtain ⟨rfl, rfl, rfl, rfl⟩ := H
          go_enter Tryd.func51, Tryd.ntmps51
          go_wp2_with (first | ((with_reducible refine gate_dst (N := 4) rfl ?_); refine box_event (by rfl) (N := 4) (by rfl) (cs := #[.int .i64 0, .string (⟨#[]⟩ : ByteArray), .string (⟨#[]⟩ : ByteArray)]) (t := 94) ?hr ?_; (case hr => go_simp <;> rfl); intro gb148 hg w28 hbox hb; have BK148 := zA (hbox); have GW148 := qG hg; have GE148 := GW148; replace HB := qH hb; clear hb hbox hg; have z29_0 := bk3 BK148.out))
          refine bodyPost_ret (results_ct rfl _ _ gb148 94 #[.int .i64 a0, .string (⟨#[115, 116, 111, 114, 101]⟩ : ByteArray), .string (⟨#[65, 66]⟩ : ByteArray)] (0, 0) _ rfl (by (with_reducible repeat (first | refine blk_drewN ?_ _ | refine blk_drew ?_ | refine blk_alloc ?_ _)); refine blk_put (cs := #[.int .i64 a0, .string (⟨#[115, 116, 111, 114, 101]⟩ : ByteArray), .string (⟨#[]⟩ : ByteArray)]) ?_ 2 _ rfl; (with_reducible repeat (first | refine blk_drewN ?_ _ | refine blk_drew ?_ | refine blk_alloc ?_ _)); refine blk_put (cs := #[.int .i64 a0, .string (⟨#[]⟩ : ByteArray), .string (⟨#[]⟩ : ByteArray)]) ?_ 1 _ rfl; (with_reducible repeat (first | refine blk_drewN ?_ _ | refine blk_drew ?_ | refine blk_alloc ?_ _)); refine blk_put (cs := #[.int .i64 0, .string (⟨#[]⟩ : ByteArray), .string (⟨#[]⟩ : ByteArray)]) ?_ 0 _ rfl; (with_reducible repeat (first | refine blk_drewN ?_ _ | refine blk_drew ?_ | refine blk_alloc ?_ _)); exact BK148.out) Tryd.underlying94 rfl (by kernel_rfl)) rfl ?_
          exact ⟨qE, qB⟩
         ·rw [zD c27] at H
          obtain ⟨c27b0, c27b1⟩ := qn c27
          by_cases c30 : a0 = 10
          ·rw [zC c30] at H
           obtain ⟨c30b0, c30b1⟩ := qe c30; clear c30
           simp only [Option.some.injEq, Prod.mk.injEq] at H
           obtain ⟨rfl, rfl, rfl, rfl⟩ := H
           go_enter Tryd.func51, Tryd.ntmps51
           go_wp2_with (first | ((with_reducible refine gate_dst (N := 4) rfl ?_); refine box_event (by rfl) (N := 4) (by rfl) (cs := #[.int .i64 0, .string (⟨#[]⟩ : ByteArray), .string (⟨#[]⟩ : ByteArray)]) (t := 94) ?hr ?_; (case hr => go_simp <;> rfl); intro gb148 hg w31 hbox hb; have BK148 := zA (hbox); have GW148 := qG hg; have GE148 := GW148; replace HB := qH hb; clear hb hbox hg; have z32_0 := bk3 BK148.out))
           refine bodyPost_ret (results_ct rfl _ _ gb148 94 #[.int .i64 a0, .string (⟨#[111, 117, 116]⟩ : ByteArray), .string (⟨#[65]⟩ : ByteArray)] (0, 0) _ rfl (by (with_reducible repeat (first | refine blk_drewN ?_ _ | refine blk_drew ?_ | refine blk_alloc ?_ _)); refine blk_put (cs := #[.int .i64 a0, .string (⟨#[111, 117, 116]⟩ : ByteArray), .string (⟨#[]⟩ : ByteArray)]) ?_ 2 _ rfl; (with_reducible repeat (first | refine blk_drewN ?_ _ | refine blk_drew ?_ | refine blk_alloc ?_ _)); refine blk_put (cs := #[.int .i64 a0, .string (⟨#[]⟩ : ByteArray), .string (⟨#[]⟩ : ByteArray)]) ?_ 1 _ rfl; (with_reducible repeat (first | refine blk_drewN ?_ _ | refine blk_drew ?_ | refine blk_alloc ?_ _)); refine blk_put (cs := #[.int .i64 0, .string (⟨#[]⟩ : ByteArray), .string (⟨#[]⟩ : ByteArray)]) ?_ 0 _ rfl; (with_reducible repeat (first | refine blk_drewN ?_ _ | refine blk_drew ?_ | refine blk_alloc ?_ _)); exact BK148.out) Tryd.underlying94 rfl (by kernel_rfl)) rfl ?_
           exact ⟨qE, qB⟩
          ·rw [zD c30] at H
           obtain ⟨c30b0, c30b1⟩ := qn c30
           by_cases c33 : a0 = 11
           ·rw [zC c33] at H
            obtain ⟨c33b0, c33b1⟩ := qe c33; clear c33
            by_cases c34 : a1 = true
            ·subst c34
             have H1 : (some (a0, (⟨#[99, 97, 108, 108]⟩ : ByteArray), (⟨#[68, 78, 65]⟩ : ByteArray), true)) = some (r1, r2, r3, r4) := by rw [zC rfl] at H; exact H
             clear H
             have H := H1
             clear H1
             simp only [Option.some.injEq, Prod.mk.injEq] at H
             obtain ⟨rfl, rfl, rfl, rfl⟩ := H
             go_enter Tryd.func51, Tryd.ntmps51
             go_wp2_with (first | ((with_reducible refine gate_dst (N := 4) rfl ?_); refine box_event (by rfl) (N := 4) (by rfl) (cs := #[.int .i64 0, .string (⟨#[]⟩ : ByteArray), .string (⟨#[]⟩ : ByteArray)]) (t := 94) ?hr ?_; (case hr => go_simp <;> rfl); intro gb148 hg w35 hbox hb; have BK148 := zA (hbox); have GW148 := qG hg; have GE148 := GW148; replace HB := qH hb; clear hb hbox hg; have z36_0 := bk3 BK148.out))
             refine bodyPost_ret (results_ct rfl _ _ gb148 94 #[.int .i64 a0, .string (⟨#[99, 97, 108, 108]⟩ : ByteArray), .string (⟨#[68, 78, 65]⟩ : ByteArray)] (0, 0) _ rfl (by (with_reducible repeat (first | refine blk_drewN ?_ _ | refine blk_drew ?_ | refine blk_alloc ?_ _)); refine blk_put (cs := #[.int .i64 a0, .string (⟨#[99, 97, 108, 108]⟩ : ByteArray), .string (⟨#[]⟩ : ByteArray)]) ?_ 2 _ rfl; (with_reducible repeat (first | refine blk_drewN ?_ _ | refine blk_drew ?_ | refine blk_alloc ?_ _)); refine blk_put (cs := #[.int .i64 a0, .string (⟨#[]⟩ : ByteArray), .string (⟨#[]⟩ : ByteArray)]) ?_ 1 _ rfl; (with_reducible repeat (first | refine blk_drewN ?_ _ | refine blk_drew ?_ | refine blk_alloc ?_ _)); refine blk_put (cs := #[.int .i64 0, .string (⟨#[]⟩ : ByteArray), .string (⟨#[]⟩ : ByteArray)]) ?_ 0 _ rfl; (with_reducible repeat (first | refine blk_drewN ?_ _ | refine blk_drew ?_ | refine blk_alloc ?_ _)); exact BK148.out) Tryd.underlying94 rfl (by kernel_rfl)) rfl ?_
             exact ⟨qE, qB⟩
            ·replace c34 := Bool.eq_false_iff.mpr c34
             subst c34
             have H1 : (some (a0, (⟨#[99, 97, 108, 108]⟩ : ByteArray), (⟨#[68, 78, 76]⟩ : ByteArray), true)) = some (r1, r2, r3, r4) := by rw [zD (show ¬ (false = true) by decide)] at H; exact H
             clear H
             have H := H1
             clear H1
             simp only [Option.some.injEq, Prod.mk.injEq] at H
             obtain ⟨rfl, rfl, rfl, rfl⟩ := H
             go_enter Tryd.func51, Tryd.ntmps51
             go_wp2_with (first | ((with_reducible refine gate_dst (N := 4) rfl ?_); refine box_event (by rfl) (N := 4) (by rfl) (cs := #[.int .i64 0, .string (⟨#[]⟩ : ByteArray), .string (⟨#[]⟩ : ByteArray)]) (t := 94) ?hr ?_; (case hr => go_simp <;> rfl); intro gb148 hg w37 hbox hb; have BK148 := zA (hbox); have GW148 := qG hg; have GE148 := GW148; replace HB := qH hb; clear hb hbox hg; have z38_0 := bk3 BK148.out))
             refine bodyPost_ret (results_ct rfl _ _ gb148 94 #[.int .i64 a0, .string (⟨#[99, 97, 108, 108]⟩ : ByteArray), .string (⟨#[68, 78, 76]⟩ : ByteArray)] (0, 0) _ rfl (by (with_reducible repeat (first | refine blk_drewN ?_ _ | refine blk_drew ?_ | refine blk_alloc ?_ _)); refine blk_put (cs := #[.int .i64 a0, .string (⟨#[99, 97, 108, 108]⟩ : ByteArray), .string (⟨#[]⟩ : ByteArray)]) ?_ 2 _ rfl; (with_reducible repeat (first | refine blk_drewN ?_ _ | refine blk_drew ?_ | refine blk_alloc ?_ _)); refine blk_put (cs := #[.int .i64 a0, .string (⟨#[]⟩ : ByteArray), .string (⟨#[]⟩ : ByteArray)]) ?_ 1 _ rfl; (with_reducible repeat (first | refine blk_drewN ?_ _ | refine blk_drew ?_ | refine blk_alloc ?_ _)); refine blk_put (cs := #[.int .i64 0, .string (⟨#[]⟩ : ByteArray), .string (⟨#[]⟩ : ByteArray)]) ?_ 0 _ rfl; (with_reducible repeat (first | refine blk_drewN ?_ _ | refine blk_drew ?_ | refine blk_alloc ?_ _)); exact BK148.out) Tryd.underlying94 rfl (by kernel_rfl)) rfl ?_
             exact ⟨qE, qB⟩
           ·rw [zD c33] at H
            obtain ⟨c33b0, c33b1⟩ := qn c33
            by_cases c39 : a0 = 12
            ·rw [zC c39] at H
             obtain ⟨c39b0, c39b1⟩ := qe c39; clear c39
             simp only [Option.some.injEq, Prod.mk.injEq] at H
             obtain ⟨rfl, rfl, rfl, rfl⟩ := H
             go_enter Tryd.func51, Tryd.ntmps51
             go_wp2_with (first | ((with_reducible refine gate_dst (N := 4) rfl ?_); refine box_event (by rfl) (N := 4) (by rfl) (cs := #[.int .i64 0, .string (⟨#[]⟩ : ByteArray), .string (⟨#[]⟩ : ByteArray)]) (t := 94) ?hr ?_; (case hr => go_simp <;> rfl); intro gb148 hg w40 hbox hb; have BK148 := zA (hbox); have GW148 := qG hg; have GE148 := GW148; replace HB := qH hb; clear hb hbox hg; have z41_0 := bk3 BK148.out))
             refine bodyPost_ret (results_ct rfl _ _ gb148 94 #[.int .i64 a0, .string (⟨#[106, 117, 109, 112]⟩ : ByteArray), .string (⟨#[65]⟩ : ByteArray)] (0, 0) _ rfl (by (with_reducible repeat (first | refine blk_drewN ?_ _ | refine blk_drew ?_ | refine blk_alloc ?_ _)); refine blk_put (cs := #[.int .i64 a0, .string (⟨#[106, 117, 109, 112]⟩ : ByteArray), .string (⟨#[]⟩ : ByteArray)]) ?_ 2 _ rfl; (with_reducible repeat (first | refine blk_drewN ?_ _ | refine blk_drew ?_ | refine blk_alloc ?_ _)); refine blk_put (cs := #[.int .i64 a0, .string (⟨#[]⟩ : ByteArray), .string (⟨#[]⟩ : ByteArray)]) ?_ 1 _ rfl; (with_reducible repeat (first | refine blk_drewN ?_ _ | refine blk_drew ?_ | refine blk_alloc ?_ _)); refine blk_put (cs := #[.int .i64 0, .string (⟨#[]⟩ : ByteArray), .string (⟨#[]⟩ : ByteArray)]) ?_ 0 _ rfl; (with_reducible repeat (first | refine blk_drewN ?_ _ | refine blk_drew ?_ | refine blk_alloc ?_ _)); exact BK148.out) Tryd.underlying94 rfl (by kernel_rfl)) rfl ?_
             exact ⟨qE, qB⟩
            ·rw [zD c39] at H
             obtain ⟨c39b0, c39b1⟩ := qn c39
             by_cases c42 : a0 = 13
             ·rw [zC c42] at H
              obtain ⟨c42b0, c42b1⟩ := qe c42; clear c42
              simp only [Option.some.injEq, Prod.mk.injEq] at H
              obtain ⟨rfl, rfl, rfl, rfl⟩ := H
              go_enter Tryd.func51, Tryd.ntmps51
              go_wp2_with (first | ((with_reducible refine gate_dst (N := 4) rfl ?_); refine box_event (by rfl) (N := 4) (by rfl) (cs := #[.int .i64 0, .string (⟨#[]⟩ : ByteArray), .string (⟨#[]⟩ : ByteArray)]) (t := 94) ?hr ?_; (case hr => go_simp <;> rfl); intro gb148 hg w43 hbox hb; have BK148 := zA (hbox); have GW148 := qG hg; have GE148 := GW148; replace HB := qH hb; clear hb hbox hg; have z44_0 := bk3 BK148.out))
              refine bodyPost_ret (results_ct rfl _ _ gb148 94 #[.int .i64 a0, .string (⟨#[98, 114, 97, 110, 99, 104]⟩ : ByteArray), .string (⟨#[65, 66, 68]⟩ : ByteArray)] (0, 0) _ rfl (by (with_reducible repeat (first | refine blk_drewN ?_ _ | refine blk_drew ?_ | refine blk_alloc ?_ _)); refine blk_put (cs := #[.int .i64 a0, .string (⟨#[98, 114, 97, 110, 99, 104]⟩ : ByteArray), .string (⟨#[]⟩ : ByteArray)]) ?_ 2 _ rfl; (with_reducible repeat (first | refine blk_drewN ?_ _ | refine blk_drew ?_ | refine blk_alloc ?_ _)); refine blk_put (cs := #[.int .i64 a0, .string (⟨#[]⟩ : ByteArray), .string (⟨#[]⟩ : ByteArray)]) ?_ 1 _ rfl; (with_reducible repeat (first | refine blk_drewN ?_ _ | refine blk_drew ?_ | refine blk_alloc ?_ _)); refine blk_put (cs := #[.int .i64 0, .string (⟨#[]⟩ : ByteArray), .string (⟨#[]⟩ : ByteArray)]) ?_ 0 _ rfl; (with_reducible repeat (first | refine blk_drewN ?_ _ | refine blk_drew ?_ | refine blk_alloc ?_ _)); exact BK148.out) Tryd.underlying94 rfl (by kernel_rfl)) rfl ?_
              exact ⟨qE, qB⟩
             ·rw [zD c42] at H
              obtain ⟨c42b0, c42b1⟩ := qn c42
              by_cases c45 : a0 = 14
              ·rw [zC c45] at H
               obtain ⟨c45b0, c45b1⟩ := qe c45; clear c45
               simp only [Option.some.injEq, Prod.mk.injEq] at H
               obtain ⟨rfl, rfl, rfl, rfl⟩ := H
               go_enter Tryd.func51, Tryd.ntmps51
               go_wp2_with (first | ((with_reducible refine gate_dst (N := 4) rfl ?_); refine box_event (by rfl) (N := 4) (by rfl) (cs := #[.int .i64 0, .string (⟨#[]⟩ : ByteArray), .string (⟨#[]⟩ : ByteArray)]) (t := 94) ?hr ?_; (case hr => go_simp <;> rfl); intro gb148 hg w46 hbox hb; have BK148 := zA (hbox); have GW148 := qG hg; have GE148 := GW148; replace HB := qH hb; clear hb hbox hg; have z47_0 := bk3 BK148.out))
               refine bodyPost_ret (results_ct rfl _ _ gb148 94 #[.int .i64 a0, .string (⟨#[114, 101, 116]⟩ : ByteArray), .string (⟨#[65]⟩ : ByteArray)] (0, 0) _ rfl (by (with_reducible repeat (first | refine blk_drewN ?_ _ | refine blk_drew ?_ | refine blk_alloc ?_ _)); refine blk_put (cs := #[.int .i64 a0, .string (⟨#[114, 101, 116]⟩ : ByteArray), .string (⟨#[]⟩ : ByteArray)]) ?_ 2 _ rfl; (with_reducible repeat (first | refine blk_drewN ?_ _ | refine blk_drew ?_ | refine blk_alloc ?_ _)); refine blk_put (cs := #[.int .i64 a0, .string (⟨#[]⟩ : ByteArray), .string (⟨#[]⟩ : ByteArray)]) ?_ 1 _ rfl; (with_reducible repeat (first | refine blk_drewN ?_ _ | refine blk_drew ?_ | refine blk_alloc ?_ _)); refine blk_put (cs := #[.int .i64 0, .string (⟨#[]⟩ : ByteArray), .string (⟨#[]⟩ : ByteArray)]) ?_ 0 _ rfl; (with_reducible repeat (first | refine blk_drewN ?_ _ | refine blk_drew ?_ | refine blk_alloc ?_ _)); exact BK148.out) Tryd.underlying94 rfl (by kernel_rfl)) rfl ?_
               exact ⟨qE, qB⟩
              ·rw [zD c45] at H
               obtain ⟨c45b0, c45b1⟩ := qn c45
               by_cases c48 : a0 = 21
               ·rw [zC c48] at H
                obtain ⟨c48b0, c48b1⟩ := qe c48; clear c48
                simp only [Option.some.injEq, Prod.mk.injEq] at H
                obtain ⟨rfl, rfl, rfl, rfl⟩ := H
                go_enter Tryd.func51, Tryd.ntmps51
                go_wp2_with (first | ((with_reducible refine gate_dst (N := 4) rfl ?_); refine box_event (by rfl) (N := 4) (by rfl) (cs := #[.int .i64 0, .string (⟨#[]⟩ : ByteArray), .string (⟨#[]⟩ : ByteArray)]) (t := 94) ?hr ?_; (case hr => go_simp <;> rfl); intro gb148 hg w49 hbox hb; have BK148 := zA (hbox); have GW148 := qG hg; have GE148 := GW148; replace HB := qH hb; clear hb hbox hg; have z50_0 := bk3 BK148.out))
                refine bodyPost_ret (results_ct rfl _ _ gb148 94 #[.int .i64 a0, .string (⟨#[102, 101, 116, 99, 104]⟩ : ByteArray), .string (⟨#[68, 65]⟩ : ByteArray)] (0, 0) _ rfl (by (with_reducible repeat (first | refine blk_drewN ?_ _ | refine blk_drew ?_ | refine blk_alloc ?_ _)); refine blk_put (cs := #[.int .i64 a0, .string (⟨#[102, 101, 116, 99, 104]⟩ : ByteArray), .string (⟨#[]⟩ : ByteArray)]) ?_ 2 _ rfl; (with_reducible repeat (first | refine blk_drewN ?_ _ | refine blk_drew ?_ | refine blk_alloc ?_ _)); refine blk_put (cs := #[.int .i64 a0, .string (⟨#[]⟩ : ByteArray), .string (⟨#[]⟩ : ByteArray)]) ?_ 1 _ rfl; (with_reducible repeat (first | refine blk_drewN ?_ _ | refine blk_drew ?_ | refine blk_alloc ?_ _)); refine blk_put (cs := #[.int .i64 0, .string (⟨#[]⟩ : ByteArray), .string (⟨#[]⟩ : ByteArray)]) ?_ 0 _ rfl; (with_reducible repeat (first | refine blk_drewN ?_ _ | refine blk_drew ?_ | refine blk_alloc ?_ _)); exact BK148.out) Tryd.underlying94 rfl (by kernel_rfl)) rfl ?_
                exact ⟨qE, qB⟩
               ·rw [zD c48] at H
                obtain ⟨c48b0, c48b1⟩ := qn c48
                by_cases c51 : a0 = 22
                ·rw [zC c51] at H
                 obtain ⟨c51b0, c51b1⟩ := qe c51; clear c51
                 simp only [Option.some.injEq, Prod.mk.injEq] at H
                 obtain ⟨rfl, rfl, rfl, rfl⟩ := H
                 go_enter Tryd.func51, Tryd.ntmps51
                 go_wp2_with (first | ((with_reducible refine gate_dst (N := 4) rfl ?_); refine box_event (by rfl) (N := 4) (by rfl) (cs := #[.int .i64 0, .string (⟨#[]⟩ : ByteArray), .string (⟨#[]⟩ : ByteArray)]) (t := 94) ?hr ?_; (case hr => go_simp <;> rfl); intro gb148 hg w52 hbox hb; have BK148 := zA (hbox); have GW148 := qG hg; have GE148 := GW148; replace HB := qH hb; clear hb hbox hg; have z53_0 := bk3 BK148.out))
                 refine bodyPost_ret (results_ct rfl _ _ gb148 94 #[.int .i64 a0, .string (⟨#[115, 97, 118, 101]⟩ : ByteArray), .string (⟨#[68, 65]⟩ : ByteArray)] (0, 0) _ rfl (by (with_reducible repeat (first | refine blk_drewN ?_ _ | refine blk_drew ?_ | refine blk_alloc ?_ _)); refine blk_put (cs := #[.int .i64 a0, .string (⟨#[115, 97, 118, 101]⟩ : ByteArray), .string (⟨#[]⟩ : ByteArray)]) ?_ 2 _ rfl; (with_reducible repeat (first | refine blk_drewN ?_ _ | refine blk_drew ?_ | refine blk_alloc ?_ _)); refine blk_put (cs := #[.int .i64 a0, .string (⟨#[]⟩ : ByteArray), .string (⟨#[]⟩ : ByteArray)]) ?_ 1 _ rfl; (with_reducible repeat (first | refine blk_drewN ?_ _ | refine blk_drew ?_ | refine blk_alloc ?_ _)); refine blk_put (cs := #[.int .i64 0, .string (⟨#[]⟩ : ByteArray), .string (⟨#[]⟩ : ByteArray)]) ?_ 0 _ rfl; (with_reducible repeat (first | refine blk_drewN ?_ _ | refine blk_drew ?_ | refine blk_alloc ?_ _)); exact BK148.out) Tryd.underlying94 rfl (by kernel_rfl)) rfl ?_
                 exact ⟨qE, qB⟩
                ·rw [zD c51] at H
                 obtain ⟨c51b0, c51b1⟩ := qn c51
                 simp only [Option.some.injEq, Prod.mk.injEq] at H
                 obtain ⟨rfl, rfl, rfl, rfl⟩ := H
                 go_enter Tryd.func51, Tryd.ntmps51
                 go_wp2_with (first | ((with_reducible refine gate_dst (N := 4) rfl ?_); refine box_event (by rfl) (N := 4) (by rfl) (cs := #[.int .i64 0, .string (⟨#[]⟩ : ByteArray), .string (⟨#[]⟩ : ByteArray)]) (t := 94) ?hr ?_; (case hr => go_simp <;> rfl); intro gb148 hg w54 hbox hb; have BK148 := zA (hbox); have GW148 := qG hg; have GE148 := GW148; replace HB := qH hb; clear hb hbox hg; have z55_0 := bk3 BK148.out))
                 refine bodyPost_ret (results_ct rfl _ _ gb148 94 #[.int .i64 0, .string (⟨#[]⟩ : ByteArray), .string (⟨#[]⟩ : ByteArray)] (0, 0) _ rfl (by (with_reducible repeat (first | refine blk_drewN ?_ _ | refine blk_drew ?_ | refine blk_alloc ?_ _)); refine blk_put (cs := #[.int .i64 0, .string (⟨#[]⟩ : ByteArray), .string (⟨#[]⟩ : ByteArray)]) ?_ 2 _ rfl; (with_reducible repeat (first | refine blk_drewN ?_ _ | refine blk_drew ?_ | refine blk_alloc ?_ _)); refine blk_put (cs := #[.int .i64 0, .string (⟨#[]⟩ : ByteArray), .string (⟨#[]⟩ : ByteArray)]) ?_ 1 _ rfl; (with_reducible repeat (first | refine blk_drewN ?_ _ | refine blk_drew ?_ | refine blk_alloc ?_ _)); refine blk_put (cs := #[.int .i64 0, .string (⟨#[]⟩ : ByteArray), .string (⟨#[]⟩ : ByteArray)]) ?_ 0 _ rfl; (with_reducible repeat (first | refine blk_drewN ?_ _ | refine blk_drew ?_ | refine blk_alloc ?_ _)); exact BK148.out) Tryd.underlying94 rfl (by kernel_rfl)) rfl ?_
                 exact ⟨qE, qB⟩
end Go.Proofs.YtniknpjeknmpjaaDoor.Q
namespace Go.Proofs.YtniknpjeknmpjaaDoor.Q
open Go.RowKit Go.Shelf Go.Proofs.YtniknpjeknmpjaaDoor.Plain Go.Proofs.YtniknpjeknmpjaaDoorW.PrintWords Go.Proofs.YtniknpjeknmpjaaDoorW.PrintLast Go.Proofs.YtniknpjeknmpjaaDoorW.PrintMore
set_option linter.unusedVariables false
set_option linter.unusedSimpArgs false
set_option maxHeartbeats 2000000 in
set_option maxRecDepth 100000 in
theorem textnumber_calls (s : ByteArray) (w : World) (hL : LaidW w) (hs : s.size ≤ 281474976710656) :
 Calls Tryd.prog 56 #[.string s] w fun e w' => ∃ n, e = .returned (.tuple #[.int .i64 n, .bool (numOf s).isSome]) ∧ (∀ v, numOf s = some v → n = v) ∧ Below w.heap.size w w' := by
 have HB := zA (Below.refl w.heap.size w)
 have HLd := zA hL
 clear hL
 by_cases hat : ∃ v, Lib.atoiAll s.data.toList = .ok v
 case neg =>
  have hbad := atoi_bad (fun v h => hat ⟨v, h⟩) w HLd.out hs
  have HNo := zA hbad.1
  have HCl := zA hbad.2
  clear hbad hat
  go_enter Tryd.func56, Tryd.ntmps56
  go_wp2_with (go_at_call 76; refine HCl.out.mono ?_; rintro e w2 ⟨v, q, rfl, hb⟩; replace HB := zA (below_step HB.out hb); clear hb)
  go_ret2
  exact ⟨_, by rw [HNo.out]; rfl, (fun v h => by rw [HNo.out] at h; cases h), HB.out⟩
 obtain ⟨v, hv⟩ := hat
 have hno := numOf_ok hv
 have hvb := Lib.atoiAll_bounds hv
 have HV := zA hv
 clear hv
 have FAIL : Aside0 (¬ (0 ≤ v ∧ v < 2147483648 ∧ (⟨(Lib.itoa v).toArray⟩ : ByteArray) = s) → numOf s = none) := ⟨fun h => by rw [hno, zD h]⟩
 have GOOD : Aside0 ((0 ≤ v ∧ v < 2147483648 ∧ (⟨(Lib.itoa v).toArray⟩ : ByteArray) = s) → numOf s = some v) := ⟨fun h => by rw [hno, zC h]⟩
 clear hno
 by_cases f1 : v < 0
 ·have f1b := zG (show ¬ 0 ≤ v by omega)
  have HNo := zA (FAIL.out (fun h => by omega))
  clear FAIL GOOD
  go_enter Tryd.func56, Tryd.ntmps56
  go_wp2_with (go_at_call 76; refine (atoi_ok HV.out w hs).mono ?_; rintro e w2 ⟨rfl, hb⟩; replace HB := zA (below_step HB.out hb); clear hb)
  go_ret2
  exact ⟨_, by rw [HNo.out]; rfl, (fun v h => by rw [HNo.out] at h; cases h), HB.out⟩
 have f1b := zF (show 0 ≤ v by omega)
 by_cases f2 : 2147483648 ≤ v
 ·have f2b := zG (show ¬ v < 2147483648 by omega)
  have HNo := zA (FAIL.out (fun h => by omega))
  clear FAIL GOOD
  go_enter Tryd.func56, Tryd.ntmps56
  go_wp2_with (go_at_call 76; refine (atoi_ok HV.out w hs).mono ?_; rintro e w2 ⟨rfl, hb⟩; replace HB := zA (below_step HB.out hb); clear hb)
  go_ret2
  exact ⟨_, by rw [HNo.out]; rfl, (fun v h => by rw [HNo.out] at h; cases h), HB.out⟩
 have f2b := zF (show v < 2147483648 by omega)
 obtain ⟨u, hu⟩ : ∃ u, u = (⟨(Lib.itoa v).toArray⟩ : ByteArray) := ⟨_, rfl⟩
 have HF := zA (show strconv_Itoa_31.f v = some u by unfold strconv_Itoa_31.f; rw [zC (by omega), hu])
 rw [← hu] at FAIL GOOD
 clear hu
 by_cases f3 : u.toList = s.toList
 case neg =>
  obtain ⟨f3a, f3b⟩ := qn f3
  have HNo := zA (FAIL.out (fun h => f3 (by rw [h.2.2])))
  clear FAIL GOOD
  go_enter Tryd.func56, Tryd.ntmps56
  go_wp2_with (first
   | (go_at_call 76; refine (atoi_ok HV.out w hs).mono ?_; rintro e w2 ⟨rfl, hb⟩; replace HB := zA (below_step HB.out hb); replace HLd := zA (HLd.out.below hb); clear hb)
   | (go_at_call 31; refine (strconv_Itoa_31.calls v u _ HLd.out HF.out).mono ?_; rintro e w3 ⟨rfl, hb⟩; replace HB := zA (below_step HB.out hb); clear hb))
  go_ret2
  exact ⟨_, by rw [HNo.out]; rfl, (fun v h => by rw [HNo.out] at h; cases h), HB.out⟩
 obtain ⟨f3a, f3b⟩ := qe f3
 have HG1 := zA (GOOD.out ⟨by omega, by omega, toList_inj.1 f3⟩)
 clear FAIL GOOD
 go_enter Tryd.func56, Tryd.ntmps56
 go_wp2_with (first
  | (go_at_call 76; refine (atoi_ok HV.out w hs).mono ?_; rintro e w2 ⟨rfl, hb⟩; replace HB := zA (below_step HB.out hb); replace HLd := zA (HLd.out.below hb); clear hb)
  | (go_at_call 31; refine (strconv_Itoa_31.calls v u _ HLd.out HF.out).mono ?_; rintro e w3 ⟨rfl, hb⟩; replace HB := zA (below_step HB.out hb); clear hb))
 go_ret2
 exact ⟨_, by rw [HG1.out]; rfl, (fun v' h => by rw [HG1.out] at h; cases h; rfl), HB.out⟩
def isBy (wd : ByteArray) (code : Bool) (op : Int) : Option (Int × ByteArray × ByteArray) := match text_of.f op code with
 | some (o, w1, fs, true) => if w1.toList = wd.toList then some (o, w1, fs) else none
 | _ => none
def byFrom (wd : ByteArray) (code : Bool) : Nat → Int → Option (Int × ByteArray × ByteArray)
 | 0, _ => none
 | k + 1, i => match isBy wd code i with
  | some r => some r
  | none => byFrom wd code k (i + 1)
def byOf (wd : ByteArray) (code : Bool) : Option (Int × ByteArray × ByteArray) := byFrom wd code 23 0
def byVal : Option (Int × ByteArray × ByteArray) → Value
 | some (o, w1, fs) => .tuple #[.agg #[.int .i64 o, .string w1, .string fs], .bool true]
 | none => .tuple #[.agg #[.int .i64 0, .string ⟨#[]⟩, .string ⟨#[]⟩], .bool false]
theorem isBy_false {wd w1 fs : ByteArray} {code : Bool} {i o : Int} (h : text_of.f i code = some (o, w1, fs, false)) : isBy wd code i = none := by unfold isBy; rw [h]
theorem isBy_true {wd w1 fs : ByteArray} {code : Bool} {i o : Int} (h : text_of.f i code = some (o, w1, fs, true)) : isBy wd code i = if w1.toList = wd.toList then some (o, w1, fs) else none := by unfold isBy; rw [h]
theorem ite_some {α : Type} {c : Prop} [Decidable c] {a b : Option α} (ha : ∃ r, a = some r) (hb : ∃ r, b = some r) : ∃ r, (if c then a else b) = some r := by split <;> assumption
theorem text_of_total (op : Int) (code : Bool) : ∃ r, text_of.f op code = some r := by
 unfold text_of.f
 repeat' first | refine ite_some ?_ ?_ | exact ⟨_, rfl⟩
set_option maxHeartbeats 4000000 in
set_option maxRecDepth 100000 in
theorem by_calls (wd : ByteArray) (code : Bool) (w : World) :
 Calls Tryd.prog 57 #[.string wd, .bool code] w fun e w' => e = .returned (byVal (byOf wd code)) ∧ Below w.heap.size w w' := by
 have HB := zA (Below.refl w.heap.size w)
 have hu94 := Tryd.underlying94
 go_enter Tryd.func57, Tryd.ntmps57
 go_wp2_with ((with_reducible refine gate_dst (N := 4) rfl ?_); refine box_event (by rfl) (N := 4) (by rfl) (cs := #[.int .i64 0, .string (⟨#[]⟩ : ByteArray), .string (⟨#[]⟩ : ByteArray)]) (t := 94) ?hr ?_; (case hr => go_simp <;> rfl); intro gr hg w1 hbox hb; have BR := zA hbox; have HGr := zA (show w.heap.size ≤ gr by rw [hg]; exact HB.out.size); replace HB := zA (below_step HB.out hb); clear hb hbox hg)
 go_loopg [9] 23 (fun kq v9 w' => ∃ (i : Nat), v9 = .int .i64 (i : Int) ∧ Aside0 (kq + i = 23) ∧ Aside0 (byFrom wd code kq (i : Int) = byOf wd code) ∧ Aside0 (w'.heap[gr]? = some (.cells #[.int .i64 0, .string (⟨#[]⟩ : ByteArray), .string (⟨#[]⟩ : ByteArray)] 94 (0, 0))) ∧ Aside0 (Below w.heap.size w w'))
 case atStart => exact ⟨0, by first | rfl | simp, ⟨rfl⟩, ⟨rfl⟩, BR, HB⟩
 case round =>
  clear BR HB
  obtain ⟨i, rfl, HK, HF, BR, HB⟩ := hrel
  cases gk with
  | zero =>
   have hi : i = 23 := by have := HK.out; omega
   subst hi
   have HN := zA (show byOf wd code = none from HF.out.symm)
   have z1 := bk3 BR.out
   go_wp2_with fail
   refine bodyPost_ret (results_ct rfl _ _ gr 94 #[.int .i64 0, .string (⟨#[]⟩ : ByteArray), .string (⟨#[]⟩ : ByteArray)] (0, 0) _ rfl (blk_put (blk_put (blk_put BR.out 0 _ rfl) 1 _ rfl) 2 _ rfl) Tryd.underlying94 rfl (by kernel_rfl)) rfl ?_
   exact ⟨by rw [HN.out]; rfl, ((HB.out.setCell (p := ⟨gr, 0, none⟩) HGr.out _).setCell (p := ⟨gr, 1, none⟩) HGr.out _).setCell (p := ⟨gr, 2, none⟩) HGr.out _⟩
  | succ k1 =>
   have hi : i < 23 := by have := HK.out; omega
   have d1b := zF (show ((i : Int) < 23) by omega)
   have d1c := zF hi
   obtain ⟨⟨o, w1', fs, is⟩, hof⟩ := text_of_total (i : Int) code
   have HOf := zA hof
   have HFs : Aside0 (byOf wd code = (match isBy wd code (i : Int) with | some r => some r | none => byFrom wd code k1 ((i : Int) + 1))) := ⟨HF.out.symm⟩
   clear hof HF
   cases is with
   | false =>
    have HIs := zA (isBy_false (wd := wd) HOf.out)
    go_wp2_with (first
     | (go_at_call 51; refine (text_of.calls (i : Int) code o w1' fs false _ HOf.out).mono ?_; rintro e w2 ⟨rfl, hb⟩; replace BR := zA (blk_below BR.out hb); replace HB := zA (below_step HB.out hb); clear hb)
     | ((with_reducible refine gate_dst (N := 7) rfl ?_); refine box_event (by rfl) (N := 7) (by rfl) (cs := #[.int .i64 0, .string (⟨#[]⟩ : ByteArray), .string (⟨#[]⟩ : ByteArray)]) (t := 94) ?hr ?_; (case hr => go_simp <;> rfl); intro gf hg w3 hbox hb; have BF := zA hbox; have HGf := zA (show w.heap.size ≤ gf by rw [hg]; exact HB.out.size); have HNe := zA (show gr ≠ gf by rw [hg]; exact Nat.ne_of_lt (blk_lt BR.out)); replace BR := zA (blk_below BR.out hb); replace HB := zA (below_step HB.out hb); clear hb hbox hg; have z3 := bk3 BF.out))
    go_roundg k1
    case measure => have := HK.out; omega
    case rel => exact ⟨i + 1, by go_num, ⟨by have := HK.out; omega⟩, ⟨by rw [HFs.out, HIs.out]; first | rfl | simp⟩, ⟨blk_far (blk_far (blk_far BR.out (p := ⟨gf, 0, none⟩) HNe.out _) (p := ⟨gf, 1, none⟩) HNe.out _) (p := ⟨gf, 2, none⟩) HNe.out _⟩, ⟨((HB.out.setCell (p := ⟨gf, 0, none⟩) HGf.out _).setCell (p := ⟨gf, 1, none⟩) HGf.out _).setCell (p := ⟨gf, 2, none⟩) HGf.out _⟩⟩
   | true =>
    have HIs := zA (isBy_true (wd := wd) HOf.out)
    by_cases c1 : w1'.toList = wd.toList
    ·obtain ⟨c1a, c1b⟩ := qe c1
     have HY := zA (show byOf wd code = some (o, w1', fs) from by rw [HFs.out, HIs.out]; simp only [zC c1])
     clear c1 HFs HIs
     go_wp2_with (first
      | (go_at_call 51; refine (text_of.calls (i : Int) code o w1' fs true _ HOf.out).mono ?_; rintro e w2 ⟨rfl, hb⟩; replace BR := zA (blk_below BR.out hb); replace HB := zA (below_step HB.out hb); clear hb)
      | ((with_reducible refine gate_dst (N := 7) rfl ?_); refine box_event (by rfl) (N := 7) (by rfl) (cs := #[.int .i64 0, .string (⟨#[]⟩ : ByteArray), .string (⟨#[]⟩ : ByteArray)]) (t := 94) ?hr ?_; (case hr => go_simp <;> rfl); intro gf hg w3 hbox hb; have BF := zA hbox; have HGf := zA (show w.heap.size ≤ gf by rw [hg]; exact HB.out.size); have HNe := zA (show gr ≠ gf by rw [hg]; exact Nat.ne_of_lt (blk_lt BR.out)); replace BR := zA (blk_below BR.out hb); replace HB := zA (below_step HB.out hb); clear hb hbox hg; have z3 := bk3 BF.out; have z4 := bk3 BR.out; have hne := HNe.out; have hne2 := Ne.symm HNe.out))
     refine bodyPost_ret (results_ct rfl _ _ gr 94 #[.int .i64 o, .string w1', .string fs] (0, 0) _ rfl (blk_put (blk_put (blk_put (blk_far (blk_far (blk_far BR.out (p := ⟨gf, 0, none⟩) HNe.out _) (p := ⟨gf, 1, none⟩) HNe.out _) (p := ⟨gf, 2, none⟩) HNe.out _) 0 _ rfl) 1 _ rfl) 2 _ rfl) Tryd.underlying94 rfl (by kernel_rfl)) rfl ?_
     exact ⟨by rw [HY.out]; rfl, ((((((HB.out.setCell (p := ⟨gf, 0, none⟩) HGf.out _).setCell (p := ⟨gf, 1, none⟩) HGf.out _).setCell (p := ⟨gf, 2, none⟩) HGf.out _).setCell (p := ⟨gr, 0, none⟩) HGr.out _).setCell (p := ⟨gr, 1, none⟩) HGr.out _).setCell (p := ⟨gr, 2, none⟩) HGr.out _)⟩
    ·obtain ⟨c1a, c1b⟩ := qn c1
     go_wp2_with (first
      | (go_at_call 51; refine (text_of.calls (i : Int) code o w1' fs true _ HOf.out).mono ?_; rintro e w2 ⟨rfl, hb⟩; replace BR := zA (blk_below BR.out hb); replace HB := zA (below_step HB.out hb); clear hb)
      | ((with_reducible refine gate_dst (N := 7) rfl ?_); refine box_event (by rfl) (N := 7) (by rfl) (cs := #[.int .i64 0, .string (⟨#[]⟩ : ByteArray), .string (⟨#[]⟩ : ByteArray)]) (t := 94) ?hr ?_; (case hr => go_simp <;> rfl); intro gf hg w3 hbox hb; have BF := zA hbox; have HGf := zA (show w.heap.size ≤ gf by rw [hg]; exact HB.out.size); have HNe := zA (show gr ≠ gf by rw [hg]; exact Nat.ne_of_lt (blk_lt BR.out)); replace BR := zA (blk_below BR.out hb); replace HB := zA (below_step HB.out hb); clear hb hbox hg; have z3 := bk3 BF.out))
     go_roundg k1
     case measure => have := HK.out; omega
     case rel => exact ⟨i + 1, by go_num, ⟨by have := HK.out; omega⟩, ⟨by rw [HFs.out, HIs.out]; simp only [zD c1]; rfl⟩, ⟨blk_far (blk_far (blk_far BR.out (p := ⟨gf, 0, none⟩) HNe.out _) (p := ⟨gf, 1, none⟩) HNe.out _) (p := ⟨gf, 2, none⟩) HNe.out _⟩, ⟨((HB.out.setCell (p := ⟨gf, 0, none⟩) HGf.out _).setCell (p := ⟨gf, 1, none⟩) HGf.out _).setCell (p := ⟨gf, 2, none⟩) HGf.out _⟩⟩
end Go.Proofs.YtniknpjeknmpjaaDoor.Q
namespace Go.Proofs.YtniknpjeknmpjaaDoor.Q
open Go.RowKit Go.Shelf Go.Proofs.YtniknpjeknmpjaaDoorW.PrintWords Go.Proofs.YtniknpjeknmpjaaDoorW.PrintLast Go.Proofs.YtniknpjeknmpjaaDoorW.PrintMore
set_option linter.unusedVariables false
def nameCut : ByteArray := ⟨#[97, 98, 99, 100, 101, 102, 103, 104, 105, 106, 107, 108, 109, 110, 111, 112, 113, 114, 115, 116, 117, 118, 119, 120, 121, 122, 48, 49, 50, 51, 52, 53, 54, 55, 56, 57]⟩
def strings_Trim.f (a0 a1 : ByteArray) : Option ByteArray := if a0.size ≤ 9223372036854775807 ∧ a1 = nameCut then some ⟨(Lib.trimS a0.data.toList a1.data.toList).toArray⟩ else none
theorem strings_Trim.calls (a0 a1 : ByteArray) (r : ByteArray) (w : World) (h : strings_Trim.f a0 a1 = some r) :
 Calls Tryd.prog 49 #[.string a0, .string a1] w fun e w' => e = .returned (.string r) ∧ Below w.heap.size w w' := by
 unfold strings_Trim.f at h
 split at h
 ·next c =>
  obtain ⟨c0, rfl⟩ := c
  obtain rfl := zI h
  exact Any.strings_Trim_laid Tryd.lays160 (by kernel_rfl) a0 nameCut w c0 (by decide) (ascii_of_all (by decide))
 ·exact absurd h (by simp)
end Go.Proofs.YtniknpjeknmpjaaDoor.Q
namespace Go.Proofs.YtniknpjeknmpjaaDoor.Q
open Go.RowKit Go.Proofs.YtniknpjeknmpjaaDoorW.PrintWords Go.Proofs.YtniknpjeknmpjaaDoorW.PrintLast Go.Proofs.YtniknpjeknmpjaaDoorW.PrintMore
attribute [local go_sem] max2_int min2_int max_two min_two max_three min_three max_four min_four
set_option linter.unusedVariables false
set_option linter.unusedSimpArgs false

def ir_Name.f (a0 : ByteArray) : Option (Bool) := if a0.toList = ([] : List UInt8) then (some false) else (if (a0.size : Int) > 12 then (some false) else (if 0 < (a0.size : Int) then (if (bt a0 0) < 97 then (some false) else ((strings_Trim.f a0 (⟨#[97, 98, 99, 100, 101, 102, 103, 104, 105, 106, 107, 108, 109, 110, 111, 112, 113, 114, 115, 116, 117, 118, 119, 120, 121, 122, 48, 49, 50, 51, 52, 53, 54, 55, 56, 57]⟩ : ByteArray)).bind fun t107 => (some (t107.toList == ([] : List UInt8))))) else (none)))
set_option maxHeartbeats 8000000 in
set_option maxRecDepth 100000 in
theorem ir_Name.calls (a0 : ByteArray) (r : Bool) (w : World) (h : ir_Name.f a0 = some r) :
 Calls Tryd.prog 27 #[.string a0] w fun e w' => e = .returned (.bool r) ∧ Below w.heap.size w w' := by
 have HB := zA (Below.refl w.heap.size w)
 have H := h; clear h; unfold ir_Name.f at H
 by_cases c2 : a0.toList = ([] : List UInt8)
 ·rw [zC c2] at H
  obtain ⟨c2b0, c2b1⟩ := qe c2; clear c2
  obtain rfl := zI H
  go_enter Tryd.func27, Tryd.ntmps27
  go_wp2
  go_ret
  exact ⟨qE, qB⟩
 ·rw [zD c2] at H
  obtain ⟨c2b0, c2b1⟩ := qn c2
  by_cases c3 : (a0.size : Int) > 12
  ·rw [zC c3] at H
   have c3b0 : decide (12 < (a0.size : Int)) = true := zF c3
   have c3b1 : decide (12 < a0.size) = true := zF (by omega)
   clear c3
   obtain rfl := zI H
   go_enter Tryd.func27, Tryd.ntmps27
   go_wp2
   go_ret
   exact ⟨qE, qB⟩
  ·rw [zD c3] at H
   have c3b0 : decide (12 < (a0.size : Int)) = false := zG c3
   have c3b1 : decide (12 < a0.size) = false := zG (by omega)
   clear c3
   by_cases c4 : 0 < (a0.size : Int)
   ·rw [zC c4] at H
    have c4b0 := zF c4
    have c4b1 : decide (0 < a0.size) = true := zF (by omega)
    clear c4
    by_cases c6 : (bt a0 0) < 97
    ·rw [zC c6] at H
     have c6b0 := zF c6
     clear c6
     obtain rfl := zI H
     have p5 : 0 ≤ (0 : Int) := (by omega)
     have q5 : 0 < a0.size := (by have : (0 : Int) < (a0.size : Int) := zB qA; omega)
     have hx5 : ∀ h : 0 < a0.size, ((a0[0]'h).toNat : Int) = bt a0 0 := bt_at a0 0
     clear p5
     have qi5 : (0 < (a0.size : Int)) = True := eq_true (zB qA)
     replace q5 := eq_true q5
     go_enter Tryd.func27, Tryd.ntmps27
     go_wp2
     go_ret
     exact ⟨qE, qB⟩
    ·rw [zD c6] at H
     have c6b0 := zG c6
     clear c6
     replace H := qb H; obtain ⟨t107, A7, H⟩ := H
     obtain rfl := zI H
     have p5 : 0 ≤ (0 : Int) := (by omega)
     have q5 : 0 < a0.size := (by have : (0 : Int) < (a0.size : Int) := zB qA; omega)
     have hx5 : ∀ h : 0 < a0.size, ((a0[0]'h).toNat : Int) = bt a0 0 := bt_at a0 0
     clear p5
     have qi5 : (0 < (a0.size : Int)) = True := eq_true (zB qA)
     replace q5 := eq_true q5
     go_enter Tryd.func27, Tryd.ntmps27
     go_wp2_with (first | ((with_reducible refine gate_callee (f := 49) rfl ?_); refine goesL_ (some 16) rfl rfl Tryd.func49 (by kernel_rfl) rfl #[.string a0, .string (⟨#[97, 98, 99, 100, 101, 102, 103, 104, 105, 106, 107, 108, 109, 110, 111, 112, 113, 114, 115, 116, 117, 118, 119, 120, 121, 122, 48, 49, 50, 51, 52, 53, 54, 55, 56, 57]⟩ : ByteArray)] rfl qL ?_; (with_reducible refine (strings_Trim.calls a0 (⟨#[97, 98, 99, 100, 101, 102, 103, 104, 105, 106, 107, 108, 109, 110, 111, 112, 113, 114, 115, 116, 117, 118, 119, 120, 121, 122, 48, 49, 50, 51, 52, 53, 54, 55, 56, 57]⟩ : ByteArray) t107 _ A7.out).mono ?_); rintro e w8 ⟨rfl, hb⟩; refine ⟨_, rfl, ?_⟩; replace HB := qH hb; (try clear hb)))
     go_ret
     exact ⟨qE, qB⟩
   ·rw [zD c4] at H
    exact absurd H (by simp)

mutual
def cubbyref07_Name.j0 : Nat → ByteArray → Bool → Option (Bool)
 | 0, _, _ => none
 | k + 1, x0, x13 => if x13 = true then (some false) else (cubbyref07_Name.l0 k x0 0)
def cubbyref07_Name.l0 : Nat → ByteArray → Int → Option (Bool)
 | 0, _, _ => none
 | k + 1, x0, x3 => if x3 < (x0.size : Int) then (if 0 ≤ x3 then (if (bt x0 x3) ≥ 97 then (if (bt x0 x3) ≥ 48 then (if ((bt x0 x3) ≤ 122) then (cubbyref07_Name.l0 k x0 (wrap64 (x3 + 1))) else (if ((bt x0 x3) ≤ 57) then (if x3 = 0 then (some false) else (cubbyref07_Name.l0 k x0 (wrap64 (x3 + 1)))) else (some false))) else (if ((bt x0 x3) ≤ 122) then (cubbyref07_Name.l0 k x0 (wrap64 (x3 + 1))) else (some false))) else (if (bt x0 x3) ≥ 48 then (if ((bt x0 x3) ≤ 57) then (if x3 = 0 then (some false) else (cubbyref07_Name.l0 k x0 (wrap64 (x3 + 1)))) else (some false)) else (some false))) else (none)) else (some true)
end
def cubbyref07_Name.f (k : Nat) (a0 : ByteArray) : Option (Bool) := if (a0.size : Int) < 1 then (cubbyref07_Name.j0 k a0 true) else (cubbyref07_Name.j0 k a0 (decide ((a0.size : Int) > 12)))
set_option maxHeartbeats 8000000 in
set_option maxRecDepth 100000 in
theorem cubbyref07_Name.calls (k : Nat) (a0 : ByteArray) (r : Bool) (w : World) (h : cubbyref07_Name.f k a0 = some r) :
 Calls Tryd.prog 34 #[.string a0] w fun e w' => e = .returned (.bool r) ∧ Drawn0 w w' := by
 have H := h; clear h; unfold cubbyref07_Name.f at H
 have HC2 := zA H
 clear H
 go_enter Tryd.func34, Tryd.ntmps34
 go_upto_region 1 with (fail)
 go_cut [13] (fun v13 wc => ∃ (kq : Nat) (x13_1 : Bool), v13 = .bool x13_1 ∧ Aside0 (cubbyref07_Name.j0 kq a0 x13_1 = some r) ∧ Aside0 (kq ≤ k) ∧ Drawn0 w wc)
 case first =>
  have H := HC2.out
  clear HC2
  by_cases c3 : (a0.size : Int) < 1
  ·rw [zC c3] at H
   have c3b0 := zF c3
   have c3b1 : decide (a0.size < 1) = true := zF (by omega)
   clear c3
   (first | rw [c3b0] | (simp only [i64_w, i32_w]; rw [c3b0]) | skip)
   have H' := zA H
   clear H
   go_wp2
   go_meet
   case rel => exact ⟨_, (true), qT, H', ⟨qO⟩, qD⟩
  ·rw [zD c3] at H
   have c3b0 := zG c3
   have c3b1 : decide (a0.size < 1) = false := zG (by omega)
   clear c3
   (first | rw [c3b0] | (simp only [i64_w, i32_w]; rw [c3b0]) | skip)
   have H' := zA H
   clear H
   go_wp2
   go_meet
   case rel => exact ⟨_, (decide ((a0.size : Int) > 12)), qT, H', ⟨qO⟩, qD⟩
 case rest =>
  clear HC2
  obtain ⟨kq, x13_1, rfl, HA, HJ1, ⟨mc1, rfl⟩⟩ := hcut
  cases kq with
  | zero => exact absurd HA.out (by simp [cubbyref07_Name.j0])
  | succ kj1 =>
   have H := HA.out
   clear HA
   simp only [cubbyref07_Name.j0] at H
   by_cases c4 : x13_1 = true
   ·subst c4
    have H1 : (some false) = some r := by rw [zC rfl] at H; exact H
    clear H
    have H := H1
    clear H1
    obtain rfl := zI H
    go_wp2
    go_ret
    exact ⟨by first | rfl | (simp; done) | (simp [*]; done), qD⟩
   ·replace c4 := Bool.eq_false_iff.mpr c4
    subst c4
    have H1 : (cubbyref07_Name.l0 kj1 a0 0) = some r := by rw [zD (show ¬ (false = true) by decide)] at H; exact H
    clear H
    have H := H1
    clear H1
    have H' := zA H
    clear H
    go_wp2
    go_loopg [3] kj1 (fun kq v3 w' => ∃ (x3_2 : Int), v3 = .int .i64 x3_2 ∧ Aside0 (cubbyref07_Name.l0 kq a0 x3_2 = some r) ∧ Aside0 (kq ≤ kj1) ∧ Drawn0 w w')
    case atStart => exact ⟨(0), qT, H', ⟨Nat.le_refl _⟩, qD⟩
    case round =>
     clear H'
     obtain ⟨x3_2, rfl, HA, HK2, ⟨m2, rfl⟩⟩ := hrel
     cases gk with
     | zero => exact absurd HA.out (by simp [cubbyref07_Name.l0])
     | succ k2 =>
      have H := HA.out
      clear HA
      simp only [cubbyref07_Name.l0] at H
      by_cases c5 : x3_2 < (a0.size : Int)
      ·rw [zC c5] at H
       have c5b0 := zF c5
       clear c5
       by_cases c6 : 0 ≤ x3_2
       ·rw [zC c6] at H
        have c6b0 := zF c6
        clear c6
        by_cases c8 : (bt a0 x3_2) ≥ 97
        ·rw [zC c8] at H
         have c8b0 : decide (97 ≤ (bt a0 x3_2)) = true := zF c8
         clear c8
         by_cases c11 : (bt a0 x3_2) ≥ 48
         ·rw [zC c11] at H
          have c11b0 : decide (48 ≤ (bt a0 x3_2)) = true := zF c11
          clear c11
          by_cases c13 : ((bt a0 x3_2) ≤ 122)
          ·rw [zC c13] at H
           have c13b0 : decide ((bt a0 x3_2) ≤ 122) = true := zF c13
           clear c13
           have H' := zA H
           clear H
           have p7 : 0 ≤ (x3_2 : Int) := zB qA
           have q7 : x3_2 < (a0.size : Int) := zB qA
           have hx7 := bt_at a0 x3_2
           replace p7 := eq_true p7
           replace q7 := eq_true q7
           have p9 : 0 ≤ (x3_2 : Int) := zB qA
           have q9 : x3_2 < (a0.size : Int) := zB qA
           have hx9 := bt_at a0 x3_2
           replace p9 := eq_true p9
           replace q9 := eq_true q9
           have p10 : 0 ≤ (x3_2 : Int) := zB qA
           have q10 : x3_2 < (a0.size : Int) := zB qA
           have hx10 := bt_at a0 x3_2
           replace p10 := eq_true p10
           replace q10 := eq_true q10
           have p12 : 0 ≤ (x3_2 : Int) := zB qA
           have q12 : x3_2 < (a0.size : Int) := zB qA
           have hx12 := bt_at a0 x3_2
           replace p12 := eq_true p12
           replace q12 := eq_true q12
           go_wp2
           go_roundg k2
           case measure => have := HJ1.out; have := HK2.out; omega
           case rel => exact ⟨(wrap64 (x3_2 + 1)), qT, H', ⟨by have := HJ1.out; have := HK2.out; omega⟩, qD⟩
          ·rw [zD c13] at H
           have c13b0 : decide ((bt a0 x3_2) ≤ 122) = false := zG c13
           clear c13
           by_cases c14 : ((bt a0 x3_2) ≤ 57)
           ·rw [zC c14] at H
            have c14b0 : decide ((bt a0 x3_2) ≤ 57) = true := zF c14
            clear c14
            by_cases c15 : x3_2 = 0
            ·rw [zC c15] at H
             obtain ⟨c15b0, c15b1⟩ := qe c15; clear c15
             obtain rfl := zI H
             have p7 : 0 ≤ (x3_2 : Int) := zB qA
             have q7 : x3_2 < (a0.size : Int) := zB qA
             have hx7 := bt_at a0 x3_2
             replace p7 := eq_true p7
             replace q7 := eq_true q7
             have p9 : 0 ≤ (x3_2 : Int) := zB qA
             have q9 : x3_2 < (a0.size : Int) := zB qA
             have hx9 := bt_at a0 x3_2
             replace p9 := eq_true p9
             replace q9 := eq_true q9
             have p10 : 0 ≤ (x3_2 : Int) := zB qA
             have q10 : x3_2 < (a0.size : Int) := zB qA
             have hx10 := bt_at a0 x3_2
             replace p10 := eq_true p10
             replace q10 := eq_true q10
             have p12 : 0 ≤ (x3_2 : Int) := zB qA
             have q12 : x3_2 < (a0.size : Int) := zB qA
             have hx12 := bt_at a0 x3_2
             replace p12 := eq_true p12
             replace q12 := eq_true q12
             go_wp2
             go_ret
             exact ⟨by first | rfl | (simp; done) | (simp [*]; done), qD⟩
            ·rw [zD c15] at H
             obtain ⟨c15b0, c15b1⟩ := qn c15
             have H' := zA H
             clear H
             have p7 : 0 ≤ (x3_2 : Int) := zB qA
             have q7 : x3_2 < (a0.size : Int) := zB qA
             have hx7 := bt_at a0 x3_2
             replace p7 := eq_true p7
             replace q7 := eq_true q7
             have p9 : 0 ≤ (x3_2 : Int) := zB qA
             have q9 : x3_2 < (a0.size : Int) := zB qA
             have hx9 := bt_at a0 x3_2
             replace p9 := eq_true p9
             replace q9 := eq_true q9
             have p10 : 0 ≤ (x3_2 : Int) := zB qA
             have q10 : x3_2 < (a0.size : Int) := zB qA
             have hx10 := bt_at a0 x3_2
             replace p10 := eq_true p10
             replace q10 := eq_true q10
             have p12 : 0 ≤ (x3_2 : Int) := zB qA
             have q12 : x3_2 < (a0.size : Int) := zB qA
             have hx12 := bt_at a0 x3_2
             replace p12 := eq_true p12
             replace q12 := eq_true q12
             go_wp2
             go_roundg k2
             case measure => have := HJ1.out; have := HK2.out; omega
             case rel => exact ⟨(wrap64 (x3_2 + 1)), qT, H', ⟨by have := HJ1.out; have := HK2.out; omega⟩, qD⟩
           ·rw [zD c14] at H
            have c14b0 : decide ((bt a0 x3_2) ≤ 57) = false := zG c14
            clear c14
            obtain rfl := zI H
            have p7 : 0 ≤ (x3_2 : Int) := zB qA
            have q7 : x3_2 < (a0.size : Int) := zB qA
            have hx7 := bt_at a0 x3_2
            replace p7 := eq_true p7
            replace q7 := eq_true q7
            have p9 : 0 ≤ (x3_2 : Int) := zB qA
            have q9 : x3_2 < (a0.size : Int) := zB qA
            have hx9 := bt_at a0 x3_2
            replace p9 := eq_true p9
            replace q9 := eq_true q9
            have p10 : 0 ≤ (x3_2 : Int) := zB qA
            have q10 : x3_2 < (a0.size : Int) := zB qA
            have hx10 := bt_at a0 x3_2
            replace p10 := eq_true p10
            replace q10 := eq_true q10
            have p12 : 0 ≤ (x3_2 : Int) := zB qA
            have q12 : x3_2 < (a0.size : Int) := zB qA
            have hx12 := bt_at a0 x3_2
            replace p12 := eq_true p12
            replace q12 := eq_true q12
            go_wp2
            go_ret
            exact ⟨by first | rfl | (simp; done) | (simp [*]; done), qD⟩
         ·rw [zD c11] at H
          have c11b0 : decide (48 ≤ (bt a0 x3_2)) = false := zG c11
          clear c11
          by_cases c16 : ((bt a0 x3_2) ≤ 122)
          ·rw [zC c16] at H
           have c16b0 : decide ((bt a0 x3_2) ≤ 122) = true := zF c16
           clear c16
           have H' := zA H
           clear H
           have p7 : 0 ≤ (x3_2 : Int) := zB qA
           have q7 : x3_2 < (a0.size : Int) := zB qA
           have hx7 := bt_at a0 x3_2
           replace p7 := eq_true p7
           replace q7 := eq_true q7
           have p9 : 0 ≤ (x3_2 : Int) := zB qA
           have q9 : x3_2 < (a0.size : Int) := zB qA
           have hx9 := bt_at a0 x3_2
           replace p9 := eq_true p9
           replace q9 := eq_true q9
           have p10 : 0 ≤ (x3_2 : Int) := zB qA
           have q10 : x3_2 < (a0.size : Int) := zB qA
           have hx10 := bt_at a0 x3_2
           replace p10 := eq_true p10
           replace q10 := eq_true q10
           go_wp2
           go_roundg k2
           case measure => have := HJ1.out; have := HK2.out; omega
           case rel => exact ⟨(wrap64 (x3_2 + 1)), qT, H', ⟨by have := HJ1.out; have := HK2.out; omega⟩, qD⟩
          ·rw [zD c16] at H
           have c16b0 : decide ((bt a0 x3_2) ≤ 122) = false := zG c16
           clear c16
           obtain rfl := zI H
           have p7 : 0 ≤ (x3_2 : Int) := zB qA
           have q7 : x3_2 < (a0.size : Int) := zB qA
           have hx7 := bt_at a0 x3_2
           replace p7 := eq_true p7
           replace q7 := eq_true q7
           have p9 : 0 ≤ (x3_2 : Int) := zB qA
           have q9 : x3_2 < (a0.size : Int) := zB qA
           have hx9 := bt_at a0 x3_2
           replace p9 := eq_true p9
           replace q9 := eq_true q9
           have p10 : 0 ≤ (x3_2 : Int) := zB qA
           have q10 : x3_2 < (a0.size : Int) := zB qA
           have hx10 := bt_at a0 x3_2
           replace p10 := eq_true p10
           replace q10 := eq_true q10
           go_wp2
           go_ret
           exact ⟨by first | rfl | (simp; done) | (simp [*]; done), qD⟩
        ·rw [zD c8] at H
         have c8b0 : decide (97 ≤ (bt a0 x3_2)) = false := zG c8
         clear c8
         by_cases c18 : (bt a0 x3_2) ≥ 48
         ·rw [zC c18] at H
          have c18b0 : decide (48 ≤ (bt a0 x3_2)) = true := zF c18
          clear c18
          by_cases c20 : ((bt a0 x3_2) ≤ 57)
          ·rw [zC c20] at H
           have c20b0 : decide ((bt a0 x3_2) ≤ 57) = true := zF c20
           clear c20
           by_cases c21 : x3_2 = 0
           ·rw [zC c21] at H
            obtain ⟨c21b0, c21b1⟩ := qe c21; clear c21
            obtain rfl := zI H
            have p7 : 0 ≤ (x3_2 : Int) := zB qA
            have q7 : x3_2 < (a0.size : Int) := zB qA
            have hx7 := bt_at a0 x3_2
            replace p7 := eq_true p7
            replace q7 := eq_true q7
            have p17 : 0 ≤ (x3_2 : Int) := zB qA
            have q17 : x3_2 < (a0.size : Int) := zB qA
            have hx17 := bt_at a0 x3_2
            replace p17 := eq_true p17
            replace q17 := eq_true q17
            have p19 : 0 ≤ (x3_2 : Int) := zB qA
            have q19 : x3_2 < (a0.size : Int) := zB qA
            have hx19 := bt_at a0 x3_2
            replace p19 := eq_true p19
            replace q19 := eq_true q19
            go_wp2
            go_ret
            exact ⟨by first | rfl | (simp; done) | (simp [*]; done), qD⟩
           ·rw [zD c21] at H
            obtain ⟨c21b0, c21b1⟩ := qn c21
            have H' := zA H
            clear H
            have p7 : 0 ≤ (x3_2 : Int) := zB qA
            have q7 : x3_2 < (a0.size : Int) := zB qA
            have hx7 := bt_at a0 x3_2
            replace p7 := eq_true p7
            replace q7 := eq_true q7
            have p17 : 0 ≤ (x3_2 : Int) := zB qA
            have q17 : x3_2 < (a0.size : Int) := zB qA
            have hx17 := bt_at a0 x3_2
            replace p17 := eq_true p17
            replace q17 := eq_true q17
            have p19 : 0 ≤ (x3_2 : Int) := zB qA
            have q19 : x3_2 < (a0.size : Int) := zB qA
            have hx19 := bt_at a0 x3_2
            replace p19 := eq_true p19
            replace q19 := eq_true q19
            go_wp2
            go_roundg k2
            case measure => have := HJ1.out; have := HK2.out; omega
            case rel => exact ⟨(wrap64 (x3_2 + 1)), qT, H', ⟨by have := HJ1.out; have := HK2.out; omega⟩, qD⟩
          ·rw [zD c20] at H
           have c20b0 : decide ((bt a0 x3_2) ≤ 57) = false := zG c20
           clear c20
           obtain rfl := zI H
           have p7 : 0 ≤ (x3_2 : Int) := zB qA
           have q7 : x3_2 < (a0.size : Int) := zB qA
           have hx7 := bt_at a0 x3_2
           replace p7 := eq_true p7
           replace q7 := eq_true q7
           have p17 : 0 ≤ (x3_2 : Int) := zB qA
           have q17 : x3_2 < (a0.size : Int) := zB qA
           have hx17 := bt_at a0 x3_2
           replace p17 := eq_true p17
           replace q17 := eq_true q17
           have p19 : 0 ≤ (x3_2 : Int) := zB qA
           have q19 : x3_2 < (a0.size : Int) := zB qA
           have hx19 := bt_at a0 x3_2
           replace p19 := eq_true p19
           replace q19 := eq_true q19
           go_wp2
           go_ret
           exact ⟨by first | rfl | (simp; done) | (simp [*]; done), qD⟩
         ·rw [zD c18] at H
          have c18b0 : decide (48 ≤ (bt a0 x3_2)) = false := zG c18
          clear c18
          obtain rfl := zI H
          have p7 : 0 ≤ (x3_2 : Int) := zB qA
          have q7 : x3_2 < (a0.size : Int) := zB qA
          have hx7 := bt_at a0 x3_2
          replace p7 := eq_true p7
          replace q7 := eq_true q7
          have p17 : 0 ≤ (x3_2 : Int) := zB qA
          have q17 : x3_2 < (a0.size : Int) := zB qA
          have hx17 := bt_at a0 x3_2
          replace p17 := eq_true p17
          replace q17 := eq_true q17
          go_wp2
          go_ret
          exact ⟨by first | rfl | (simp; done) | (simp [*]; done), qD⟩
       ·rw [zD c6] at H
        exact absurd H (by simp)
      ·rw [zD c5] at H
       have c5b0 := zG c5
       clear c5
       obtain rfl := zI H
       go_wp2
       go_ret
       exact ⟨by first | rfl | (simp; done) | (simp [*]; done), qD⟩
end Go.Proofs.YtniknpjeknmpjaaDoor.Q
namespace Go.Proofs.YtniknpjeknmpjaaDoor.PlainName
open Go Go.RowKit Go.Proofs.YtniknpjeknmpjaaDoorW.PrintWords Go.Proofs.YtniknpjeknmpjaaDoorW.PrintMore Go.Proofs.YtniknpjeknmpjaaDoor.Q Go.Proofs.YtniknpjeknmpjaaDoor.Plain
set_option linter.unusedVariables false
set_option linter.unusedSimpArgs false
def lowD (x : UInt8) : Bool := decide ((97 ≤ x.toNat ∧ x.toNat ≤ 122) ∨ (48 ≤ x.toNat ∧ x.toNat ≤ 57))
def nameOk (s : ByteArray) : Bool := decide (1 ≤ s.size ∧ s.size ≤ 12 ∧ 97 ≤ bt s 0) && s.data.toList.all lowD
theorem cut_has (x : UInt8) : nameCut.data.toList.contains x = lowD x := by
 have h : ∀ n, n < 256 → nameCut.data.toList.contains (UInt8.ofNat n) = lowD (UInt8.ofNat n) := by decide +kernel
 have := h x.toNat x.toNat_lt
 rwa [UInt8.ofNat_toNat] at this
theorem dw_nil {p : UInt8 → Bool} : ∀ {l : List UInt8}, l.dropWhile p = [] ↔ ∀ x, x ∈ l → p x = true
 | [] => by simp
 | a :: t => by
  rw [List.dropWhile_cons]
  by_cases h : p a = true
  ·rw [zC h, dw_nil (l := t)]
   constructor
   ·intro g x hx
    rcases List.mem_cons.1 hx with rfl | hx
    ·exact h
    ·exact g x hx
   ·exact fun g x hx => g x (List.mem_cons_of_mem _ hx)
  ·rw [zD h]
   constructor
   ·intro g
    exact absurd g (by simp)
   ·intro g
    exact absurd (g a List.mem_cons_self) h
theorem trim_nil (l cs : List UInt8) : Lib.trimS l cs = [] ↔ l.all (cs.contains ·) = true := by
 unfold Lib.trimS Lib.trimLeftS Lib.trimRightS
 constructor
 ·intro h
  rw [dw_nil] at h
  rw [List.all_eq_true]
  intro x hx
  have h2 : x ∈ l.reverse := List.mem_reverse.2 hx
  rw [← List.takeWhile_append_dropWhile (p := fun x => cs.contains x) (l := l.reverse)] at h2
  rcases List.mem_append.1 h2 with h3 | h3
  ·exact (List.all_eq_true.1 (List.all_takeWhile (p := fun x => cs.contains x) (l := l.reverse))) x h3
  ·exact h x (List.mem_reverse.2 h3)
 ·intro h
  have h1 : l.reverse.dropWhile (cs.contains ·) = [] := by
   rw [dw_nil]
   intro x hx
   exact List.all_eq_true.1 h x (List.mem_reverse.1 hx)
  rw [h1]
  rfl
theorem size_list (s : ByteArray) : s.data.toList.length = s.size := by simp
theorem bt_get {s : ByteArray} {j : Nat} (h : j < s.data.toList.length) : bt s (j : Int) = ((s.data.toList[j]).toNat : Int) := by
 have hs := size_list s
 unfold bt
 rw [dif_pos (by omega)]
 rfl
theorem name_eq (s : ByteArray) : ir_Name.f s = some (nameOk s) := by
 have hs := size_list s
 unfold ir_Name.f
 rw [toList_data]
 by_cases h0 : s.data.toList = []
 ·have : s.size = 0 := by
   rw [h0] at hs
   exact hs.symm
  rw [zC h0]
  unfold nameOk
  rw [zG (by omega)]
  rfl
 ·have h1 : 0 < s.size := by
   rw [← hs]
   exact List.length_pos_iff.2 h0
  rw [zD h0]
  by_cases h2 : (s.size : Int) > 12
  ·rw [zC h2]
   unfold nameOk
   rw [zG (by omega)]
   rfl
  ·rw [zD h2, zC (by omega)]
   by_cases h3 : bt s 0 < 97
   ·rw [zC h3]
    unfold nameOk
    rw [zG (by omega)]
    rfl
   ·rw [zD h3]
    unfold strings_Trim.f
    rw [zC ⟨by omega, rfl⟩]
    simp only [zJ]
    rw [toList_data]
    unfold nameOk
    rw [zF (by omega), Bool.true_and, List.toList_toArray]
    congr 1
    have hc : s.data.toList.all (nameCut.data.toList.contains ·) = s.data.toList.all lowD := by
     congr 1
     funext x
     exact cut_has x
    have ht := trim_nil s.data.toList nameCut.data.toList
    rw [hc] at ht
    by_cases ha : s.data.toList.all lowD = true
    ·rw [ha]
     exact beq_iff_eq.2 (ht.2 ha)
    ·rw [Bool.not_eq_true _ |>.mp ha]
     exact beq_eq_false_iff_ne.2 fun e => ha (ht.1 e)
def restOk (s : ByteArray) (j : Nat) : Bool := (s.data.toList.drop j).all lowD && decide (j = 0 → 97 ≤ bt s 0)
theorem refname_loop (s : ByteArray) (hl : s.size ≤ 12) : ∀ (d j : Nat), s.size - j = d → j ≤ s.size → (j = 0 → 0 < s.size) → Ev (fun k => cubbyref07_Name.l0 k s (j : Int)) (restOk s j) := by
 have hs := size_list s
 intro d
 induction d with
 | zero =>
  intro j hd hj h0
  have : restOk s j = true := by
   unfold restOk
   rw [List.drop_eq_nil_of_le (by omega)]
   simp
   omega
  rw [this]
  exact Ev.step (f := fun _ => some true) (fun k => by simp only [cubbyref07_Name.l0]; rw [zD (by omega)]) (Ev.now _)
 | succ d ih =>
  intro j hd hj h0
  have hlt : j < s.data.toList.length := by omega
  have hb := bt_get hlt
  have hR : restOk s j = (lowD (s.data.toList[j]) && decide (j = 0 → 97 ≤ bt s 0) && restOk s (j + 1)) := by
   unfold restOk
   rw [drop_cons hlt]
   simp
   cases lowD s.data.toList[j] <;> cases (List.drop (j + 1) s.data.toList).all lowD <;> simp
  have hlow : lowD (s.data.toList[j]) = decide ((97 ≤ bt s (j : Int) ∧ bt s (j : Int) ≤ 122) ∨ (48 ≤ bt s (j : Int) ∧ bt s (j : Int) ≤ 57)) := by
   unfold lowD
   rw [hb]
   apply decide_eq_decide.2
   omega
  have hj0 : j = 0 → bt s (j : Int) = bt s 0 := by
   rintro rfl
   rfl
  rw [hR, hlow]
  have hstep : ∀ k, cubbyref07_Name.l0 (k + 1) s (j : Int) = (if (97 ≤ bt s (j : Int) ∧ bt s (j : Int) ≤ 122) ∨ ((48 ≤ bt s (j : Int) ∧ bt s (j : Int) ≤ 57) ∧ j ≠ 0) then cubbyref07_Name.l0 k s ((j + 1 : Nat) : Int) else some false) := by
   intro k
   simp only [cubbyref07_Name.l0]
   rw [zC (by omega : (j : Int) < (s.size : Int)), zC (by omega : (0 : Int) ≤ (j : Int)), wrap_nat (by omega)]
   repeat' split
   all_goals first
    | rfl
    | omega
  by_cases c : (97 ≤ bt s (j : Int) ∧ bt s (j : Int) ≤ 122) ∨ ((48 ≤ bt s (j : Int) ∧ bt s (j : Int) ≤ 57) ∧ j ≠ 0)
  ·refine Ev.step (fun k => (hstep k).trans (zC c)) ?_
   rw [zF (by omega), zF (by intro h; have := hj0 h; omega), Bool.true_and, Bool.true_and]
   exact ih (j + 1) (by omega) (by omega) (by omega)
  ·refine Ev.step (f := fun _ => some false) (fun k => (hstep k).trans (zD c)) ?_
   have : (decide ((97 ≤ bt s (j : Int) ∧ bt s (j : Int) ≤ 122) ∨ (48 ≤ bt s (j : Int) ∧ bt s (j : Int) ≤ 57)) && decide (j = 0 → 97 ≤ bt s 0)) = false := by
    by_cases c1 : (97 ≤ bt s (j : Int) ∧ bt s (j : Int) ≤ 122) ∨ (48 ≤ bt s (j : Int) ∧ bt s (j : Int) ≤ 57)
    ·rw [zG (p := (j = 0 → 97 ≤ bt s 0)) (fun h => by
      have h9 : j = 0 := by omega
      have := hj0 h9
      have := h h9
      omega), Bool.and_false]
    ·rw [zG c1, Bool.false_and]
   rw [this, Bool.false_and]
   exact Ev.now _
theorem refname_ev (s : ByteArray) : Ev (fun k => cubbyref07_Name.f k s) (nameOk s) := by
 have hyes : (s.size < 1 ∨ 12 < s.size) → Ev (fun k => cubbyref07_Name.j0 k s true) (nameOk s) := fun h => by
  have : nameOk s = false := by
   unfold nameOk
   rw [zG (by omega)]
   rfl
  rw [this]
  exact Ev.step (f := fun _ => some false) (fun k => by simp only [cubbyref07_Name.j0, if_true]) (Ev.now _)
 by_cases h1 : (s.size : Int) < 1
 ·exact Ev.congr (fun k => by unfold cubbyref07_Name.f; rw [zC h1]) (hyes (by omega))
 refine Ev.congr (f := fun k => cubbyref07_Name.j0 k s (decide ((s.size : Int) > 12))) (fun k => by unfold cubbyref07_Name.f; rw [zD h1]) ?_
 by_cases h2 : (s.size : Int) > 12
 ·rw [zF h2]
  exact hyes (by omega)
 ·rw [zG h2]
  refine Ev.step (f := fun k => cubbyref07_Name.l0 k s ((0 : Nat) : Int)) (fun k => by simp only [cubbyref07_Name.j0]; rw [zD (by simp)]; rfl) ?_
  have := refname_loop s (by omega) s.size 0 (by omega) (by omega) (by omega)
  have hR : restOk s 0 = nameOk s := by
   unfold restOk nameOk
   rw [List.drop_zero, Bool.and_comm]
   congr 1
   apply decide_eq_decide.2
   constructor
   ·intro h
    exact ⟨by omega, by omega, h rfl⟩
   ·intro h _
    exact h.2.2
  rw [← hR]
  exact this
end Go.Proofs.YtniknpjeknmpjaaDoor.PlainName
namespace Go.Proofs.YtniknpjeknmpjaaDoor.Q
open Go.RowKit Go.Shelf Go.Proofs.YtniknpjeknmpjaaDoor.Plain Go.Proofs.YtniknpjeknmpjaaDoor.PlainName Go.Proofs.YtniknpjeknmpjaaDoorW.PrintWords Go.Proofs.YtniknpjeknmpjaaDoorW.PrintLast Go.Proofs.YtniknpjeknmpjaaDoorW.PrintMore
set_option linter.unusedVariables false
set_option linter.unusedSimpArgs false
theorem iter_cells2 {w : World} {k0 : Nat} {s : ByteArray} {p q : Nat} (hi : w.heap[k0]? = some (.stringIter s p)) {k t : Nat} {cs : Array Value} {fr : Nat × Nat} (hk : w.heap[k]? = some (.cells cs t fr)) : (w.iterAt k0 s q).heap[k]? = some (.cells cs t fr) := by
 refine (Lib.iterAt_other w k0 k s q (fun e => ?_)).trans hk
 subst e
 have := hi.symm.trans hk
 simp at this
def setF (c : UInt8) (n : Int) (x : SIns) : SIns := if c = 68 then { x with f1 := n } else if c = 65 then { x with f2 := n } else if c = 66 then { x with f3 := n } else x
def fillR (ws : List ByteArray) : List UInt8 → Nat → SIns → Int × SIns
 | [], _, x => (0, x)
 | c :: r, at_, x =>
  if c = 78 then (match ws[at_]? with | some t => if nameOk t = true then fillR ws r (at_ + 1) { x with f4 := t } else (80, x) | none => (80, x))
  else if c = 76 then (match (ws.drop at_).mapM numOf with | some l => fillR ws r at_ { x with f5 := x.f5 ++ l } | none => (81, x))
  else (match ws[at_]? with | some t => (match numOf t with | some n => fillR ws r (at_ + 1) (setF c n x) | none => (81, x)) | none => (81, x))
def wants : List UInt8 → Nat
 | [] => 0
 | c :: r => (if c = 76 then 0 else 1) + wants r
def WordsAt (gw o : Nat) (ws : List ByteArray) (w : World) : Prop := ∃ cs : Array Value, w.heap[gw]? = some (.cells cs 9 (0, 0)) ∧ ∀ (i : Nat) t, ws[i]? = some t → cs[o + i]? = some (.string t)
theorem WordsAt.cell {gw o : Nat} {ws : List ByteArray} {w : World} (h : WordsAt gw o ws w) {i : Nat} {t : ByteArray} (ht : ws[i]? = some t) : w.cell? ⟨gw, o + i, none⟩ = some (.string t) := by
 obtain ⟨cs, hk, hc⟩ := h
 exact (blk_cell hk (o + i)).trans (hc i t ht)
theorem WordsAt.low {gw o D : Nat} {ws : List ByteArray} {w w' : World} (h : WordsAt gw o ws w) (hg : gw < D) (hb : Below D w w') : WordsAt gw o ws w' := by
 obtain ⟨cs, hk, hc⟩ := h
 exact ⟨cs, (hb.block gw hg).trans hk, hc⟩
theorem WordsAt.tail {gw o : Nat} {a : ByteArray} {ws : List ByteArray} {w : World} (h : WordsAt gw o (a :: ws) w) : WordsAt gw (o + 1) ws w := by
 obtain ⟨cs, hk, hc⟩ := h
 exact ⟨cs, hk, fun i t ht => by have := hc (i + 1) t (by simpa using ht); rwa [show o + (i + 1) = o + 1 + i by omega] at this⟩
structure FillAt (D gx : Nat) (x : SIns) (w : World) : Prop where
 ge : D ≤ gx
 at_ : ∃ v5, w.heap[gx]? = some (.cells #[.int .i64 x.f0, .int .i64 x.f1, .int .i64 x.f2, .int .i64 x.f3, .string x.f4, v5] 43 (0, 0)) ∧ Kd.R (Kd.int .i64) 3 w D (fun _ => True) v5 x.f5
section
variable {D gx gf k0 gw : Nat} {cf : Array Value} {fs : ByteArray} {ws : List ByteArray} {w0 w w1 w2 : World} {i : Nat} {x : SIns}
theorem FillAt.below (h : FillAt D gx x w) (hb : Below w.heap.size w w1) : FillAt D gx x w1 := by
 obtain ⟨ge, v5, hk, hr⟩ := h
 exact ⟨ge, v5, blk_below hk hb, Kd.R_below hr hb⟩
structure FillSt (gx gf k0 : Nat) (cf : Array Value) (fs : ByteArray) (w0 w : World) (i : Nat) (x : SIns) (w' : World) : Prop where
 hD : w0.heap.size ≤ w.heap.size
 hx : gx < w.heap.size
 hf : w.heap.size ≤ gf
 hi : w.heap.size ≤ k0
 fx : FillAt w0.heap.size gx x w'
 it : w'.heap[k0]? = some (.stringIter fs i)
 bf : w'.heap[gf]? = some (.cells cf 94 (0, 0))
 bl : Below w0.heap.size w0 w'
theorem FillSt.next (s : FillSt gx gf k0 cf fs w0 w i x w1) (j : Nat) : FillSt gx gf k0 cf fs w0 w j x (w1.iterAt k0 fs j) where
 hD := s.hD
 hx := s.hx
 hf := s.hf
 hi := s.hi
 fx := by
  obtain ⟨ge, v5, hk, hr⟩ := s.fx
  refine ⟨ge, v5, iter_cells2 s.it hk, Kd.R_mono (Kd.R_step (Kd.R_bound hr) (fun k hk _ => ?_)) (fun k hk => hk.1)⟩
  obtain ⟨_, _, _, q, hq, cells, hk2⟩ := hk
  exact (iter_cells2 s.it hk2).trans hk2.symm
 it := Lib.iterAt_heap w1 k0 fs i j s.it
 bf := iter_cells2 s.it s.bf
 bl := Lib.below_iterAt s.bl (Nat.le_trans s.hD s.hi) fs j
theorem FillSt.later (s : FillSt gx gf k0 cf fs w0 w i x w1) (hb : Below w1.heap.size w1 w2) : FillSt gx gf k0 cf fs w0 w i x w2 where
 hD := s.hD
 hx := s.hx
 hf := s.hf
 hi := s.hi
 fx := s.fx.below hb
 it := (hb.block k0 (Array.getElem?_eq_some_iff.1 s.it).1).trans s.it
 bf := blk_below s.bf hb
 bl := below_step s.bl hb
theorem FillSt.gx_ne (s : FillSt gx gf k0 cf fs w0 w i x w1) : gf ≠ gx ∧ k0 ≠ gx := ⟨by have := s.hx; have := s.hf; omega, by have := s.hx; have := s.hi; omega⟩
theorem other_iter {k0 g j p : Nat} {u : Value} {s : ByteArray} (h : w.heap[k0]? = some (.stringIter s p)) (hn : k0 ≠ g) : (w.setCell ⟨g, j, none⟩ u).heap[k0]? = some (.stringIter s p) := (heap_setCell_other _ _ _ _ hn).trans h
theorem FillSt.set {y : SIns} (s : FillSt gx gf k0 cf fs w0 w i x w1) (j : Nat) (u : Value) (h5 : y.f5 = x.f5) (hc : ∀ v5 : Value, (#[Value.int .i64 x.f0, .int .i64 x.f1, .int .i64 x.f2, .int .i64 x.f3, .string x.f4, v5] : Array Value).setIfInBounds j u = #[.int .i64 y.f0, .int .i64 y.f1, .int .i64 y.f2, .int .i64 y.f3, .string y.f4, v5]) :
 FillSt gx gf k0 cf fs w0 w i y (w1.setCell ⟨gx, j, none⟩ u) where
 hD := s.hD
 hx := s.hx
 hf := s.hf
 hi := s.hi
 fx := by
  obtain ⟨ge, v5, hk, hr⟩ := s.fx
  refine ⟨ge, v5, ?_, ?_⟩
  ·rw [← hc v5]; exact blk_put hk j u rfl
  ·rw [h5]; exact Kd.R_set hr hk (by decide) j u
 it := other_iter s.it s.gx_ne.2
 bf := blk_far s.bf (p := ⟨gx, j, none⟩) s.gx_ne.1 _
 bl := s.bl.setCell (p := ⟨gx, j, none⟩) s.fx.ge u
theorem FillSt.app {v5 v1 : Value} {n : Int} (s : FillSt gx gf k0 cf fs w0 w i x w1) (hk : w1.heap[gx]? = some (.cells #[.int .i64 x.f0, .int .i64 x.f1, .int .i64 x.f2, .int .i64 x.f3, .string x.f4, v5] 43 (0, 0))) (hr : Kd.R (Kd.int .i64) 3 w1 w0.heap.size (fun _ => True) v5 x.f5)
 (ho : Kd.R (Kd.int .i64) 3 w2 w0.heap.size (fun _ => True) v1 (x.f5 ++ [n])) (hb : Below w0.heap.size w1 w2) (hg : w1.grownBy w2 v5.ownBlock) : FillSt gx gf k0 cf fs w0 w i { x with f5 := x.f5 ++ [n] } (w2.setCell ⟨gx, 5, none⟩ v1) := by
 have keep : ∀ (k : Nat) (o : Obj), w1.heap[k]? = some o → (∀ cs, o ≠ .cells cs 3 (0, 0)) → w2.heap[k]? = some o := fun k o hk2 hn => (hg.block k (Array.getElem?_eq_some_iff.1 hk2).1 (fun e => by
  obtain ⟨cs, h2⟩ := Kd.R_typed hr k e.symm
  exact hn cs (zI (hk2.symm.trans h2)))).trans hk2
 have hk2 := keep gx _ hk (fun cs e => by injection e with _ e2 _; exact absurd e2 (by decide))
 exact ⟨s.hD, s.hx, s.hf, s.hi, ⟨s.fx.ge, v1, blk_put hk2 5 v1 rfl, Kd.R_set ho hk2 (by decide) 5 v1⟩, other_iter (keep k0 _ s.it (fun cs e => by cases e)) s.gx_ne.2, blk_far (keep gf _ s.bf (fun cs e => by injection e with _ e2 _; exact absurd e2 (by decide))) (p := ⟨gx, 5, none⟩) s.gx_ne.1 _, (s.bl.trans hb).setCell (p := ⟨gx, 5, none⟩) s.fx.ge v1⟩
end
theorem fillR_name {ws : List ByteArray} {r : List UInt8} {at_ : Nat} {x : SIns} {t : ByteArray} (h : ws[at_]? = some t) : fillR ws (78 :: r) at_ x = if nameOk t = true then fillR ws r (at_ + 1) { x with f4 := t } else (80, x) := by
 rw [fillR, zC rfl, h]
theorem fillR_num {ws : List ByteArray} {c : UInt8} {r : List UInt8} {at_ : Nat} {x : SIns} {t : ByteArray} (h1 : c ≠ 78) (h2 : c ≠ 76) (h : ws[at_]? = some t) : fillR ws (c :: r) at_ x = match numOf t with | some n => fillR ws r (at_ + 1) (setF c n x) | none => (81, x) := by
 rw [fillR, zD h1, zD h2, h]
theorem mapM_at {ws : List ByteArray} {j : Nat} {t : ByteArray} (h : ws[j]? = some t) : (ws.drop j).mapM numOf = (numOf t).bind fun v => ((ws.drop (j + 1)).mapM numOf).map (v :: ·) := by
 obtain ⟨h1, h2⟩ := List.getElem?_eq_some_iff.1 h
 rw [List.drop_eq_getElem_cons h1, h2, List.mapM_cons]
 cases numOf t with
 | none => rfl
 | some v => cases (ws.drop (j + 1)).mapM numOf <;> rfl
theorem fillR_rest {ws : List ByteArray} {r : List UInt8} {at_ : Nat} {x : SIns} : fillR ws (76 :: r) at_ x = match (ws.drop at_).mapM numOf with | some l => fillR ws r at_ { x with f5 := x.f5 ++ l } | none => (81, x) := by
 rw [fillR, zD (by decide), zC rfl]
set_option maxHeartbeats 8000000 in
set_option maxRecDepth 100000 in
theorem fill_calls {w0 w : World} (hL : LaidW w0) (hB : Below w0.heap.size w0 w) (gx gw : Nat) (x : SIns) (hx : FillAt w0.heap.size gx x w) (hlt : gx < w.heap.size) (op : Int) (wd fs : ByteArray) (ws : List ByteArray) (c : Nat) (hw : WordsAt gw 1 ws w0)
 (hfs : ∀ b ∈ fs.data.toList, b = 68 ∨ b = 65 ∨ b = 66 ∨ b = 78 ∨ b = 76) (hn : wants fs.data.toList ≤ ws.length) (hwl : ws.length ≤ 100000) (hws : ∀ t ∈ ws, t.size ≤ 100000) (hf : fs.size ≤ 10) (h5 : x.f5.length + 10 * ws.length ≤ 10000000) (hc : ws.length ≤ c) :
 Calls Tryd.prog 59 #[.pointer (some ⟨gx, 0, none⟩), .agg #[.int .i64 op, .string wd, .string fs], .slice (some ⟨gw, 1, none⟩) ws.length c] w fun e w' => e = .returned (.int .i64 (fillR ws fs.data.toList 0 x).1) ∧ ((fillR ws fs.data.toList 0 x).1 = 0 → FillAt w0.heap.size gx (fillR ws fs.data.toList 0 x).2 w') ∧ Below w0.heap.size w0 w' := by
 obtain ⟨R, hR⟩ : ∃ R, R = fillR ws fs.data.toList 0 x := ⟨_, rfl⟩
 rw [← hR]
 have hB0 := zA hB
 have HLd := zA hL
 have HX := zA hx
 have HB := zA hB
 have HW := zA hw
 have HF := zA hfs
 have HR := zA hR
 have HN := zA hn
 have HWs := zA hws
 have HLt := zA hlt
 have HBw := zA (Below.refl w.heap.size w)
 clear hL hx hB hw hfs hR hn hws hlt
 have hu94 := Tryd.underlying94
 go_enter Tryd.func59, Tryd.ntmps59
 go_wp2_with ((with_reducible refine gate_dst (N := 4) rfl ?_); refine box_event (by rfl) (N := 4) (by rfl) (cs := #[.int .i64 op, .string wd, .string fs]) (t := 94) ?hr ?_; (case hr => go_simp <;> rfl); intro gf hg w1 hbox hb; have BF := zA hbox; have HGf := zA (show w.heap.size ≤ gf by rw [hg]; exact Nat.le_refl _); replace HX := zA (HX.out.below hb); replace HB := zA (below_step HB.out hb); replace HBw := zA (below_step HBw.out hb); clear hb hbox hg; have z3 := bk3 BF.out)
 have hWI : Below w.heap.size w (World.iter w1 fs 0) := below_alloc HBw.out _
 have hWJ : Below w0.heap.size w0 (World.iter w1 fs 0) := below_alloc HB.out _
 have hIT : (World.iter w1 fs 0).heap[w1.heap.size]? = some (.stringIter fs 0) := World.iter_heap w1 fs 0
 have hBF : (World.iter w1 fs 0).heap[gf]? = some (.cells #[.int .i64 op, .string wd, .string fs] 94 (0, 0)) := blk_alloc BF.out _
 have hFX : FillAt w0.heap.size gx x (World.iter w1 fs 0) := HX.out.below (below_alloc (Below.refl _ _) _)
 generalize World.iter w1 fs 0 = wI at hWI hWJ hIT hBF hFX ⊢
 have HS := zA (show FillSt gx gf w1.heap.size #[.int .i64 op, .string wd, .string fs] fs w0 w 0 x wI from ⟨hB0.out.size, HLt.out, HGf.out, HBw.out.size, hFX, hIT, hBF, hWJ⟩)
 clear hWI hWJ hIT hBF hFX HX HB z3 BF
 go_loopg [7] fs.size (fun kq v7 w' => ∃ (i at_ : Nat) (y : SIns), v7 = .int .i64 (at_ : Int) ∧ Aside0 (kq + i = fs.size) ∧ Aside0 (FillSt gx gf w1.heap.size #[.int .i64 op, .string wd, .string fs] fs w0 w i y w') ∧ Aside0 (R = fillR ws (fs.data.toList.drop i) at_ y) ∧ Aside0 (at_ + wants (fs.data.toList.drop i) ≤ ws.length) ∧ Aside0 (y.f5.length + kq * ws.length ≤ 10000000))
 case atStart => exact ⟨0, 0, x, by first | rfl | simp, ⟨by omega⟩, HS, ⟨by rw [List.drop_zero]; exact HR.out⟩, ⟨by rw [List.drop_zero]; have := HN.out; omega⟩, ⟨by have h9 : fs.size * ws.length ≤ 10 * ws.length := Nat.mul_le_mul_right _ hf; omega⟩⟩
 case round =>
  clear HS HR HN
  obtain ⟨i, at_, y, rfl, HK, HS, HR, HN, H5⟩ := hrel
  cases gk with
  | zero =>
   have hif : i = fs.size := by have := HK.out; omega
   have hnx : ∀ ty, (Instr.next (.pointer (some ⟨w1.heap.size, 0, none⟩)) true ty).run Tryd.prog wr = .ok (.tuple #[.bool false]) wr := fun ty => Lib.run_next_end_at wr _ fs i ty HS.out.it (by omega)
   have hd : fs.data.toList.drop i = [] := List.drop_eq_nil_of_le (by have : fs.data.toList.length = fs.size := (by simp); omega)
   rw [hd] at HR
   have HR2 := zA (show R = (0, y) from HR.out)
   go_wp2_with fail
   go_ret
   exact ⟨by rw [HR2.out]; rfl, fun _ => by rw [HR2.out]; exact HS.out.fx, HS.out.bl⟩
  | succ k1 =>
   have hi : i < fs.size := by have := HK.out; omega
   obtain ⟨c, hc⟩ : ∃ c, c = fs[i]'hi := ⟨_, rfl⟩
   have hgl : fs.data.toList[i]? = some c := by rw [hc]; simp [ByteArray.getElem_eq_getElem_data]
   have hdr : fs.data.toList.drop i = c :: fs.data.toList.drop (i + 1) := by
    obtain ⟨h1, h2⟩ := List.getElem?_eq_some_iff.1 hgl
    rw [List.drop_eq_getElem_cons h1, h2]
   have hm : c ∈ fs.data.toList := List.mem_of_getElem? hgl
   obtain ⟨wi, hwi⟩ : ∃ wi, wi = wr.iterAt w1.heap.size fs (i + 1) := ⟨_, rfl⟩
   have HS1 := zA (HS.out.next (i + 1))
   rw [← hwi] at HS1
   have hgen : ∀ n : Nat, c.toNat = n → n < 128 → ∀ ty, (Instr.next (.pointer (some ⟨w1.heap.size, 0, none⟩)) true ty).run Tryd.prog wr = .ok (.tuple #[.bool true, .int .i64 i, .int .i32 (n : Int)]) wi := fun n hn h8 ty => by
    rw [Lib.run_next_ascii_at wr _ fs i ty HS.out.it hi (by rw [← hc, hn]; exact h8), ← hc, hn, hwi]
   rw [hdr] at HR HN
   have hcc := HF.out c hm
   clear hc hgl hm hwi hdr
   rcases hcc with rfl | rfl | rfl | rfl | rfl
   ·have hnx := hgen 68 rfl (by decide)
    clear hgen
    have hat : at_ < ws.length := by have h9 : wants (68 :: fs.data.toList.drop (i + 1)) = 1 + wants (fs.data.toList.drop (i + 1)) := rfl; have := HN.out; omega
    have hatI : (at_ : Int) < (ws.length : Int) := by omega
    obtain ⟨t, ht⟩ : ∃ t, ws[at_]? = some t := ⟨_, List.getElem?_eq_getElem hat⟩
    have hts := HWs.out t (List.mem_of_getElem? ht)
    have hx1 := WordsAt.cell (WordsAt.low HW.out (by obtain ⟨_, hk, _⟩ := HW.out; exact blk_lt hk) HS1.out.bl) ht
    have HR1 : Aside0 (R = match numOf t with | some n => fillR ws (fs.data.toList.drop (i + 1)) (at_ + 1) (setF 68 n y) | none => (81, y)) := ⟨HR.out.trans (fillR_num (by decide) (by decide) ht)⟩
    have HLr := zA (HLd.out.below HS1.out.bl)
    clear ht
    cases hnm : numOf t with
    | none =>
     rw [hnm] at HR1
     have HNm := zA hnm
     clear hnm
     go_wp2_with (go_at_call 56; refine (textnumber_calls t wi HLr.out (by omega)).mono ?_; rintro e w5 ⟨n, rfl, _, hb⟩; rw [HNm.out]; have HS5 := zA (HS1.out.later hb); clear hb hx1)
     go_ret
     exact ⟨by rw [HR1.out]; rfl, fun h => by rw [HR1.out] at h; exact absurd (show (81 : Int) = 0 from h) (by decide), HS5.out.bl⟩
    | some v =>
     rw [hnm] at HR1
     have HNm := zA hnm
     clear hnm
     go_wp2_with (go_at_call 56; refine (textnumber_calls t wi HLr.out (by omega)).mono ?_; rintro e w5 ⟨n, rfl, hv, hb⟩; obtain rfl := hv v HNm.out; rw [HNm.out]; have HS5 := zA (HS1.out.later hb); obtain ⟨_, v5, hk5, _⟩ := HS5.out.fx; have z5 := bk6 hk5; clear hb hx1 hk5 hv)
     go_roundg k1
     case measure => have := HK.out; omega
     case rel => exact ⟨i + 1, at_ + 1, setF 68 n y, by go_num, ⟨by have := HK.out; omega⟩, ⟨HS5.out.set 1 (.int .i64 n) rfl (fun v5 => rfl)⟩, ⟨HR1.out⟩, ⟨by have h9 : wants (68 :: fs.data.toList.drop (i + 1)) = 1 + wants (fs.data.toList.drop (i + 1)) := rfl; have := HN.out; omega⟩, ⟨by have h9 : (k1 + 1) * ws.length = k1 * ws.length + ws.length := Nat.succ_mul _ _; have := H5.out; show y.f5.length + _ ≤ _; omega⟩⟩
   ·have hnx := hgen 65 rfl (by decide)
    clear hgen
    have hat : at_ < ws.length := by have h9 : wants (65 :: fs.data.toList.drop (i + 1)) = 1 + wants (fs.data.toList.drop (i + 1)) := rfl; have := HN.out; omega
    have hatI : (at_ : Int) < (ws.length : Int) := by omega
    obtain ⟨t, ht⟩ : ∃ t, ws[at_]? = some t := ⟨_, List.getElem?_eq_getElem hat⟩
    have hts := HWs.out t (List.mem_of_getElem? ht)
    have hx1 := WordsAt.cell (WordsAt.low HW.out (by obtain ⟨_, hk, _⟩ := HW.out; exact blk_lt hk) HS1.out.bl) ht
    have HR1 : Aside0 (R = match numOf t with | some n => fillR ws (fs.data.toList.drop (i + 1)) (at_ + 1) (setF 65 n y) | none => (81, y)) := ⟨HR.out.trans (fillR_num (by decide) (by decide) ht)⟩
    have HLr := zA (HLd.out.below HS1.out.bl)
    clear ht
    cases hnm : numOf t with
    | none =>
     rw [hnm] at HR1
     have HNm := zA hnm
     clear hnm
     go_wp2_with (go_at_call 56; refine (textnumber_calls t wi HLr.out (by omega)).mono ?_; rintro e w5 ⟨n, rfl, _, hb⟩; rw [HNm.out]; have HS5 := zA (HS1.out.later hb); clear hb hx1)
     go_ret
     exact ⟨by rw [HR1.out]; rfl, fun h => by rw [HR1.out] at h; exact absurd (show (81 : Int) = 0 from h) (by decide), HS5.out.bl⟩
    | some v =>
     rw [hnm] at HR1
     have HNm := zA hnm
     clear hnm
     go_wp2_with (go_at_call 56; refine (textnumber_calls t wi HLr.out (by omega)).mono ?_; rintro e w5 ⟨n, rfl, hv, hb⟩; obtain rfl := hv v HNm.out; rw [HNm.out]; have HS5 := zA (HS1.out.later hb); obtain ⟨_, v5, hk5, _⟩ := HS5.out.fx; have z5 := bk6 hk5; clear hb hx1 hk5 hv)
     go_roundg k1
     case measure => have := HK.out; omega
     case rel => exact ⟨i + 1, at_ + 1, setF 65 n y, by go_num, ⟨by have := HK.out; omega⟩, ⟨HS5.out.set 2 (.int .i64 n) rfl (fun v5 => rfl)⟩, ⟨HR1.out⟩, ⟨by have h9 : wants (65 :: fs.data.toList.drop (i + 1)) = 1 + wants (fs.data.toList.drop (i + 1)) := rfl; have := HN.out; omega⟩, ⟨by have h9 : (k1 + 1) * ws.length = k1 * ws.length + ws.length := Nat.succ_mul _ _; have := H5.out; show y.f5.length + _ ≤ _; omega⟩⟩
   ·have hnx := hgen 66 rfl (by decide)
    clear hgen
    have hat : at_ < ws.length := by have h9 : wants (66 :: fs.data.toList.drop (i + 1)) = 1 + wants (fs.data.toList.drop (i + 1)) := rfl; have := HN.out; omega
    have hatI : (at_ : Int) < (ws.length : Int) := by omega
    obtain ⟨t, ht⟩ : ∃ t, ws[at_]? = some t := ⟨_, List.getElem?_eq_getElem hat⟩
    have hts := HWs.out t (List.mem_of_getElem? ht)
    have hx1 := WordsAt.cell (WordsAt.low HW.out (by obtain ⟨_, hk, _⟩ := HW.out; exact blk_lt hk) HS1.out.bl) ht
    have HR1 : Aside0 (R = match numOf t with | some n => fillR ws (fs.data.toList.drop (i + 1)) (at_ + 1) (setF 66 n y) | none => (81, y)) := ⟨HR.out.trans (fillR_num (by decide) (by decide) ht)⟩
    have HLr := zA (HLd.out.below HS1.out.bl)
    clear ht
    cases hnm : numOf t with
    | none =>
     rw [hnm] at HR1
     have HNm := zA hnm
     clear hnm
     go_wp2_with (go_at_call 56; refine (textnumber_calls t wi HLr.out (by omega)).mono ?_; rintro e w5 ⟨n, rfl, _, hb⟩; rw [HNm.out]; have HS5 := zA (HS1.out.later hb); clear hb hx1)
     go_ret
     exact ⟨by rw [HR1.out]; rfl, fun h => by rw [HR1.out] at h; exact absurd (show (81 : Int) = 0 from h) (by decide), HS5.out.bl⟩
    | some v =>
     rw [hnm] at HR1
     have HNm := zA hnm
     clear hnm
     go_wp2_with (go_at_call 56; refine (textnumber_calls t wi HLr.out (by omega)).mono ?_; rintro e w5 ⟨n, rfl, hv, hb⟩; obtain rfl := hv v HNm.out; rw [HNm.out]; have HS5 := zA (HS1.out.later hb); obtain ⟨_, v5, hk5, _⟩ := HS5.out.fx; have z5 := bk6 hk5; clear hb hx1 hk5 hv)
     go_roundg k1
     case measure => have := HK.out; omega
     case rel => exact ⟨i + 1, at_ + 1, setF 66 n y, by go_num, ⟨by have := HK.out; omega⟩, ⟨HS5.out.set 3 (.int .i64 n) rfl (fun v5 => rfl)⟩, ⟨HR1.out⟩, ⟨by have h9 : wants (66 :: fs.data.toList.drop (i + 1)) = 1 + wants (fs.data.toList.drop (i + 1)) := rfl; have := HN.out; omega⟩, ⟨by have h9 : (k1 + 1) * ws.length = k1 * ws.length + ws.length := Nat.succ_mul _ _; have := H5.out; show y.f5.length + _ ≤ _; omega⟩⟩
   ·have hnx := hgen 78 rfl (by decide)
    clear hgen
    have hat : at_ < ws.length := by have h9 : wants (78 :: fs.data.toList.drop (i + 1)) = 1 + wants (fs.data.toList.drop (i + 1)) := rfl; have := HN.out; omega
    have hatI : (at_ : Int) < (ws.length : Int) := by omega
    obtain ⟨t, ht⟩ : ∃ t, ws[at_]? = some t := ⟨_, List.getElem?_eq_getElem hat⟩
    have hx1 := WordsAt.cell (WordsAt.low HW.out (by obtain ⟨_, hk, _⟩ := HW.out; exact blk_lt hk) HS1.out.bl) ht
    have HR1 := zA (HR.out.trans (fillR_name ht))
    have HT := zA ht
    clear ht
    by_cases hn : nameOk t = true
    ·rw [zC hn] at HR1
     have HNm := zA (show ir_Name.f t = some true by rw [name_eq, hn])
     clear hn
     go_wp2_with (go_at_call 27; refine (ir_Name.calls t true _ HNm.out).mono ?_; rintro e w5 ⟨rfl, hb⟩; have HS5 := zA (HS1.out.later hb); obtain ⟨_, v5, hk5, _⟩ := HS5.out.fx; have z5 := bk6 hk5; have hx2 := WordsAt.cell (WordsAt.low HW.out (by obtain ⟨_, hk, _⟩ := HW.out; exact blk_lt hk) HS5.out.bl) HT.out; clear hb hx1 hk5)
     go_roundg k1
     case measure => have := HK.out; omega
     case rel => exact ⟨i + 1, at_ + 1, { y with f4 := t }, by go_num, ⟨by have := HK.out; omega⟩, ⟨HS5.out.set 4 (.string t) rfl (fun v5 => rfl)⟩, ⟨HR1.out⟩, ⟨by have h9 : wants (78 :: fs.data.toList.drop (i + 1)) = 1 + wants (fs.data.toList.drop (i + 1)) := rfl; have := HN.out; omega⟩, ⟨by have h9 : (k1 + 1) * ws.length = k1 * ws.length + ws.length := Nat.succ_mul _ _; have := H5.out; show y.f5.length + _ ≤ _; omega⟩⟩
    ·rw [zD hn] at HR1
     have HNm := zA (show ir_Name.f t = some false by rw [name_eq]; cases h : nameOk t with | true => exact absurd h hn | false => rfl)
     clear hn
     go_wp2_with (go_at_call 27; refine (ir_Name.calls t false _ HNm.out).mono ?_; rintro e w5 ⟨rfl, hb⟩; have HS5 := zA (HS1.out.later hb); clear hb hx1)
     go_ret
     exact ⟨by rw [HR1.out]; rfl, fun h => by rw [HR1.out] at h; exact absurd (show (80 : Int) = 0 from h) (by decide), HS5.out.bl⟩
   ·have hnx := hgen 76 rfl (by decide)
    clear hgen
    have hat : at_ ≤ ws.length := by have := HN.out; omega
    have hatI : (at_ : Int) ≤ (ws.length : Int) := by omega
    have hatc : (ws.length : Int) ≤ (c : Int) := by omega
    by_cases hca : c = at_
    ·have hwe : ws.length = at_ := by omega
     have hRR : R = fillR ws (fs.data.toList.drop (i + 1)) at_ y := by
      rw [HR.out, fillR_rest, List.drop_eq_nil_of_le (by omega)]
      show fillR ws _ at_ { y with f5 := y.f5 ++ [] } = _
      rw [List.append_nil]
     have HRR := zA hRR
     have hz1 : ws.length - at_ = 0 := by omega
     have hz2 : c - at_ = 0 := by omega
     have hz3 : (c = at_) = True := eq_true hca
     clear hRR hwe hca
     go_wp2_with fail
     go_loopg [46] 0 (fun kq2 v46 w' => v46 = .int .i64 0 ∧ Aside0 (kq2 = 0) ∧ Aside0 (FillSt gx gf w1.heap.size #[.int .i64 op, .string wd, .string fs] fs w0 w (i + 1) y w'))
     case atStart => exact ⟨rfl, ⟨rfl⟩, HS1⟩
     case round =>
      clear HS1 HS
      obtain ⟨rfl, HJ, HS2⟩ := hrel
      cases gk with
      | succ k2 => exact absurd HJ.out (by omega)
      | zero =>
       go_wp2_with fail
       go_roundg k1
       case measure => have := HK.out; omega
       case rel => exact ⟨i + 1, at_, y, rfl, ⟨by have := HK.out; omega⟩, HS2, HRR, ⟨by have h9 : wants (76 :: fs.data.toList.drop (i + 1)) = 0 + wants (fs.data.toList.drop (i + 1)) := rfl; have := HN.out; omega⟩, ⟨by have h9 : (k1 + 1) * ws.length = k1 * ws.length + ws.length := Nat.succ_mul _ _; have := H5.out; omega⟩⟩
    have hac : ¬ at_ = c := fun e => hca e.symm
    go_wp2_with fail
    go_loopg [46] (ws.length - at_) (fun kq2 v46 w' => ∃ (j : Nat) (l : List Int), v46 = .int .i64 (j : Int) ∧ Aside0 (kq2 + j = ws.length - at_) ∧ Aside0 (FillSt gx gf w1.heap.size #[.int .i64 op, .string wd, .string fs] fs w0 w (i + 1) { y with f5 := y.f5 ++ l } w') ∧ Aside0 ((ws.drop at_).mapM numOf = ((ws.drop (at_ + j)).mapM numOf).map (l ++ ·)) ∧ Aside0 (l.length = j))
    case atStart => exact ⟨0, [], by first | rfl | simp, ⟨by omega⟩, ⟨by simpa using HS1.out⟩, ⟨by simp⟩, ⟨rfl⟩⟩
    case round =>
     clear HS1 HS
     obtain ⟨j, l, rfl, HJ, HS2, HM, HL⟩ := hrel
     cases gk with
     | zero =>
      have hj : at_ + j = ws.length := by have := HJ.out; omega
      have d1b := zG (show ¬ ((j : Int) < ((ws.length - at_ : Nat) : Int)) by omega)
      have d1c := zG (show ¬ (j < ws.length - at_) by omega)
      have HRR : Aside0 (R = fillR ws (fs.data.toList.drop (i + 1)) at_ { y with f5 := y.f5 ++ l }) := ⟨by
       rw [HR.out, fillR_rest, HM.out, hj, List.drop_length]
       show fillR ws _ at_ { y with f5 := y.f5 ++ (l ++ []) } = _
       rw [List.append_nil]⟩
      go_wp2_with fail
      go_roundg k1
      case measure => have := HK.out; omega
      case rel => exact ⟨i + 1, at_, _, rfl, ⟨by have := HK.out; omega⟩, HS2, HRR, ⟨by have h9 : wants (76 :: fs.data.toList.drop (i + 1)) = 0 + wants (fs.data.toList.drop (i + 1)) := rfl; have := HN.out; omega⟩, ⟨by have h9 : (k1 + 1) * ws.length = k1 * ws.length + ws.length := Nat.succ_mul _ _; have := H5.out; have := HL.out; show (y.f5 ++ l).length + _ ≤ _; rw [List.length_append]; omega⟩⟩
     | succ k2 =>
      have hj : at_ + j < ws.length := by have := HJ.out; omega
      have hj2 : j < ws.length - at_ := by omega
      have hj3 : (j : Int) < ((ws.length - at_ : Nat) : Int) := by omega
      have d1b := zF hj3
      have d1c := zF hj2
      obtain ⟨t, ht⟩ : ∃ t, ws[at_ + j]? = some t := ⟨_, List.getElem?_eq_getElem hj⟩
      have hts := HWs.out t (List.mem_of_getElem? ht)
      have hx1 := WordsAt.cell (WordsAt.low HW.out (by obtain ⟨_, hk, _⟩ := HW.out; exact blk_lt hk) HS2.out.bl) ht
      rw [← Nat.add_assoc] at hx1
      have HMM := zA (HM.out.trans (congrArg (Option.map (l ++ ·)) (mapM_at ht)))
      have HLr := zA (HLd.out.below HS2.out.bl)
      clear ht
      cases hnm : numOf t with
      | none =>
       have HNm := zA hnm
       have HR1 : Aside0 (R = (81, y)) := ⟨by rw [HR.out, fillR_rest, HMM.out, hnm]; rfl⟩
       clear hnm
       go_wp2_with (go_at_call 56; refine (textnumber_calls t wr HLr.out (by omega)).mono ?_; rintro e w5 ⟨n, rfl, _, hb⟩; rw [HNm.out]; have HS5 := zA (HS2.out.later hb); clear hb hx1)
       go_ret
       exact ⟨by rw [HR1.out]; rfl, fun h => by rw [HR1.out] at h; exact absurd (show (81 : Int) = 0 from h) (by decide), HS5.out.bl⟩
      | some v =>
       have HNm := zA hnm
       have HM2 : Aside0 ((ws.drop at_).mapM numOf = ((ws.drop (at_ + (j + 1))).mapM numOf).map ((l ++ [v]) ++ ·)) := ⟨by
        rw [HMM.out, hnm, Nat.add_assoc]
        cases (ws.drop (at_ + (j + 1))).mapM numOf <;> simp⟩
       clear hnm
       have hyl : (y.f5 ++ l).length ≤ 10000000 := by
        have h9 : (k1 + 1) * ws.length = k1 * ws.length + ws.length := Nat.succ_mul _ _
        have := H5.out
        have := HL.out
        rw [List.length_append]; omega
       go_wp2_with (first
        | (go_at_call 56; refine (textnumber_calls t wr HLr.out (by omega)).mono ?_; rintro e w5 ⟨n, rfl, hv, hb⟩; obtain rfl := hv v HNm.out; rw [HNm.out]; have HS5 := zA (HS2.out.later hb); obtain ⟨_, v5, hk5, hr5⟩ := HS5.out.fx; have z5 := bk6 hk5; have HK5 := zA hk5; have HR5 := zA hr5; clear hb hx1 hk5 hv hr5)
        | ((with_reducible refine gate_builtin (b := .append) (xs := #[.tmp 61, .tmp 63]) rfl ?_); at_builtin; (refine Kd.R_append (Kd.int .i64) (w0 := w5) w0.heap.size rfl (.tmp 61) (.tmp 63) 41 3 (.int .i64 0) 8 rfl Tryd.underlying41 info3 rfl (by decide) (by omega) v5 (y.f5 ++ l) n [.int .i64 n] (fun _ => True) (fun _ => False) rfl rfl ?aP (fun _ hk => hk.elim) ?aF ?aO ?aB ?aS ?aL ?_; (case aP => exact rfl); (case aF => exact fun _ _ => trivial); (case aO => exact HR5.out); (case aB => exact Below.refl _ _); (case aS => exact HS5.out.bl.size); (case aL => omega); intro v1 w6 ho3 hb3 hg3 _; obtain ⟨A1, c1, rfl⟩ := Kd.R_slice ho3; have HS6 := zA (HS5.out.app HK5.out HR5.out ho3 hb3 hg3); have hk6 : w6.heap[gx]? = some (.cells #[.int .i64 y.f0, .int .i64 y.f1, .int .i64 y.f2, .int .i64 y.f3, .string y.f4, v5] 43 (0, 0)) := (hg3.block gx (blk_lt HK5.out) (fun e => by obtain ⟨cs, h2⟩ := Kd.R_typed HR5.out gx e.symm; have := HK5.out.symm.trans h2; simp at this)).trans HK5.out; have z6 := bk6 hk6; clear ho3 hb3 hg3 z5 hk6)))
       go_roundg k2
       case measure => have := HJ.out; omega
       case rel => exact ⟨j + 1, l ++ [n], by go_num, ⟨by have := HJ.out; omega⟩, ⟨by have h9 := HS6.out; simpa using h9⟩, HM2, ⟨by rw [List.length_append, HL.out]; rfl⟩⟩
structure PS where
 code : Bool
 first : ByteArray
 heads : Int
 name : ByteArray
 head : List Int
 blocks : List (List SIns)
def insOp (op : Int) : SIns := ⟨op, 0, 0, 0, ⟨#[]⟩, []⟩
def openF (fs : ByteArray) : Bool := Lib.hasSuffix fs.data.toList [76]
def lineP (s : PS) (ws : List ByteArray) : Int × PS :=
 match ws with
 | [] => (80, s)
 | w0 :: rest =>
  if w0.toList = [98, 108, 111, 99, 107] ∧ rest = [] then (0, { s with blocks := s.blocks ++ [[]] })
  else match byOf w0 s.code with
   | none => (80, s)
   | some (op, wd, fs) =>
    if s.blocks = [] then (80, s)
    else if openF fs = false ∧ rest.length ≠ fs.size ∨ openF fs = true ∧ rest.length + 1 < fs.size then (80, s)
    else if (fillR rest fs.data.toList 0 (insOp op)).1 = 0 then (0, { s with blocks := s.blocks.set (s.blocks.length - 1) (s.blocks.getD (s.blocks.length - 1) [] ++ [(fillR rest fs.data.toList 0 (insOp op)).2]) })
    else ((fillR rest fs.data.toList 0 (insOp op)).1, s)
structure PsAt (D gp : Nat) (s : PS) (w : World) : Prop where
 lt : gp < D
 at_ : ∃ vh vb, w.heap[gp]? = some (.cells #[.bool s.code, .string s.first, .int .i64 s.heads, .string s.name, vh, vb] 60 (0, 0)) ∧ Kd.R (Kd.int .i64) 3 w D (fun _ => True) vh s.head ∧ Kd.S (Kd.slice 43 kIns) 29 w D (fun _ => True) vb s.blocks
def KeptD (gp D : Nat) (w w' : World) : Prop := w.heap.size ≤ w'.heap.size ∧ ∀ k, k < D → k ≠ gp → k < w.heap.size → w'.heap[k]? = w.heap[k]?
theorem KeptD.refl (gp D : Nat) (w : World) : KeptD gp D w w := ⟨Nat.le_refl _, fun _ _ _ _ => rfl⟩
theorem KeptD.trans {gp D : Nat} {w w1 w2 : World} (h : KeptD gp D w w1) (h2 : KeptD gp D w1 w2) : KeptD gp D w w2 := ⟨Nat.le_trans h.1 h2.1, fun k hk hg hs => (h2.2 k hk hg (Nat.lt_of_lt_of_le hs h.1)).trans (h.2 k hk hg hs)⟩
theorem KeptD.of_below {gp D B : Nat} {w w1 : World} (hb : Below B w w1) (hD : D ≤ B) : KeptD gp D w w1 := ⟨hb.size, fun k hk _ _ => hb.block k (Nat.lt_of_lt_of_le hk hD)⟩
theorem KeptD.set {gp D : Nat} {w w1 : World} (h : KeptD gp D w w1) (j : Nat) (v : Value) : KeptD gp D w (w1.setCell ⟨gp, j, none⟩ v) := by
 refine h.trans ⟨by simp [World.setCell], fun k _ hg _ => heap_setCell_other _ _ _ _ hg⟩
theorem PsAt.below {D gp : Nat} {s : PS} {w w1 : World} (h : PsAt D gp s w) (hb : Below w.heap.size w w1) : PsAt D gp s w1 := by
 obtain ⟨lt, vh, vb, hk, hr, hs⟩ := h
 exact ⟨lt, vh, vb, blk_below hk hb, Kd.R_below hr hb, Kd.S_below hs hb⟩
theorem byVal_form (r : Option (Int × ByteArray × ByteArray)) : ∃ o wd fs is, byVal r = .tuple #[.agg #[.int .i64 o, .string wd, .string fs], .bool is] ∧ r = if is = true then some (o, wd, fs) else none := by
 cases r with
 | none => exact ⟨0, ⟨#[]⟩, ⟨#[]⟩, false, rfl, rfl⟩
 | some r => obtain ⟨o, wd, fs⟩ := r; exact ⟨o, wd, fs, true, rfl, rfl⟩
def parser_line.T4 : Bool × List (List Nat × List Nat) := (true, [([], []), ([0], [0]), ([1], [1]), ([], []), ([3], [3]), ([4], [4]), ([5], [5]), ([2, 6], [2, 6]), ([7], [7]), ([8], [8]), ([8], [8]), ([], []), ([11, 9, 7, 0, 1, 2, 3, 4, 5, 6, 7, 8, 9, 11], [9, 11]), ([10, 12, 0, 1, 2, 3, 4, 5, 6, 7, 8, 9, 10, 11, 12], [10])])
def parser_line.B4 : List Nat := [0, 1, 3, 0, 8, 24, 56, 127, 255, 511, 511, 0, 3071, 8191]
theorem parser_line.tab4 : rtab .any (opsOf Tryd.f42 4) = parser_line.T4 := by kernel_rfl
theorem parser_line.bits4 : waitsOk parser_line.T4.2 parser_line.B4 = true := by kernel_rfl
def FsOk (is : Bool) (fs : ByteArray) : Prop := fs.size ≤ 3 ∧ (∀ b ∈ fs.data.toList, b = 68 ∨ b = 65 ∨ b = 66 ∨ b = 78 ∨ b = 76) ∧ (is = true → 1 ≤ wants fs.data.toList)
theorem wants_le : ∀ l : List UInt8, wants l ≤ l.length
 | [] => Nat.le_refl _
 | c :: l => by have := wants_le l; unfold wants; split <;> simp <;> omega
theorem wants_mem : ∀ {l : List UInt8}, (76 : UInt8) ∈ l → wants l + 1 ≤ l.length
 | c :: l, h => by
  unfold wants
  rcases List.mem_cons.1 h with rfl | h
  ·have := wants_le l; simp; omega
  ·have := wants_mem h; split <;> simp <;> omega
theorem wants_open {fs : ByteArray} {n : Nat} (h : ¬ (openF fs = false ∧ n ≠ fs.size ∨ openF fs = true ∧ n + 1 < fs.size)) : wants fs.data.toList ≤ n := by
 have hl : fs.data.toList.length = fs.size := by simp
 have h1 := wants_le fs.data.toList
 cases ho : openF fs with
 | false =>
  have : n = fs.size := Classical.byContradiction fun e => h (.inl ⟨ho, e⟩)
  omega
 | true =>
  have h2 : ¬ n + 1 < fs.size := fun e => h (.inr ⟨ho, e⟩)
  have h3 : (76 : UInt8) ∈ fs.data.toList := by
   unfold openF Lib.hasSuffix at ho
   obtain ⟨t, ht⟩ := List.isSuffixOf_iff_suffix.1 ho
   rw [← ht]; simp
  have := wants_mem h3
  omega
theorem of_fs {op o : Int} {code is : Bool} {wd fs : ByteArray} (h : text_of.f op code = some (o, wd, fs, is)) : FsOk is fs := by
 have go : ∀ (r : Option (Int × ByteArray × ByteArray × Bool)), (∀ o wd fs is, r = some (o, wd, fs, is) → FsOk is fs) → r = text_of.f op code → FsOk is fs := fun r hr e => hr o wd fs is (e.trans h)
 have st : ∀ {c : Prop} [Decidable c] {a b : Option (Int × ByteArray × ByteArray × Bool)}, (∀ o wd fs is, a = some (o, wd, fs, is) → FsOk is fs) → (∀ o wd fs is, b = some (o, wd, fs, is) → FsOk is fs) → (∀ o wd fs is, (if c then a else b) = some (o, wd, fs, is) → FsOk is fs) := fun ha hb o wd fs is e => by
  split at e
  ·exact ha _ _ _ _ e
  ·exact hb _ _ _ _ e
 refine go _ ?_ rfl
 unfold text_of.f
 repeat' first
  | refine st ?_ ?_
  | (intro o wd fs is e
     simp only [Option.some.injEq, Prod.mk.injEq] at e
     obtain ⟨-, -, rfl, rfl⟩ := e
     exact ⟨by decide, by decide, fun h_ => by first | decide | cases h_⟩)
theorem byOf_fs {wd0 : ByteArray} {code : Bool} {o : Int} {wd fs : ByteArray} (h : byOf wd0 code = some (o, wd, fs)) : FsOk true fs := by
 have key : ∀ (k : Nat) (i : Int), byFrom wd0 code k i = some (o, wd, fs) → FsOk true fs := by
  intro k
  induction k with
  | zero => intro i h; cases h
  | succ k ih =>
   intro i h
   unfold byFrom at h
   split at h
   ·next r hr =>
    obtain ⟨⟨o1, w1, f1, is⟩, hof⟩ := text_of_total i code
    unfold isBy at hr
    rw [hof] at hr
    cases is with
    | false => cases hr
    | true =>
     dsimp only at hr
     split at hr
     ·injection hr with hr
      rw [← hr] at h
      injection h with h
      simp only [Prod.mk.injEq] at h
      rw [← h.2.2]
      exact of_fs hof
     ·cases hr
   ·exact ih _ h
 exact key _ _ h
def parser_line.T13 : Bool × List (List Nat × List Nat) := (true, [([], []), ([], []), ([1], [1]), ([0, 2], [0, 2]), ([3, 3, 0, 1, 2, 3], [3])])
def parser_line.B13 : List Nat := [0, 0, 2, 7, 15]
theorem parser_line.tab13 : rtab .any (opsOf Tryd.f42 13) = parser_line.T13 := by kernel_rfl
theorem parser_line.bits13 : waitsOk parser_line.T13.2 parser_line.B13 = true := by kernel_rfl
def parser_line.T16 : Bool × List (List Nat × List Nat) := (true, [([], []), ([0], [0]), ([1], [1]), ([2], [2]), ([], []), ([], []), ([5], [5]), ([6], [6]), ([7], [7]), ([], []), ([8, 9], [8, 9]), ([10], [10]), ([], []), ([12], [12]), ([11, 13], [11, 13]), ([3, 4, 0, 1, 2, 3, 4, 5, 6, 7, 8, 9, 10, 11, 12, 13, 14], [3, 4]), ([15, 14, 14, 0, 1, 2, 3, 4, 5, 6, 7, 8, 9, 10, 11, 12, 13, 14], [14, 15])])
def parser_line.B16 : List Nat := [0, 1, 3, 7, 0, 0, 32, 96, 224, 0, 992, 2016, 0, 4096, 16352, 32767, 65535]
theorem parser_line.tab16 : rtab .any (opsOf Tryd.f42 16) = parser_line.T16 := by kernel_rfl
theorem parser_line.bits16 : waitsOk parser_line.T16.2 parser_line.B16 = true := by kernel_rfl
theorem infoLIns : (Tryd.prog.info? 29).map (fun i => (i.zero, i.size, i.bytes)) = some (some (.slice none 0 0), 1, 24) := by kernel_rfl
theorem infoIns : (Tryd.prog.info? 43).map (fun i => (i.zero, i.size, i.bytes)) = some (some (.agg #[.int .i64 0, .int .i64 0, .int .i64 0, .int .i64 0, .string ⟨#[]⟩, .slice none 0 0]), 6, 72) := by kernel_rfl
set_option maxHeartbeats 8000000 in
set_option maxRecDepth 100000 in
theorem line_calls2 {w0 w : World} (hL : LaidW w0) (hB : Below w0.heap.size w0 w) (gp gw D : Nat) (hD : w0.heap.size ≤ gp) (s : PS) (hs : PsAt D gp s w) (hDw : D ≤ w.heap.size) (ws : List ByteArray) (hw : WordsAt gw 0 ws w) (h0 : ws ≠ []) (hwl : ws.length ≤ 95000) (hws : ∀ t ∈ ws, t.size ≤ 95000) (hb : s.blocks.length ≤ 100000) (hbb : ∀ b ∈ s.blocks, b.length ≤ 100000) :
 Calls Tryd.prog 42 #[.pointer (some ⟨gp, 0, none⟩), .slice (some ⟨gw, 0, none⟩) ws.length ws.length] w fun e w' => e = .returned (.int .i64 (lineP s ws).1) ∧ ((lineP s ws).1 = 0 → PsAt D gp (lineP s ws).2 w') ∧ KeptD gp D w w' ∧ Below w0.heap.size w0 w' := by
 obtain ⟨w0d, rest, rfl⟩ : ∃ a l, ws = a :: l := by
  cases ws with
  | nil => exact absurd rfl h0
  | cons a l => exact ⟨a, l, rfl⟩
 obtain ⟨R, hR⟩ : ∃ R, R = lineP s (w0d :: rest) := ⟨_, rfl⟩
 rw [← hR]
 have hx0 := WordsAt.cell hw (i := 0) (t := w0d) rfl
 have HLd := zA hL
 have HB := zA hB
 have HS := zA hs
 have HW := zA hw
 have HR := zA hR
 have HWs := zA hws
 have HBB := zA hbb
 have hlen : (w0d :: rest).length = rest.length + 1 := rfl
 rw [hlen] at hwl ⊢
 clear hL hB hs hw hR hws hlen h0 hbb
 by_cases c0 : w0d.toList = [98, 108, 111, 99, 107] ∧ rest = []
 ·obtain ⟨c1, c2⟩ := c0
  subst c2
  have HR2 := zA (show R = (0, { s with blocks := s.blocks ++ [[]] }) from by rw [HR.out]; unfold lineP; simp only [c1, and_self, if_true])
  obtain ⟨c1a, c1b⟩ := qe c1
  obtain ⟨lt, vh, vb, hk, hr, hsb⟩ := HS.out
  obtain ⟨Ab, cb, rfl⟩ := Kd.S_slice hsb
  have HE := zA (show (s.blocks ++ [([] : List SIns)]).length = s.blocks.length + 1 from by simp)
  have z6 := bk6 hk
  have HK := zA hk
  have HRh := zA hr
  have HSb := zA hsb
  clear hk hr hsb c1
  go_enter Tryd.func42, Tryd.ntmps42
  go_wp2_with (first
   | ((with_reducible refine gate_dst (N := 26) rfl ?_); refine Kd.R_lit kIns (w0 := w) w.heap.size 43 (by rfl) (N := 26) (by rfl) (xs := ([] : List SIns)) (inner := []) (ok := fun _ => True) (okp := fun _ => True) ?hr ?hp (fun _ hk => hk) trivial (Below.refl _ _) (Nat.le_refl _) (by simp) ?_; (case hr => go_simp <;> rfl); (case hp => exact Reps.none _ _); intro v26 w1 ho_ hb_ hg_ hnew_; obtain ⟨A26, c26, rfl⟩ := Kd.R_slice ho_; have HO := zA ho_; have HB1 := zA hb_; have z7 := bk6 (blk_below HK.out hb_); clear ho_ hb_ hg_ hnew_ z6)
   | ((with_reducible refine gate_builtin (b := .append) (xs := #[.tmp 25, .tmp 27]) rfl ?_); at_builtin; (refine Kd.S_append (Kd.slice 43 kIns) (w0 := w1) D rfl (.tmp 25) (.tmp 27) 22 29 (.slice none 0 0) 24 rfl Tryd.underlying22 infoLIns rfl (by decide) (by omega) (.slice Ab s.blocks.length cb) s.blocks [] [.slice A26 0 c26] (fun _ => True) (fun q => w.heap.size ≤ q) rfl rfl ⟨_, rfl, Kd.R_lower (Kd.R_mono (Kd.R_bound HO.out) (fun q hq => hq.2.1)) hDw⟩ (fun q hq => ⟨trivial, fun e => by have := Kd.S_lt HSb.out q e.symm; omega⟩) (fun _ _ => trivial) (Kd.S_mono (Kd.S_old HSb.out HB1.out) (fun q hq => ⟨trivial, by omega⟩)) (Below.refl _ _) (Nat.le_trans hDw HB1.out.size) ?aL ?_; (case aL => omega)); intro v28 w2 ho_ hb_ hg_ hat_; obtain ⟨A28, c28, rfl⟩ := Kd.S_slice ho_; rw [HE.out] at ho_; have HO2 := zA ho_; have HB2 := zA hb_; have hk2 := (hb_.block gp lt).trans (blk_below HK.out HB1.out); have HK2 := zA hk2; have z8 := bk6 hk2; have HH2 := zA (show Kd.R (Kd.int .i64) 3 w2 D (fun _ => True) vh s.head from Kd.R_over' (Kd.R_below HRh.out HB1.out) (fun k hk => by obtain ⟨cs, h⟩ := Kd.S_typed HSb.out k hk; exact ⟨cs, blk_below h HB1.out⟩) (by decide) hg_); clear ho_ hb_ hg_ hat_ z7 hk2))
  go_ret
  have HKp := ((KeptD.of_below (gp := gp) HB1.out hDw).trans (KeptD.of_below HB2.out (Nat.le_refl D))).set 5 (.slice A28 (s.blocks.length + 1) c28)
  refine ⟨by rw [HR2.out]; rfl, fun _ => ?_, HKp, ?_⟩
  ·rw [HR2.out]
   exact ⟨lt, vh, _, blk_put HK2.out 5 _ rfl, Kd.R_set HH2.out HK2.out (by decide) 5 _, Kd.S_set HO2.out HK2.out (by decide) 5 _⟩
  ·exact ((below_step HB.out HB1.out).trans (HB2.out.mono (Nat.le_trans hD (Nat.le_of_lt lt)))).setCell (p := ⟨gp, 5, none⟩) hD _
 have HR2 : Aside0 (R = match byOf w0d s.code with
  | none => (80, s)
  | some (op, wd, fs) => if s.blocks = [] then (80, s) else if openF fs = false ∧ rest.length ≠ fs.size ∨ openF fs = true ∧ rest.length + 1 < fs.size then (80, s) else if (fillR rest fs.data.toList 0 (insOp op)).1 = 0 then (0, { s with blocks := s.blocks.set (s.blocks.length - 1) (s.blocks.getD (s.blocks.length - 1) [] ++ [(fillR rest fs.data.toList 0 (insOp op)).2]) }) else ((fillR rest fs.data.toList 0 (insOp op)).1, s)) := ⟨by rw [HR.out]; unfold lineP; simp only [zD c0]⟩
 clear HR
 go_enter Tryd.func42, Tryd.ntmps42
 go_upto_region 1 with fail
 go_cut [20] (fun v20 wc => v20 = .bool false ∧ w = wc)
 case first =>
  by_cases c1 : w0d.toList = [98, 108, 111, 99, 107]
  ·obtain ⟨c1a, c1b⟩ := qe c1
   have c2 : ¬ rest.length + 1 = 1 := fun e => c0 ⟨c1, List.length_eq_zero_iff.1 (by omega)⟩
   have c2i : ¬ (rest.length : Int) + 1 = 1 := by omega
   obtain ⟨c2a, c2b⟩ := qn c2
   obtain ⟨c2c, c2d⟩ := qn c2i
   clear c1 c0
   go_wp2_with fail
   go_meet
   case rel => exact ⟨rfl, rfl⟩
  ·obtain ⟨c1a, c1b⟩ := qn c1
   clear c1 c0
   go_wp2_with fail
   go_meet
   case rel => exact ⟨rfl, rfl⟩
 case rest =>
  obtain ⟨rfl, rfl⟩ := hcut
  obtain ⟨lt, vh, vb, hk, hr, hsb⟩ := HS.out
  obtain ⟨Ab, cb, rfl⟩ := Kd.S_slice hsb
  have z6 := bk6 hk
  have HK := zA hk
  have HRh := zA hr
  have HSb := zA hsb
  clear hk hr hsb c0
  go_upto_region 4 with fail
  obtain ⟨o, wd, fs, is, hbv, hby⟩ := byVal_form (byOf w0d s.code)
  have HBv := zA hbv
  have HBy := zA hby
  clear hbv hby
  have hz0 : w.cell? ⟨gp, 0, none⟩ = some (.bool s.code) := z6.1
  have hx00 : w.cell? ⟨gw, 0, none⟩ = some (.string w0d) := hx0
  have hu94 := Tryd.underlying94
  clear z6 hx0
  go_cut [5, 6] (fun v5 v6 wc => ∃ gf, v5 = .pointer (some ⟨gf, 0, none⟩) ∧ v6 = .bool is ∧ Aside0 (wc.heap[gf]? = some (.cells #[.int .i64 o, .string wd, .string fs] 94 (0, 0))) ∧ Aside0 (Below w.heap.size w wc) ∧ Aside0 (w.heap.size ≤ gf))
  case first =>
   refine start_ (n := 14) (S := fun w' => w'.cell? ⟨gw, 0, none⟩ = some (.string w0d) ∧ w'.cell? ⟨gp, 0, none⟩ = some (.bool s.code)) (ds := [12]) (bA 14 0) (by kernel_rfl) rfl rfl ⟨hx00, hz0⟩ (fun hHeld => ?_); refine with_tabW parser_line.tab4 parser_line.bits4 (fun HT_ HW_ => ?_)
   have HBd := zA (below_drew (Below.refl w.heap.size w))
   generalize w.drew = wd_ at HBd hHeld ⊢
   refine pu_ (i := 0) (N := some 32) (bA 14 1) ?_
   refine pu_ (i := 1) (N := some 33) (bA 14 3) ?_
   refine pu_ (i := 3) (N := some 35) (bA 14 11) ?_
   refine pu_ (i := 4) (N := some 36) (bA 14 27) ?_
   refine pu_ (i := 5) (N := some 37) (bA 14 59) ?_
   refine tk_ (i := 2) (N := some 34) (bA 14 63) ?_
   refine tk_ (i := 6) (N := some 38) (bA 14 127) ?_
   refine two_ (i := 7) (j := 11) (Ni := some 39) (Nj := some 5) (bA 14 255) (bA 14 2175) rfl rfl rfl rfl (two_of HT_.out (by kernel_rfl)) (by decide) (by decide) (fun K hK => ?_) (fun K hK => ?_)
   ·refine goes_ Tryd.func57 (by kernel_rfl) rfl #[.string w0d, .bool s.code] (by rfl) rfl rfl qL ?_
    refine (by_calls w0d s.code _).mono ?_
    rintro e w2 ⟨rfl, hb⟩
    refine ⟨_, rfl, ?_⟩
    rw [HBv.out]
    have HB2 := zA (below_step HBd.out hb)
    have hh2 : w2.cell? ⟨gw, 0, none⟩ = some (.string w0d) ∧ w2.cell? ⟨gp, 0, none⟩ = some (.bool s.code) := ⟨(hb.cell (zE _ _ hHeld.1)).trans hHeld.1, (hb.cell (zE _ _ hHeld.2)).trans hHeld.2⟩
    clear hb hHeld
    refine hK.out _ _ hh2 (fun hHeld => ?_)
    clear hK K hh2
    refine norm_ (a' := ?_) ?_ ?_
    rotate_left
    ·show Act.put _ (some 39) _ = _
     simp only [Act.put, List.setIfInBounds_toArray, List.set_cons_zero, List.set_cons_succ, i64_w, i32_w]
     rfl
    refine pu_ (i := 8) (N := some 31) (bA 14 511) ?_
    refine pu_ (i := 9) (N := some 40) (bA 14 1023) ?_
    refine pu_ (i := 10) (N := some 41) (bA 14 2047) ?_
    refine one_ (i := 11) (N := some 5) (bA 14 4095) rfl rfl (one_of HT_.out (by kernel_rfl)) (by decide) (fun K hK => ?_)
    refine box_step (by rfl) (N := 5) (by rfl) (cs := #[.int .i64 0, .string (⟨#[]⟩ : ByteArray), .string (⟨#[]⟩ : ByteArray)]) (t := 94) ?hr ?_
    case hr => first | (go_simp; done) | (go_simp; rfl)
    intro gf hg w3 hbox hb
    have HGf := zA (show w.heap.size ≤ gf by rw [hg]; exact HB2.out.size)
    have HB3 := zA (below_step HB2.out hb)
    have BF := zA hbox
    have z3 := bk3 hbox
    have hh2 : w3.cell? ⟨gw, 0, none⟩ = some (.string w0d) ∧ w3.cell? ⟨gp, 0, none⟩ = some (.bool s.code) := ⟨(hb.cell (zE _ _ hHeld.1)).trans hHeld.1, (hb.cell (zE _ _ hHeld.2)).trans hHeld.2⟩
    clear hb hHeld hbox hg
    refine hK.out _ _ hh2 (fun hHeld => ?_)
    clear hK K hh2
    refine norm_ (a' := ?_) ?_ ?_
    rotate_left
    ·show Act.put _ (some 5) _ = _
     simp only [Act.put, List.setIfInBounds_toArray, List.set_cons_zero, List.set_cons_succ, i64_w, i32_w]
     rfl
    refine last_ (i := 12) (N := none) (bA 14 8191) rfl rfl (one_of HT_.out (by kernel_rfl)) (by decide) (fun K hK => ?_)
    refine skip_ (w1 := ?_) (by rfl) rfl ?_ ?_
    rotate_left
    ·first | (go_simp; done) | (go_simp; rfl)
    refine hK.out _ _ ?_
    clear hK K
    refine pu_ (i := 13) (N := some 6) (bA 14 16383) ?_
    refine done_ (done_of HT_.out (by kernel_rfl)) ?_
    go_wp2_with fail
    go_meet
    case rel => exact ⟨gf, rfl, rfl, ⟨blk_put (blk_put (blk_put BF.out 0 _ rfl) 1 _ rfl) 2 _ rfl⟩, ⟨((HB3.out.setCell (p := ⟨gf, 0, none⟩) HGf.out _).setCell (p := ⟨gf, 1, none⟩) HGf.out _).setCell (p := ⟨gf, 2, none⟩) HGf.out _⟩, HGf⟩
   ·refine box_step (by rfl) (N := 5) (by rfl) (cs := #[.int .i64 0, .string (⟨#[]⟩ : ByteArray), .string (⟨#[]⟩ : ByteArray)]) (t := 94) ?hr ?_
    case hr => first | (go_simp; done) | (go_simp; rfl)
    intro gf hg w2 hbox hb
    have HGf := zA (show w.heap.size ≤ gf by rw [hg]; exact HBd.out.size)
    have HB2 := zA (below_step HBd.out hb)
    have BF2 := zA hbox
    have hh2 : w2.cell? ⟨gw, 0, none⟩ = some (.string w0d) ∧ w2.cell? ⟨gp, 0, none⟩ = some (.bool s.code) := ⟨(hb.cell (zE _ _ hHeld.1)).trans hHeld.1, (hb.cell (zE _ _ hHeld.2)).trans hHeld.2⟩
    clear hb hHeld hbox hg
    refine hK.out _ _ hh2 (fun hHeld => ?_)
    clear hK K hh2
    refine norm_ (a' := ?_) ?_ ?_
    rotate_left
    ·show Act.put _ (some 5) _ = _
     simp only [Act.put, List.setIfInBounds_toArray, List.set_cons_zero, List.set_cons_succ, i64_w, i32_w]
     rfl
    refine one_ (i := 7) (N := some 39) (bA 14 2303) rfl rfl (one_of HT_.out (by kernel_rfl)) (by decide) (fun K hK => ?_)
    refine goes_ Tryd.func57 (by kernel_rfl) rfl #[.string w0d, .bool s.code] (by rfl) rfl rfl qL ?_
    refine (by_calls w0d s.code _).mono ?_
    rintro e w3 ⟨rfl, hb⟩
    refine ⟨_, rfl, ?_⟩
    rw [HBv.out]
    have HB3 := zA (below_step HB2.out hb)
    have BF := zA (blk_below BF2.out hb)
    have z3 := bk3 BF.out
    have hh2 : w3.cell? ⟨gw, 0, none⟩ = some (.string w0d) ∧ w3.cell? ⟨gp, 0, none⟩ = some (.bool s.code) := ⟨(hb.cell (zE _ _ hHeld.1)).trans hHeld.1, (hb.cell (zE _ _ hHeld.2)).trans hHeld.2⟩
    clear hb hHeld
    refine hK.out _ _ hh2 (fun hHeld => ?_)
    clear hK K hh2
    refine norm_ (a' := ?_) ?_ ?_
    rotate_left
    ·show Act.put _ (some 39) _ = _
     simp only [Act.put, List.setIfInBounds_toArray, List.set_cons_zero, List.set_cons_succ, i64_w, i32_w]
     rfl
    refine pu_ (i := 8) (N := some 31) (bA 14 2559) ?_
    refine pu_ (i := 9) (N := some 40) (bA 14 3071) ?_
    refine pu_ (i := 10) (N := some 41) (bA 14 4095) ?_
    refine last_ (i := 12) (N := none) (bA 14 8191) rfl rfl (one_of HT_.out (by kernel_rfl)) (by decide) (fun K hK => ?_)
    refine skip_ (w1 := ?_) (by rfl) rfl ?_ ?_
    rotate_left
    ·first | (go_simp; done) | (go_simp; rfl)
    refine hK.out _ _ ?_
    clear hK K
    refine pu_ (i := 13) (N := some 6) (bA 14 16383) ?_
    refine done_ (done_of HT_.out (by kernel_rfl)) ?_
    go_wp2_with fail
    go_meet
    case rel => exact ⟨gf, rfl, rfl, ⟨blk_put (blk_put (blk_put BF.out 0 _ rfl) 1 _ rfl) 2 _ rfl⟩, ⟨((HB3.out.setCell (p := ⟨gf, 0, none⟩) HGf.out _).setCell (p := ⟨gf, 1, none⟩) HGf.out _).setCell (p := ⟨gf, 2, none⟩) HGf.out _⟩, HGf⟩
  case rest =>
   obtain ⟨gf, rfl, rfl, BF, HBc, HGf⟩ := hcut
   have z3 := bk3 BF.out
   have hkc := blk_below HK.out HBc.out
   have z6 := bk6 hkc
   clear hx00 hz0
   cases is with
   | false =>
    have HR3 := zA (show R = (80, s) from by rw [HR2.out, HBy.out]; rfl)
    go_wp2_with fail
    go_ret
    exact ⟨by rw [HR3.out]; rfl, fun h => by rw [HR3.out] at h; exact absurd (show (80 : Int) = 0 from h) (by decide), KeptD.of_below HBc.out hDw, below_step HB.out HBc.out⟩
   | true =>
   have HR3 : Aside0 (R = if s.blocks = [] then (80, s) else if openF fs = false ∧ rest.length ≠ fs.size ∨ openF fs = true ∧ rest.length + 1 < fs.size then (80, s) else if (fillR rest fs.data.toList 0 (insOp o)).1 = 0 then (0, { s with blocks := s.blocks.set (s.blocks.length - 1) (s.blocks.getD (s.blocks.length - 1) [] ++ [(fillR rest fs.data.toList 0 (insOp o)).2]) }) else ((fillR rest fs.data.toList 0 (insOp o)).1, s)) := ⟨by rw [HR2.out, HBy.out]; rfl⟩
   clear HR2 HBv
   by_cases c3 : s.blocks = []
   ·have HR4 := zA (show R = (80, s) from by rw [HR3.out, zC c3])
    have hl0 : (s.blocks.length : Int) - 1 < 0 := by rw [c3]; decide
    have hl1 := zF hl0
    clear c3
    go_wp2_with fail
    go_ret
    exact ⟨by rw [HR4.out]; rfl, fun h => by rw [HR4.out] at h; exact absurd (show (80 : Int) = 0 from h) (by decide), KeptD.of_below HBc.out hDw, below_step HB.out HBc.out⟩
   obtain ⟨hfs3, hfsl, hfsw⟩ := byOf_fs (HBy.out.trans (zC rfl))
   have HFw := zA (hfsw rfl)
   clear hfsw
   have hfsz : fs.size ≤ 9223372036854775807 := by omega
   have hlp : 0 < s.blocks.length := List.length_pos_iff.2 c3
   rw [zD c3] at HR3
   have hl0 : ¬ (s.blocks.length : Int) - 1 < 0 := by omega
   have hl1 := zG hl0
   clear c3
   obtain ⟨b, hbo⟩ : ∃ b, b = openF fs := ⟨_, rfl⟩
   have HBo := zA hbo
   clear hbo
   go_upto_region 10 with (go_at_call 58; refine (Any.strings_HasSuffix Tryd.lays100 fs (⟨#[76]⟩ : ByteArray) _ ?hsz).mono ?_; (case hsz => exact hfsz); rintro e w' ⟨rfl, rfl⟩; rw [show Lib.hasSuffix fs.data.toList (⟨#[76]⟩ : ByteArray).data.toList = b from HBo.out.symm])
   go_cut [79] (fun v79 wq => v79 = .bool (decide (b = false ∧ rest.length ≠ fs.size ∨ b = true ∧ rest.length + 1 < fs.size)) ∧ w' = wq)
   case first =>
    clear z6
    cases b with
    | false =>
     by_cases e1 : rest.length = fs.size
     ·obtain ⟨e2, e3⟩ := qe e1
      obtain ⟨e4, e5⟩ := qe (show (rest.length : Int) = (fs.size : Int) by omega)
      have hd := zG (show ¬ (false = false ∧ rest.length ≠ fs.size ∨ false = true ∧ rest.length + 1 < fs.size) from fun h => by rcases h with h | h; exact h.2 e1; cases h.1)
      have HD := zA hd
      clear hd e1
      go_wp2_with fail
      go_meet
      case rel => exact ⟨by rw [HD.out], rfl⟩
     ·obtain ⟨e2, e3⟩ := qn e1
      obtain ⟨e4, e5⟩ := qn (show ¬ (rest.length : Int) = (fs.size : Int) by omega)
      have hd := zF (show (false = false ∧ rest.length ≠ fs.size ∨ false = true ∧ rest.length + 1 < fs.size) from .inl ⟨rfl, e1⟩)
      have HD := zA hd
      clear hd e1
      go_wp2_with fail
      go_meet
      case rel => exact ⟨by rw [HD.out], rfl⟩
    | true =>
     by_cases e1 : rest.length + 1 < fs.size
     ·have e2 := zF (show (rest.length : Int) < (fs.size : Int) - 1 by omega)
      have e3 := zF e1
      have e4 := zF (show (rest.length : Int) + 1 < (fs.size : Int) by omega)
      have hd := zF (show (true = false ∧ rest.length ≠ fs.size ∨ true = true ∧ rest.length + 1 < fs.size) from .inr ⟨rfl, e1⟩)
      have HD := zA hd
      clear hd e1
      go_wp2_with fail
      go_meet
      case rel => exact ⟨by rw [HD.out], rfl⟩
     ·have e2 := zG (show ¬ (rest.length : Int) < (fs.size : Int) - 1 by omega)
      have e3 := zG e1
      have e4 := zG (show ¬ (rest.length : Int) + 1 < (fs.size : Int) by omega)
      have hd := zG (show ¬ (true = false ∧ rest.length ≠ fs.size ∨ true = true ∧ rest.length + 1 < fs.size) from fun h => by rcases h with h | h; cases h.1; exact e1 h.2)
      have HD := zA hd
      clear hd e1
      go_wp2_with fail
      go_meet
      case rel => exact ⟨by rw [HD.out], rfl⟩
   case rest =>
   obtain ⟨rfl, hwq⟩ := hcut
   subst hwq
   rw [← HBo.out] at HR3
   by_cases c4 : b = false ∧ rest.length ≠ fs.size ∨ b = true ∧ rest.length + 1 < fs.size
   ·have HR4 := zA (show R = (80, s) from by rw [HR3.out, zC c4])
    rw [zF c4]
    clear c4
    go_wp2_with fail
    go_ret
    exact ⟨by rw [HR4.out]; rfl, fun h => by rw [HR4.out] at h; exact absurd (show (80 : Int) = 0 from h) (by decide), KeptD.of_below HBc.out hDw, below_step HB.out HBc.out⟩
   rw [zD c4] at HR3
   rw [zG c4]
   have HC4 := zA c4
   clear c4
   have hu43 := Tryd.underlying43
   go_upto_region 13 with ((with_reducible refine gate_dst (N := 10) rfl ?_); refine box_event (by rfl) (N := 10) (by rfl) (cs := #[.int .i64 0, .int .i64 0, .int .i64 0, .int .i64 0, .string (⟨#[]⟩ : ByteArray), .slice none 0 0]) (t := 43) ?hr ?_; (case hr => go_simp <;> rfl); intro gx hg w4 hbox hb4; have BX := zA hbox; have HGx := zA hg; have HB4 := zA hb4; have z7 := bk6 hbox; have BF4 := zA (blk_below BF.out hb4); clear hg hbox hb4)
   have hwn : wants fs.data.toList ≤ rest.length := wants_open (by rw [← HBo.out]; exact HC4.out)
   have hr1 : 1 ≤ rest.length := Nat.le_trans HFw.out hwn
   have BX5 := zA (blk_put (blk_put (blk_put (blk_put (blk_put (blk_put BX.out 0 (.int .i64 o) rfl) 1 (.int .i64 0) rfl) 2 (.int .i64 0) rfl) 3 (.int .i64 0) rfl) 4 (.string (⟨#[]⟩ : ByteArray)) rfl) 5 (.slice none 0 0) rfl)
   have hgx : w'.heap.size ≤ gx := by rw [HGx.out]; exact Nat.le_refl _
   have HB5 := zA (((((((HB4.out.setCell (p := ⟨gx, 0, none⟩) hgx (.int .i64 o)).setCell (p := ⟨gx, 1, none⟩) hgx (.int .i64 0)).setCell (p := ⟨gx, 2, none⟩) hgx (.int .i64 0)).setCell (p := ⟨gx, 3, none⟩) hgx (.int .i64 0)).setCell (p := ⟨gx, 4, none⟩) hgx (.string (⟨#[]⟩ : ByteArray))).setCell (p := ⟨gx, 5, none⟩) hgx (.slice none 0 0)))
   clear z7 BX z3 HB4 BF4
   generalize ((((((w4.setCell ⟨gx, 0, none⟩ (.int .i64 o)).setCell ⟨gx, 1, none⟩ (.int .i64 0)).setCell ⟨gx, 2, none⟩ (.int .i64 0)).setCell ⟨gx, 3, none⟩ (.int .i64 0)).setCell ⟨gx, 4, none⟩ (.string (⟨#[]⟩ : ByteArray))).setCell ⟨gx, 5, none⟩ (.slice none 0 0)) = w5 at BX5 HB5 ⊢
   have BF5 := zA (blk_below BF.out HB5.out)
   have HB6 := zA (below_drew HB5.out)
   have BX6 := zA (blk_drew BX5.out)
   have hrz : (rest.length = 0) = False := eq_false (by omega)
   have hr1i := eq_true (show (1 : Int) ≤ (rest.length : Int) + 1 by omega)
   refine start_ (n := 5) (S := fun w' => w'.cell? ⟨gf, 0, none⟩ = some (.int .i64 o) ∧ w'.cell? ⟨gf, 1, none⟩ = some (.string wd) ∧ w'.cell? ⟨gf, 2, none⟩ = some (.string fs)) (ds := []) (bA 5 0) (by kernel_rfl) rfl rfl ⟨(blk_cell BF5.out 0).trans rfl, (blk_cell BF5.out 1).trans rfl, (blk_cell BF5.out 2).trans rfl⟩ (fun hHeld => ?_); refine with_tabW parser_line.tab13 parser_line.bits13 (fun HT_ HW_ => ?_)
   generalize w5.drew = w6 at HB6 BX6 hHeld ⊢
   refine pu_ (i := 1) (N := some 84) (bA 5 2) ?_
   refine pu_ (i := 2) (N := some 85) (bA 5 6) ?_
   refine tk_ (i := 0) (N := some 83) (bA 5 7) ?_
   refine one_ (i := 3) (N := some 86) (bA 5 15) rfl rfl (one_of HT_.out (by kernel_rfl)) (by decide) (fun K hK => ?_)
   obtain ⟨F, hF⟩ : ∃ F, F = fillR rest fs.data.toList 0 (insOp o) := ⟨_, rfl⟩
   rw [← hF] at HR3
   have hsmall : (0 : Nat) + 10 * rest.length ≤ 10000000 := by omega
   have HLw := zA (HLd.out.below (below_step HB.out HBc.out))
   have hw1 := WordsAt.tail HW.out
   have hfc := fill_calls HLw.out HB6.out gx gw (insOp o) ⟨hgx, .slice none 0 0, BX6.out, Kd.R_nil _ _ _ _ _⟩ (blk_lt BX6.out) o wd fs rest rest.length (WordsAt.low hw1 (by obtain ⟨_, hk, _⟩ := hw1; exact blk_lt hk) HBc.out) hfsl hwn (by omega) (fun t ht => by have := HWs.out t (List.mem_cons_of_mem _ ht); omega) (by omega) hsmall (Nat.le_refl _)
   rw [← hF] at hfc
   clear hF
   refine goes_ Tryd.func59 (by kernel_rfl) rfl #[.pointer (some ⟨gx, 0, none⟩), .agg #[.int .i64 o, .string wd, .string fs], .slice (some ⟨gw, 1, none⟩) rest.length rest.length] (by rfl) rfl rfl qL ?_
   refine hfc.mono ?_
   clear hfc hw1
   rintro e w7 ⟨rfl, hfx, hb7⟩
   refine ⟨_, rfl, ?_⟩
   have HFx := zA hfx
   have HB7 := zA hb7
   have BF7 := zA (blk_below BF.out hb7)
   clear hb7 hfx hHeld BF5 HB6 BX6 HB5 BX5
   refine hK.out _ _ ⟨(blk_cell BF7.out 0).trans rfl, (blk_cell BF7.out 1).trans rfl, (blk_cell BF7.out 2).trans rfl⟩ (fun hHeld => ?_)
   clear hK K
   refine norm_ (a' := ?_) ?_ ?_
   rotate_left
   ·show Act.put _ (some 86) _ = _
    simp only [Act.put, List.setIfInBounds_toArray, List.set_cons_zero, List.set_cons_succ, i64_w, i32_w]
    rfl
   refine pu_ (i := 4) (N := some 11) (bA 5 31) ?_
   refine done_ (done_of HT_.out (by kernel_rfl)) ?_
   clear HT_ HW_ hHeld hrz hr1i hr1 hwn hsmall
   by_cases c5 : F.1 = 0
   case neg =>
    have HR4 := zA (show R = (F.1, s) from by rw [HR3.out, zD c5])
    obtain ⟨c6, c7⟩ := qn c5
    have HC5 := zA c5
    clear c5
    go_wp2_with fail
    go_ret
    exact ⟨by rw [HR4.out]; rfl, fun h => by rw [HR4.out] at h; exact absurd (show F.1 = 0 from h) HC5.out, (KeptD.of_below HBc.out hDw).trans (KeptD.of_below HB7.out (Nat.le_trans hDw HBc.out.size)), below_step (below_step HB.out HBc.out) HB7.out⟩
   have HR4 := zA (show R = (0, { s with blocks := s.blocks.set (s.blocks.length - 1) (s.blocks.getD (s.blocks.length - 1) [] ++ [F.2]) }) from by rw [HR3.out, zC c5])
   have HX := zA (HFx.out c5)
   obtain ⟨c6, c7⟩ := qe c5
   clear c5
   go_upto_region 16 with fail
   -- the last block takes the instruction in
   obtain ⟨gb, cb2, eb, hgb, -, -⟩ := Kd.S_form HSb.out hlp
   injection eb with e1 e2 e3
   subst e1
   subst e3
   have HSc := Kd.S_below HSb.out HBc.out
   have HSo := zA (Kd.S_old HSc HB7.out)
   have HK7 := zA (blk_below (blk_below HK.out HBc.out) HB7.out)
   have HR7 := zA (Kd.R_below (Kd.R_below HRh.out HBc.out) HB7.out)
   clear HSc
   have hi0 : (0 : Int) ≤ (s.blocks.length : Int) - 1 := by omega
   have hi1 : (s.blocks.length : Int) - 1 < (s.blocks.length : Int) := by omega
   obtain ⟨oki, cv, hcl, hM, hcc, hfz, hoki, hH⟩ := Kd.S_elem HSo.out [] ((s.blocks.length : Int) - 1) hi0 hi1
   obtain ⟨vk, rfl, hrk⟩ := hM
   have hto : ((s.blocks.length : Int) - 1).toNat = s.blocks.length - 1 := by omega
   have hvk : w7.cell? ⟨gb, ((s.blocks.length : Int) - 1).toNat * 1 + 0, none⟩ = some vk := hcc 0 vk rfl
   have hfk : w7.frozen? ⟨gb, ((s.blocks.length : Int) - 1).toNat * 1 + 0, none⟩ = false := hfz 0
   rw [Nat.mul_one, Nat.add_zero, hto] at hvk hfk
   rw [hto] at hrk
   obtain ⟨hgx2, v5, hkx, hr5⟩ := HX.out
   obtain ⟨xk, hxk⟩ : ∃ xk, xk = s.blocks.getD (s.blocks.length - 1) [] := ⟨_, rfl⟩
   rw [← hxk] at hrk
   have hxl : xk.length ≤ 100000 := by
    rw [hxk, List.getD_eq_getElem?_getD, List.getElem?_eq_getElem (by omega)]
    exact HBB.out _ (List.getElem_mem _)
   obtain ⟨Ak, ck, ek⟩ := Kd.R_slice hrk
   subst ek
   obtain ⟨A5, c5, e5⟩ := Kd.R_slice hr5
   subst e5
   have HH := zA (Kd.H_drew hH)
   have HRk := zA (Kd.R_drew hrk)
   have HR5 := zA (Kd.R_drew hr5)
   have HOk := zA hoki
   have HXk := zA hxk
   have HKx := zA (blk_drew hkx)
   have HTo := zA hto
   have HK8 := zA (blk_drew HK7.out)
   have HR8 := zA (Kd.R_drew HR7.out)
   have HB8 := zA (below_drew HB7.out)
   have hl2 := eq_true (show (1 : Int) ≤ (s.blocks.length : Int) by omega)
   have hvk8 : w7.drew.cell? ⟨gb, s.blocks.length - 1, none⟩ = some (.slice Ak xk.length ck) := hvk
   have hfk8 : w7.drew.frozen? ⟨gb, s.blocks.length - 1, none⟩ = false := hfk
   clear hcl hcc hfz hoki hH hrk hr5 hkx hvk hfk hto hxk HK7 HR7
   refine start_ (n := 17) (S := fun w' => w'.cell? ⟨gp, 5, none⟩ = some (.slice (some ⟨gb, 0, none⟩) s.blocks.length cb) ∧ w'.cell? ⟨gb, s.blocks.length - 1, none⟩ = some (.slice Ak xk.length ck) ∧ w'.cell? ⟨gx, 0, none⟩ = some (.int .i64 F.2.f0) ∧ w'.cell? ⟨gx, 1, none⟩ = some (.int .i64 F.2.f1) ∧ w'.cell? ⟨gx, 2, none⟩ = some (.int .i64 F.2.f2) ∧ w'.cell? ⟨gx, 3, none⟩ = some (.int .i64 F.2.f3) ∧ w'.cell? ⟨gx, 4, none⟩ = some (.string F.2.f4) ∧ w'.cell? ⟨gx, 5, none⟩ = some (.slice A5 F.2.f5.length c5)) (ds := [16]) (bA 17 0) (by kernel_rfl) rfl rfl ⟨(blk_cell HK8.out 5).trans rfl, hvk8, (blk_cell HKx.out 0).trans rfl, (blk_cell HKx.out 1).trans rfl, (blk_cell HKx.out 2).trans rfl, (blk_cell HKx.out 3).trans rfl, (blk_cell HKx.out 4).trans rfl, (blk_cell HKx.out 5).trans rfl⟩ (fun hHeld => ?_); refine with_tabW parser_line.tab16 parser_line.bits16 (fun HT_ HW_ => ?_)
   have HFk := zA hfk8
   have HVk := zA hvk8
   clear hfk8 hvk8
   generalize w7.drew = w8 at HH HRk HR5 HKx HK8 HR8 HB8 HFk HVk hHeld ⊢
   refine pu_ (i := 0) (N := some 90) (bA 17 1) ?_
   refine pu_ (i := 1) (N := some 91) (bA 17 3) ?_
   refine pu_ (i := 2) (N := some 92) (bA 17 7) ?_
   refine pu_ (i := 4) (N := some 94) (bA 17 23) ?_
   refine pu_ (i := 5) (N := some 95) (bA 17 55) ?_
   refine pu_ (i := 6) (N := some 96) (bA 17 119) ?_
   refine pu_ (i := 7) (N := some 97) (bA 17 247) ?_
   refine pu_ (i := 9) (N := some 99) (bA 17 759) ?_
   refine tk_ (i := 3) (N := some 93) (bA 17 767) ?_
   refine tk_ (i := 8) (N := some 98) (bA 17 1023) ?_
   refine pu_ (i := 10) (N := some 100) (bA 17 2047) ?_
   refine tk_ (i := 11) (N := some 101) (bA 17 4095) ?_
   refine tk_ (i := 12) (N := some 102) (bA 17 8191) ?_
   refine one_ (i := 13) (N := some 103) (bA 17 16383) rfl rfl (one_of HT_.out (by kernel_rfl)) (by decide) (fun K hK => ?_)
   refine value_ (v := .slice (some ⟨w8.heap.size, 0, none⟩) 1 1) (w1 := w8.alloc (.cells #[.int .i64 F.2.f0, .int .i64 F.2.f1, .int .i64 F.2.f2, .int .i64 F.2.f3, .string F.2.f4, .slice A5 F.2.f5.length c5] 43)) rfl rfl (by first | (go_simp; done) | (go_simp; with_reducible rfl)) ?_
   have hba := below_alloc (Below.refl w8.heap.size w8) (.cells #[.int .i64 F.2.f0, .int .i64 F.2.f1, .int .i64 F.2.f2, .int .i64 F.2.f3, .string F.2.f4, .slice A5 F.2.f5.length c5] 43)
   refine hK.out _ _ ⟨(hba.cell (zE _ _ hHeld.1)).trans hHeld.1, (hba.cell (zE _ _ hHeld.2.1)).trans hHeld.2.1, (hba.cell (zE _ _ hHeld.2.2.1)).trans hHeld.2.2.1, (hba.cell (zE _ _ hHeld.2.2.2.1)).trans hHeld.2.2.2.1, (hba.cell (zE _ _ hHeld.2.2.2.2.1)).trans hHeld.2.2.2.2.1, (hba.cell (zE _ _ hHeld.2.2.2.2.2.1)).trans hHeld.2.2.2.2.2.1, (hba.cell (zE _ _ hHeld.2.2.2.2.2.2.1)).trans hHeld.2.2.2.2.2.2.1, (hba.cell (zE _ _ hHeld.2.2.2.2.2.2.2)).trans hHeld.2.2.2.2.2.2.2⟩ (fun hHeld2 => ?_)
   clear hK K hHeld hba
   refine norm_ (a' := ?_) ?_ ?_
   rotate_left
   ·show Act.put _ (some 103) _ = _
    simp only [Act.put, List.setIfInBounds_toArray, List.set_cons_zero, List.set_cons_succ, i64_w, i32_w]
    rfl
   have hDw8 : D ≤ w8.heap.size := Nat.le_trans hDw (Nat.le_trans HBc.out.size HB8.out.size)
   refine one_ (i := 14) (N := some 104) (bA 17 32767) rfl rfl (one_of HT_.out (by kernel_rfl)) (by decide) (fun K hK => ?_)
   refine Kd.R_append_step kIns (w0 := w8) D (by rfl) (.tmp 101) (.tmp 103) 29 43 (.agg #[(.int .i64 0), (.int .i64 0), (.int .i64 0), (.int .i64 0), (.string ⟨#[]⟩), (.slice none 0 0)]) 72 rfl Tryd.underlying29 infoIns rfl (by decide) (by omega) (.slice Ak xk.length ck) xk F.2 [.int .i64 F.2.f0, .int .i64 F.2.f1, .int .i64 F.2.f2, .int .i64 F.2.f3, .string F.2.f4, .slice A5 F.2.f5.length c5] (fun q => oki q ∨ w'.heap.size ≤ q) (fun q => w'.heap.size ≤ q) rfl rfl ?hp ?hokp ?hfresh ?HO (Below.refl _ _) hDw8 (by omega) ?_
   case hp => exact kIns_mkM w8 D _ F.2 (Kd.R_lower (Kd.R_mono (Kd.R_bound HR5.out) (fun q hq => hq.2.1)) (Nat.le_trans hDw HBc.out.size))
   case hokp => exact fun q hq => ⟨.inr hq, fun e => by have := (HOk.out q (HRk.out.1 q e.symm)).1.2; omega⟩
   case hfresh => exact fun q hq => .inr (Nat.le_trans HB8.out.size hq)
   case HO => exact Kd.R_mono HRk.out (fun q hq => .inl hq)
   intro v104 w9 ho hb9 hg9 _
   obtain ⟨A9, c9, e9⟩ := Kd.R_slice ho
   subst e9
   rw [show (xk ++ [F.2]).length = xk.length + 1 by simp] at ho ⊢
   have hkb : w9.heap[gb]? = w8.heap[gb]? := hg9.block gb (zE _ _ HVk.out) (fun e => (HOk.out gb (HRk.out.1 gb e.symm)).2 rfl)
   have hkg : w9.heap[gx]? = w8.heap[gx]? := hg9.block gx (blk_lt HKx.out) (fun e => by have := (HOk.out gx (HRk.out.1 gx e.symm)).1.2; omega)
   obtain ⟨csb, hcsb⟩ := Kd.S_typed HSb.out gb (by simp [Value.ownBlock])
   have HCb := zA (hkb.trans (blk_below (blk_below hcsb HBc.out) HB8.out))
   clear hcsb
   have hv9 : w9.cell? ⟨gb, s.blocks.length - 1, none⟩ = some (.slice Ak xk.length ck) := (World.cell?_of_block (w := w8) hkb).trans HVk.out
   have hf9 : w9.frozen? ⟨gb, s.blocks.length - 1, none⟩ = false := (World.frozen?_of_block (w := w8) hkb).trans HFk.out
   have hkp9 := (hb9.block gp lt).trans HK8.out
   have hkx9 := hkg.trans HKx.out
   have HK9 := zA hkp9
   have HR9 := zA (show Kd.R (Kd.int .i64) 3 w9 D (fun _ => True) vh s.head from Kd.R_over' HR8.out (fun k hk => Kd.R_typed HRk.out k hk) (by decide) hg9)
   have HB9 := zA hb9
   have HRn := zA ho
   have HH9 := zA (Kd.H_grown HH.out hg9 (fun k hk => HRk.out.1 k hk))
   clear ho hb9 hkb hkg hg9 hHeld2
   refine hK.out _ _ ⟨(blk_cell hkp9 5).trans rfl, hv9, (blk_cell hkx9 0).trans rfl, (blk_cell hkx9 1).trans rfl, (blk_cell hkx9 2).trans rfl, (blk_cell hkx9 3).trans rfl, (blk_cell hkx9 4).trans rfl, (blk_cell hkx9 5).trans rfl⟩ (fun hHeld => ?_)
   clear hK K hkp9 hkx9
   refine norm_ (a' := ?_) ?_ ?_
   rotate_left
   ·show Act.put _ (some 104) _ = _
    simp only [Act.put, List.setIfInBounds_toArray, List.set_cons_zero, List.set_cons_succ, i64_w, i32_w]
    rfl
   refine pu_ (i := 15) (N := some 105) (bA 17 65535) ?_
   refine last_ (i := 16) (N := none) (bA 17 131071) rfl rfl (one_of HT_.out (by kernel_rfl)) (by decide) (fun K hK => ?_)
   refine skip_ (w1 := ?_) (by rfl) rfl ?_ ?_
   rotate_left
   ·first | (go_simp; done) | (go_simp; rfl)
   refine hK.out _ _ ?_
   clear hK K hv9 hf9 hHeld
   refine done_ (done_of HT_.out (by kernel_rfl)) ?_
   go_wp2_with fail
   go_ret
   have hgbD : D ≤ gb := hgb
   have hgb' : gb < w'.heap.size := by
    have := Kd.S_lt HSb.out gb (by simp [Value.ownBlock])
    exact Nat.lt_of_lt_of_le this HBc.out.size
   obtain ⟨hS9, hg10⟩ := Kd.S_seg (d := Kd.slice 43 kIns) (ok := fun _ => True) (okg := fun q => w'.heap.size ≤ q) (okp := fun q => oki q ∨ w'.heap.size ≤ q) (Kd.H_mono HH9.out (fun k hk => ⟨trivial, by omega⟩)) hi0 hi1 (seg := [.slice A9 (xk.length + 1) c9]) (j := 0) (Nat.le_refl 1) (x' := xk ++ [F.2]) ⟨_, rfl, HRn.out⟩ (fun k hk => hk) (fun k hk => ⟨trivial, by omega⟩)
   have hsz : (Kd.slice 43 kIns).sz = 1 := rfl
   rw [hsz, Nat.mul_one, Nat.add_zero, HTo.out] at hS9
   have hS10 : Kd.S (Kd.slice 43 kIns) 29 (w9.setCell ⟨gb, s.blocks.length - 1, none⟩ (.slice A9 (xk.length + 1) c9)) D (fun _ => True) (.slice (some ⟨gb, 0, none⟩) s.blocks.length cb) (s.blocks.set (s.blocks.length - 1) (xk ++ [F.2])) := by simpa only [World.setCells] using hS9
   have hgpb : gb ≠ gp := by omega
   have HKp : KeptD gp D w (w9.setCell ⟨gb, s.blocks.length - 1, none⟩ (.slice A9 (xk.length + 1) c9)) := ((((KeptD.of_below HBc.out hDw).trans (KeptD.of_below HB8.out (Nat.le_trans hDw HBc.out.size))).trans (KeptD.of_below HB9.out (Nat.le_refl D)))).trans (KeptD.of_below ((Below.refl D w9).setCell (p := ⟨gb, s.blocks.length - 1, none⟩) hgbD _) (Nat.le_refl D))
   refine ⟨by rw [HR4.out]; rfl, fun _ => ?_, HKp, ?_⟩
   ·rw [HR4.out]
    refine ⟨lt, vh, .slice (some ⟨gb, 0, none⟩) s.blocks.length cb, blk_far HK9.out (p := ⟨gb, s.blocks.length - 1, none⟩) (Ne.symm hgpb) _, ?_, ?_⟩
    ·exact Kd.R_set HR9.out HCb.out (by decide) _ _
    ·show Kd.S _ _ _ _ _ _ (s.blocks.set (s.blocks.length - 1) (s.blocks.getD (s.blocks.length - 1) [] ++ [F.2]))
     rw [← HXk.out]
     exact hS10
   ·exact ((below_step (below_step HB.out HBc.out) HB8.out).trans (HB9.out.mono (Nat.le_trans hD (Nat.le_of_lt lt)))).setCell (p := ⟨gb, s.blocks.length - 1, none⟩) (by show _ ≤ gb; omega) _
end Go.Proofs.YtniknpjeknmpjaaDoor.Q
