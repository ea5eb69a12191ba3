/- TextBehind: parts of the proofs, put together. -/
import Derived.SizedLaws
import Derived.Deep.Slices
import Derived.ProofKit
import Derived.Test.YtniknpjeknmpjaaDoorProg
import Derived.Below
import Derived.Deep.Draws
import Derived.Deep.AppendLies
import Derived.Maps.AppendAt
import Derived.OwnWalk
import Derived.Laws.BytesArg
import Derived.Laws.MakeOwn
import Derived.Laws.OwnMore
import Derived.Deep.OwnRows
import Derived.Tactics
import Derived.Lib.ConvBytes
import Derived.Laws.Slices
import Derived.WalkKit
import Derived.KernelRfl
import Derived.RowKit3
import Derived.Deep.LoopGhost
import Derived.Deep.QuietTactic
import Derived.BigQuiet
import Derived.WideLaws
import Derived.Deep.DeepCutAuto
import Derived.Deep.CutBlock
import Derived.Deep.RegionHeld3
import Derived.Laws.Rows
import Derived.Lib.AppendStr
import Derived.ArgAppend
import Derived.Laws.IdiomCopy
import Derived.OrdersHeld
import Derived.Laws.BitsLemmas
import Derived.RowKit
import Derived.Ground.NamesProg
import Derived.Shelf.SlGeneric
import Derived.Shelf.LaysM
import Derived.Shelf.Strings.SlTrimAscii
import Derived.Shelf.Strings.Search2
import Derived.Shelf.Strings.Search3
import Derived.Shelf.Strings.Count
import Derived.Shelf.Strings.Split
import Derived.Shelf.Strconv.ErrVarAll
import Derived.Shelf.Strconv.Itoa3
import Derived.Shelf.Strings.OnBuilder
import Derived.Shelf.Small.Wraps
import Derived.Shelf.Strings.Prefix
import Derived.Shelf.Small.Strs
import Derived.Test.YtniknpjeknmpjaaDoorRows
import Derived.Lib.LaidU8
import Derived.Lib.LaidTab
import Derived.Stop.LaidErr
import Derived.Lib.QuietBelow
import Derived.OpenShut
import Derived.RangeFuncNested
import Derived.RangeFuncBound
import Derived.RangeFuncCalls
import Derived.RangeFuncLeaves
import Derived.Shelf.Abstract
import Derived.Shelf.RegionOpen
import Derived.OwnWalkIn
import Derived.TacticsInMore
import Derived.LoopNIn
import Derived.LoopIn
import Derived.Test.YtniknpjeknmpjaaDoorMTextBehind1
namespace Go.Proofs.YtniknpjeknmpjaaDoor.Open
open Go Go.Proofs.YtniknpjeknmpjaaDoorW.PrintWords
def Opens (P : Program) (t : TypeId) {α : Type} (d : Kd α) (G : α → Prop) : Prop :=
 P.cellsOf t = d.sz ∧ ∀ {H : Type} (enc : TypeId × Value → H) (w : World) (fuel : Nat) (cs : List Value) (x : DataW H × List MemPlace),
  DataW.trod enc P w 0 (fun _ => true) true fuel t cs = some x → (∀ n ∈ x.1.weights P t, n ≤ 140737488351232) → ∃ y, d.K w y cs ∧ G y
theorem Opens.int {P : Program} {t : TypeId} {k : IntKind} (ht : P.underlying t = some (.int k)) (hc : P.cellsOf t = 1) : Opens P t (Kd.int k) (fun n => (Lit.int k n).wf = true) := by
 refine ⟨hc, fun enc w fuel cs x h _ => ?_⟩
 obtain ⟨n, rfl, _, hw⟩ := DataW.trod_int ht h
 exact ⟨n, rfl, hw⟩
theorem Opens.bool {P : Program} {t : TypeId} (ht : P.underlying t = some .bool) (hc : P.cellsOf t = 1) : Opens P t Kd.bool (fun _ => True) := by
 refine ⟨hc, fun enc w fuel cs x h _ => ?_⟩
 obtain ⟨b, rfl, _⟩ := DataW.trod_bool ht h
 exact ⟨b, rfl, trivial⟩
theorem Opens.string {P : Program} {t : TypeId} (ht : P.underlying t = some .string) (hc : P.cellsOf t = 1) : Opens P t Kd.string (fun s => s.size ≤ 140737488351232) := by
 refine ⟨hc, fun enc w fuel cs x h hz => ?_⟩
 obtain ⟨s, rfl, rfl, _⟩ := DataW.trod_string ht h
 refine ⟨s, rfl, ?_⟩
 have := hz s.data.toList.length (by simp [DataW.weights])
 simpa using this
theorem weightsAll_mem {H : Type} {P : Program} {e : TypeId} : ∀ {l : List (DataW H)} {d : DataW H}, d ∈ l → ∀ n ∈ d.weights P e, n ∈ DataW.weightsAll P e l
 | a :: l, d, hd, n, hn => by
  simp only [DataW.weightsAll, List.mem_append]
  rcases List.mem_cons.1 hd with rfl | hd
  ·exact Or.inl hn
  ·exact Or.inr (weightsAll_mem hd n hn)
theorem choose_list {α : Type} {Q : Nat → α → Prop} : ∀ (n : Nat), (∀ i, i < n → ∃ y, Q i y) → ∃ ys : List α, ys.length = n ∧ ∀ i y, ys[i]? = some y → Q i y
 | 0, _ => ⟨[], rfl, fun i y h => by simp at h⟩
 | n + 1, h => by
  obtain ⟨ys, hl, hq⟩ := choose_list n (fun i hi => h i (by omega))
  obtain ⟨y, hy⟩ := h n (by omega)
  refine ⟨ys ++ [y], by simp [hl], fun i z hz => ?_⟩
  rcases Nat.lt_or_ge i n with hi | hi
  ·rw [List.getElem?_append_left (by omega)] at hz
   exact hq i z hz
  ·rw [List.getElem?_append_right (by omega)] at hz
   have : i = n := by
    have := (List.getElem?_eq_some_iff.1 hz).1
    simp at this
    omega
   subst this
   rw [hl, Nat.sub_self] at hz
   simp at hz
   subst hz
   exact hy
theorem Opens.slice {P : Program} {t e : TypeId} {α : Type} {d : Kd α} {G : α → Prop} {B : Nat} (ht : P.underlying t = some (.slice e)) (hc : P.cellsOf t = 1) (hB : P.bytesOf e = B) (hd : Opens P e d G) :
 Opens P t (Kd.slice e d) (fun xs => xs.length * B ≤ 140737488351232 ∧ xs.length ≤ maxLen ∧ ∀ x ∈ xs, G x) := by
 refine ⟨hc, fun enc w fuel cs x h hz => ?_⟩
 rcases Go.Deep.open_slice ht h with ⟨rfl, rfl⟩ | ⟨a, len, cap, m, n, D, Pl, rfl, _, hl, hm, hmc, rfl, hel⟩
 ·refine ⟨[], ⟨none, 0, rfl, Nat.le_refl _, ?_⟩, by simp [maxLen]⟩
  exact ⟨rfl, by simp, fun h => absurd h (by simp)⟩
 ·replace hmc : m = cap := by rw [hmc]; rfl
  subst hmc
  have hw : ∀ i, i < len → ∀ q ∈ (D i).weights P e, q ≤ 140737488351232 := by
   intro i hi q hq
   apply hz
   simp only [DataW.weights, ht, List.mem_cons, List.mem_append]
   right; left
   exact weightsAll_mem (d := D i) (List.mem_map.2 ⟨i, by simpa using hi, rfl⟩) q hq
  have hbig : (len + (m - len)) * B ≤ 140737488351232 := by
   apply hz
   simp only [DataW.weights, ht, List.mem_cons, List.length_map, List.length_range, hB]
   left; trivial
  obtain ⟨ys, hyl, hys⟩ := choose_list (Q := fun i y => ∃ c, w.cells? 0 (a.add (i * P.cellsOf e)) (P.cellsOf e) = some c ∧ d.K w y c ∧ G y) len (fun i hi => by
   obtain ⟨c, h1, h2⟩ := hel i (by omega)
   obtain ⟨y, hk, hg⟩ := hd.2 enc w _ _ _ h2 (hw i hi)
   exact ⟨y, c, h1, hk, hg⟩)
  refine ⟨ys, ⟨some a, m, by rw [hyl], by omega, ?_⟩, ?_, by omega, ?_⟩
  ·refine ⟨rfl, by unfold maxLen at hm; omega, fun _ => ⟨a, rfl, fun j p hj => ?_⟩⟩
   obtain ⟨c, h1, hk, hg⟩ := hys j p hj
   obtain ⟨_, h3, h4⟩ := World.cells?_some h1
   refine ⟨c, by rw [h3, hd.1], hk, fun i u hu => ?_⟩
   have hi : i < P.cellsOf e := by
    have := (List.getElem?_eq_some_iff.1 hu).1
    omega
   have h5 := h4 i hi
   rw [hu] at h5
   rw [← h5, ← hd.1]
   congr 1
   rw [Addr.add_add]
  ·rw [hyl]
   exact Nat.le_trans (Nat.mul_le_mul_right _ (by omega)) hbig
  ·intro y hy
   obtain ⟨i, hi⟩ := List.getElem?_of_mem hy
   obtain ⟨_, _, _, hg⟩ := hys i y hi
   exact hg
structure OpensFs (P : Program) (fs : List Field) (off : Nat) {α : Type} (d : Kd α) (G : α → Prop) : Prop where
 out : ∀ (H : Type) (enc : TypeId × Value → H) (w : World) (fuel : Nat) (cs : List Value) (xs : List (DataW H × List MemPlace)), cs.length = off + d.sz → xs.length = fs.length →
  (∀ (i : Nat) (f : Field), fs[i]? = some f → DataW.trod enc P w 0 (fun _ => true) true fuel f.type ((cs.drop f.offset).take (P.cellsOf f.type)) = xs[i]?) →
  (∀ n ∈ DataW.weightsEach P (fs.map (·.type)) (xs.map (·.1)), n ≤ 140737488351232) → ∃ y, d.K w y (cs.drop off) ∧ G y
theorem OpensFs.one {P : Program} {f : Field} {off : Nat} {α : Type} {d : Kd α} {G : α → Prop} (ho : f.offset = off) (hd : Opens P f.type d G) : OpensFs P [f] off d G := by
 refine ⟨fun H enc w fuel cs xs hl hx hf hz => ?_⟩
 have h0 := hf 0 f rfl
 obtain ⟨x, rfl⟩ : ∃ x, xs = [x] := by
  match xs, hx with
  | [x], _ => exact ⟨x, rfl⟩
 have h1 : (cs.drop f.offset).take (P.cellsOf f.type) = cs.drop off := by
  rw [ho, hd.1, List.take_of_length_le (by simp; omega)]
 rw [h1] at h0
 exact hd.2 enc w fuel _ x h0 (fun n hn => hz n (by simpa [DataW.weightsEach] using hn))
theorem OpensFs.cons {P : Program} {f : Field} {fs : List Field} {off : Nat} {α β : Type} {d : Kd α} {d2 : Kd β} {G : α → Prop} {G2 : β → Prop} (ho : f.offset = off) (hd : Opens P f.type d G) (h2 : OpensFs P fs (off + d.sz) d2 G2) :
 OpensFs P (f :: fs) off (Kd.pair d d2) (fun y => G y.1 ∧ G2 y.2) := by
 refine ⟨fun H enc w fuel cs xs hl hx hf hz => ?_⟩
 have hp : (Kd.pair d d2).sz = d.sz + d2.sz := rfl
 match xs, hx with
 | x :: xs, hx =>
  have h0 := hf 0 f rfl
  simp only [List.getElem?_cons_zero] at h0
  obtain ⟨y, hk, hg⟩ := hd.2 enc w fuel _ x h0 (fun n hn => hz n (by simp only [List.map_cons, DataW.weightsEach, List.mem_append]; exact Or.inl hn))
  obtain ⟨y2, hk2, hg2⟩ := h2.out H enc w fuel cs xs (by omega) (by simpa using hx) (fun i g hi => by simpa using hf (i + 1) g (by simpa using hi)) (fun n hn => hz n (by simp only [List.map_cons, DataW.weightsEach, List.mem_append]; exact Or.inr hn))
  refine ⟨(y, y2), ⟨_, _, ?_, hk, hk2⟩, hg, hg2⟩
  rw [ho, hd.1, ← List.drop_drop, List.take_append_drop]
theorem Opens.struct {P : Program} {t : TypeId} {fs : Array Field} {α : Type} {d : Kd α} {G : α → Prop} (ht : P.underlying t = some (.struct fs)) (hc : P.cellsOf t = d.sz) (hf : OpensFs P fs.toList 0 d G) : Opens P t d G := by
 refine ⟨hc, fun enc w fuel cs x h hz => ?_⟩
 obtain ⟨xs, n, rfl, rfl, hl, hx, hi⟩ := DataW.trod_struct ht h
 have := hf.out _ enc w n cs xs (by omega) (by simpa using hx) (fun i f h => hi i f (by simpa using h)) (fun q hq => hz q (by simpa [DataW.weights, ht] using hq))
 simpa using this
theorem Opens.iso {P : Program} {t : TypeId} {α β : Type} {d : Kd α} {G : α → Prop} (f : β → α) (g : α → β) (hg : ∀ y, f (g y) = y) (h : Opens P t d G) : Opens P t (Kd.iso d f) (fun x => G (f x)) := by
 refine ⟨h.1, fun enc w fuel cs x hx hz => ?_⟩
 obtain ⟨y, hk, hy⟩ := h.2 enc w fuel cs x hx hz
 exact ⟨g y, by show d.K w (f (g y)) cs; rw [hg]; exact hk, by show G (f (g y)); rw [hg]; exact hy⟩
theorem Opens.imp {P : Program} {t : TypeId} {α : Type} {d : Kd α} {G G' : α → Prop} (h : Opens P t d G) (hG : ∀ y, G y → G' y) : Opens P t d G' :=
 ⟨h.1, fun enc w fuel cs x hx hz => by
  obtain ⟨y, hk, hy⟩ := h.2 enc w fuel cs x hx hz
  exact ⟨y, hk, hG y hy⟩⟩
theorem Opens.arg {P : Program} {t : TypeId} {α : Type} {d : Kd α} {G : α → Prop} (h : Opens P t d G) {H : Type} {enc : TypeId × Value → H} {w : World} {v : Value} {x : DataW H} {ps : List MemPlace} (ht : DataW.Trod enc P w 0 (fun _ => true) true t v x ps)
 {ts : List TypeId} {ds : List (DataW H)} (hsz : (DataW.weightsEach P ts ds).all (· ≤ reachBytes) = true) {j : Nat} (h1 : ts[j]? = some t) (h2 : ds[j]? = some x) : ∃ y, d.K w y v.cells.toList ∧ G y := by
 obtain ⟨fuel, hf⟩ := ht
 refine h.2 enc w fuel _ _ hf (fun n hn => ?_)
 have := List.all_eq_true.1 hsz _ (DataW.weights_mem_each h1 h2 n hn)
 exact zB this
end Go.Proofs.YtniknpjeknmpjaaDoor.Open
namespace Go.Proofs.YtniknpjeknmpjaaDoor.Q
open Go.RowKit Go.Proofs.YtniknpjeknmpjaaDoorW.PrintWords Go.Proofs.YtniknpjeknmpjaaDoorW.PrintLast Go.Proofs.YtniknpjeknmpjaaDoorW.PrintMore
attribute [local go_sem] max2_int min2_int max_two min_two max_three min_three max_four min_four
set_option linter.unusedVariables false
set_option linter.unusedSimpArgs false
def errW : Option Int → Value
 | none => .nilIface
 | some c => .iface 140 (.int .i64 c)
theorem errW_none : errW none = .nilIface := rfl
theorem errW_some (c : Int) : errW (some c) = .iface 140 (.int .i64 c) := rfl
theorem info3 : (Tryd.prog.info? 3).map (fun i => (i.zero, i.size, i.bytes)) = some (some (.int .i64 0), 1, 8) := by kernel_rfl
theorem info9 : (Tryd.prog.info? 9).map (fun i => (i.zero, i.size, i.bytes)) = some (some (.string ⟨#[]⟩), 1, 16) := by kernel_rfl
-- the values' own types

structure SIns where
 f0 : Int
 f1 : Int
 f2 : Int
 f3 : Int
 f4 : ByteArray
 f5 : (List Int)
def zIns : SIns := ⟨(0 : Int), (0 : Int), (0 : Int), (0 : Int), (⟨#[]⟩ : ByteArray), ([] : List Int)⟩
def kIns : Kd SIns := Kd.iso (Kd.pair (Kd.int .i64) (Kd.pair (Kd.int .i64) (Kd.pair (Kd.int .i64) (Kd.pair (Kd.int .i64) (Kd.pair Kd.string (Kd.slice 3 (Kd.int .i64))))))) (fun x : SIns => (x.f0, x.f1, x.f2, x.f3, x.f4, x.f5))
theorem kIns_open {w : World} {x : SIns} {cs : List Value} (h : kIns.K w x cs) : ∃ A5 c5, cs = [.int .i64 x.f0, .int .i64 x.f1, .int .i64 x.f2, .int .i64 x.f3, .string x.f4, .slice A5 x.f5.length c5] ∧ x.f5.length ≤ c5 ∧ (Kd.int .i64).C w A5 x.f5.length x.f5 := by
 obtain ⟨_, _, rfl, rfl, ⟨_, _, rfl, rfl, ⟨_, _, rfl, rfl, ⟨_, _, rfl, rfl, ⟨_, _, rfl, rfl, ⟨A5, c5, rfl, l5, g5⟩⟩⟩⟩⟩⟩ := h
 exact ⟨A5, c5, rfl, l5, g5⟩
theorem kIns_mkM (w : World) (base : Nat) (ok : Nat → Prop) (x : SIns) {v5 : Value} (g5 : (Kd.int .i64).R 3 w base ok v5 x.f5) : kIns.M w base ok x [.int .i64 x.f0, .int .i64 x.f1, .int .i64 x.f2, .int .i64 x.f3, .string x.f4, v5] := ⟨[.int .i64 x.f0], [.int .i64 x.f1, .int .i64 x.f2, .int .i64 x.f3, .string x.f4, v5], rfl, rfl, ⟨[.int .i64 x.f1], [.int .i64 x.f2, .int .i64 x.f3, .string x.f4, v5], rfl, rfl, ⟨[.int .i64 x.f2], [.int .i64 x.f3, .string x.f4, v5], rfl, rfl, ⟨[.int .i64 x.f3], [.string x.f4, v5], rfl, rfl, ⟨[.string x.f4], [v5], rfl, rfl, ⟨v5, rfl, g5⟩⟩⟩⟩⟩⟩
def rd_TIns (xs : List SIns) (i : Int) : SIns := xs.getD i.toNat zIns
theorem at_TIns {w : World} {A : Option Addr} {n : Nat} {xs : List SIns} (h : Kd.C kIns w A n xs) (i : Int) (h0 : 0 ≤ i) (h1 : i < n) : ∃ ad A5 c5, A = some ad ∧ w.cell? (ad.add (i.toNat * 6)) = some (.int .i64 (rd_TIns xs i).f0) ∧ w.cell? ⟨(ad.add (i.toNat * 6)).block, (ad.add (i.toNat * 6)).off + 1, none⟩ = some (.int .i64 (rd_TIns xs i).f1) ∧ w.cell? ⟨(ad.add (i.toNat * 6)).block, (ad.add (i.toNat * 6)).off + 2, none⟩ = some (.int .i64 (rd_TIns xs i).f2) ∧ w.cell? ⟨(ad.add (i.toNat * 6)).block, (ad.add (i.toNat * 6)).off + 3, none⟩ = some (.int .i64 (rd_TIns xs i).f3) ∧ w.cell? ⟨(ad.add (i.toNat * 6)).block, (ad.add (i.toNat * 6)).off + 4, none⟩ = some (.string (rd_TIns xs i).f4) ∧ w.cell? ⟨(ad.add (i.toNat * 6)).block, (ad.add (i.toNat * 6)).off + 5, none⟩ = some (.slice A5 (rd_TIns xs i).f5.length c5) ∧ (rd_TIns xs i).f5.length ≤ c5 ∧ (Kd.int .i64).C w A5 (rd_TIns xs i).f5.length (rd_TIns xs i).f5 := by
 obtain ⟨ad, c, e, _, hK, hc0⟩ := Kd.C_get h zIns i h0 h1
 have hc : ∀ j u, c[j]? = some u → w.cell? (ad.add (i.toNat * 6 + j)) = some u := hc0
 obtain ⟨A5, c5, rfl, l5, g5⟩ := kIns_open hK
 exact ⟨ad, A5, c5, e, hc 0 _ rfl, by rw [← add_field _ _ 1 (by omega)]; exact hc 1 _ rfl, by rw [← add_field _ _ 2 (by omega)]; exact hc 2 _ rfl, by rw [← add_field _ _ 3 (by omega)]; exact hc 3 _ rfl, by rw [← add_field _ _ 4 (by omega)]; exact hc 4 _ rfl, by rw [← add_field _ _ 5 (by omega)]; exact hc 5 _ rfl, l5, g5⟩
def rd_LIns (xs : List (List SIns)) (i : Int) : (List SIns) := xs.getD i.toNat ([] : List SIns)
theorem at_LIns {w : World} {A : Option Addr} {n : Nat} {xs : List (List SIns)} (h : Kd.C (Kd.slice 43 kIns) w A n xs) (i : Int) (h0 : 0 ≤ i) (h1 : i < n) : ∃ ad A0 c0, A = some ad ∧ w.cell? (ad.add i.toNat) = some (.slice A0 (rd_LIns xs i).length c0) ∧ (rd_LIns xs i).length ≤ c0 ∧ kIns.C w A0 (rd_LIns xs i).length (rd_LIns xs i) := by
 obtain ⟨ad, c, e, _, hK, hc0⟩ := Kd.C_get h ([] : List SIns) i h0 h1
 have hc : ∀ j u, c[j]? = some u → w.cell? (ad.add (i.toNat * 1 + j)) = some u := hc0
 obtain ⟨A0, c0, rfl, l0, g0⟩ := hK
 exact ⟨ad, A0, c0, e, by have hq := hc 0 _ rfl; rwa [Nat.mul_one, Nat.add_zero] at hq, l0, g0⟩


end Go.Proofs.YtniknpjeknmpjaaDoor.Q
namespace Go.Proofs.YtniknpjeknmpjaaDoor.Q
open Go.RowKit Go.Proofs.YtniknpjeknmpjaaDoorW.PrintWords Go.Proofs.YtniknpjeknmpjaaDoorW.PrintLast Go.Proofs.YtniknpjeknmpjaaDoorW.PrintMore
set_option linter.unusedVariables false
section
variable {P Q : Prop}
theorem qB (h : P := by repeat (first | (with_reducible first | exact HB.out | apply below_alloc | apply pw_below_drewN | apply below_drew1 | refine below_set ?_ (Aside0.out (by assumption))) | exact HB.out)) : P := h
theorem qA (h : P := by first | (with_reducible assumption) | assumption) : P := h
theorem qE (h : P := by first | rfl | (simp [errW_none, errW_some] <;> rfl) | (simp [*, errW_none, errW_some] <;> rfl)) : P := h
theorem qT (h : P := by first | rfl | (simp; done) | (simp [*]; done)) : P := h
theorem qO (h : P := by first | omega | exact Nat.le_refl _) : P := h
theorem qD (h : P := by repeat (first | exact Drawn0.refl _ | apply Drawn0.step)) : P := h
theorem qL (h : P := by (try simp only [List.map_toArray, List.map_cons, List.map_nil]); first | done | rfl | (simp only [List.length_drop, List.length_take]; rfl)) : P := h
theorem qK (q : Q) (h : Q → P := by intro h_; (with_reducible repeat (first | refine blk_drewN ?_ _ | refine blk_drew ?_ | refine blk_alloc ?_ _)); exact h_) : P := h q
theorem qR (q : Q) (h : Q → P := by intro h_; (with_reducible repeat (first | apply Kd.R_alloc | apply Kd.R_drewN | apply Kd.R_drew)); exact h_) : P := h q
theorem qCB (q : Q) (h : Q → P := by intro h_; repeat (first | exact (Kd.C_below h_ HB.out) | (with_reducible refine Kd.C_alloc ?_ _) | (with_reducible refine Kd.C_drewN ?_ _) | (with_reducible refine Kd.C_drew ?_))) : P := h q
end
theorem qW {w0 w w1 : World} {g : Nat} {o : Obj} (bk : Aside0 (w0.heap[g]? = some o)) (hb : Below w.heap.size w w1) (h : w0.heap[g]? = some o → w.heap[g]? = some o := by intro h_; (with_reducible repeat (first | refine blk_drewN ?_ _ | refine blk_drew ?_ | refine blk_alloc ?_ _)); exact h_) : Aside0 (w1.heap[g]? = some o) := ⟨blk_below (h bk.out) hb⟩
theorem qH {w W w2 : World} (hb : Below W.heap.size W w2) (h : Below w.heap.size w W := by repeat (first | (with_reducible first | exact HB.out | apply below_alloc | apply pw_below_drewN | apply below_drew1 | refine below_set ?_ (Aside0.out (by assumption))) | exact HB.out)) : Aside0 (Below w.heap.size w w2) := ⟨below_step h hb⟩
theorem qG {w W : World} {g : Nat} (hg : g = W.heap.size) (h : Below w.heap.size w W := by repeat (first | (with_reducible first | exact HB.out | apply below_alloc | apply pw_below_drewN | apply below_drew1 | refine below_set ?_ (Aside0.out (by assumption))) | exact HB.out)) : Aside0 (w.heap.size ≤ g) := ⟨by rw [hg]; exact below_size h⟩
theorem qb {α β : Type} {x : Option α} {f : α → Option β} {r : β} (h : x.bind f = some r) : ∃ t, Aside0 (x = some t) ∧ f t = some r := by
 obtain ⟨t, h1, h2⟩ := Option.bind_eq_some_iff.mp h
 exact ⟨t, ⟨h1⟩, h2⟩
theorem qe {α : Type} [BEq α] [LawfulBEq α] {a b : α} (h : a = b) : (a == b) = true ∧ (a != b) = false := ⟨beq_iff_eq.mpr h, bne_eq_false_iff_eq.mpr h⟩
theorem qn {α : Type} [BEq α] [LawfulBEq α] {a b : α} (h : ¬ a = b) : (a == b) = false ∧ (a != b) = true := ⟨beq_eq_false_iff_ne.mpr h, bne_iff_ne.mpr h⟩
theorem bk1 {w : World} {g : Nat} {t : TypeId} {c0 : Value} (h : w.heap[g]? = some (.cells #[c0] t (0, 0))) : w.cell? ⟨g, 0, none⟩ = some c0 ∧ w.frozen? ⟨g, 0, none⟩ = false := ⟨(blk_cell h 0).trans rfl, blk_frozen h 0⟩
theorem bk3 {w : World} {g : Nat} {t : TypeId} {c0 c1 c2 : Value} (h : w.heap[g]? = some (.cells #[c0, c1, c2] t (0, 0))) : w.cell? ⟨g, 0, none⟩ = some c0 ∧ w.cell? ⟨g, 1, none⟩ = some c1 ∧ w.cell? ⟨g, 2, none⟩ = some c2 ∧ w.frozen? ⟨g, 0, none⟩ = false ∧ w.frozen? ⟨g, 1, none⟩ = false ∧ w.frozen? ⟨g, 2, none⟩ = false := ⟨(blk_cell h 0).trans rfl, (blk_cell h 1).trans rfl, (blk_cell h 2).trans rfl, blk_frozen h 0, blk_frozen h 1, blk_frozen h 2⟩
theorem bk4 {w : World} {g : Nat} {t : TypeId} {c0 c1 c2 c3 : Value} (h : w.heap[g]? = some (.cells #[c0, c1, c2, c3] t (0, 0))) : w.cell? ⟨g, 0, none⟩ = some c0 ∧ w.cell? ⟨g, 1, none⟩ = some c1 ∧ w.cell? ⟨g, 2, none⟩ = some c2 ∧ w.cell? ⟨g, 3, none⟩ = some c3 ∧ w.frozen? ⟨g, 0, none⟩ = false ∧ w.frozen? ⟨g, 1, none⟩ = false ∧ w.frozen? ⟨g, 2, none⟩ = false ∧ w.frozen? ⟨g, 3, none⟩ = false := ⟨(blk_cell h 0).trans rfl, (blk_cell h 1).trans rfl, (blk_cell h 2).trans rfl, (blk_cell h 3).trans rfl, blk_frozen h 0, blk_frozen h 1, blk_frozen h 2, blk_frozen h 3⟩
theorem bk6 {w : World} {g : Nat} {t : TypeId} {c0 c1 c2 c3 c4 c5 : Value} (h : w.heap[g]? = some (.cells #[c0, c1, c2, c3, c4, c5] t (0, 0))) : w.cell? ⟨g, 0, none⟩ = some c0 ∧ w.cell? ⟨g, 1, none⟩ = some c1 ∧ w.cell? ⟨g, 2, none⟩ = some c2 ∧ w.cell? ⟨g, 3, none⟩ = some c3 ∧ w.cell? ⟨g, 4, none⟩ = some c4 ∧ w.cell? ⟨g, 5, none⟩ = some c5 ∧ w.frozen? ⟨g, 0, none⟩ = false ∧ w.frozen? ⟨g, 1, none⟩ = false ∧ w.frozen? ⟨g, 2, none⟩ = false ∧ w.frozen? ⟨g, 3, none⟩ = false ∧ w.frozen? ⟨g, 4, none⟩ = false ∧ w.frozen? ⟨g, 5, none⟩ = false := ⟨(blk_cell h 0).trans rfl, (blk_cell h 1).trans rfl, (blk_cell h 2).trans rfl, (blk_cell h 3).trans rfl, (blk_cell h 4).trans rfl, (blk_cell h 5).trans rfl, blk_frozen h 0, blk_frozen h 1, blk_frozen h 2, blk_frozen h 3, blk_frozen h 4, blk_frozen h 5⟩
def bA (n m : Nat) : Array Bool := ((List.range n).map m.testBit).toArray
section
variable {P : Program} {ops : Array Oper} {Q : Exit → Act → World → Prop} {md : Region.Mode} {S : World → Prop} {ds : List Nat}
theorem pu_ {i : Nat} {N : Option Tmp} {oi : Oper} {v : Value} {fuel : Nat} {l : Array Bool} {a a' : Act} {w : World} (l' : Array Bool) (h : wpAnyLast P md ops Q S ds fuel l' a' w) (hi : ops[i]? = some oi := by rfl) (hN : oi.dst = N := by rfl) (hc : anyB md ops l l' i = true := by exact any_of HT_.out (by kernel_rfl)) (hQ : ∀ c a w, Q (.panic c) (a.put oi.dst v) w → Q (.panic c) a w := by exact fun _ _ _ h => h) (hy : Yields P ops oi v a := by exact Or.inl ⟨by rfl, by intro w'; first | (go_simp; done) | (go_simp; with_reducible rfl)⟩) (ha : a.put N v = a' := by (conv => lhs; simp only [Act.put, List.setIfInBounds_toArray, List.set_cons_zero, List.set_cons_succ, i64_w, i32_w]); try rfl) : wpAnyLast P md ops Q S ds (fuel + 1) l a w := pure_ l' hi hN hc hQ hy ha h
theorem tk_ {i : Nat} {N : Option Tmp} {oi : Oper} {v : Value} {fuel : Nat} {l : Array Bool} {a a' : Act} {w : World} (l' : Array Bool) (h : wpAnyLast P md ops Q S ds fuel l' a' w) (hi : ops[i]? = some oi := by rfl) (hN : oi.dst = N := by rfl) (hc : takeB md ops ds l l' i = true := by exact take_ofW HT_.out HW_.out (by kernel_rfl)) (hQ : ∀ c a w, Q (.panic c) (a.put oi.dst v) w → Q (.panic c) a w := by exact fun _ _ _ h => h) (hy : YieldsIf P ops S oi v a := by refine Or.inl ⟨by rfl, ?_⟩; intro w' s_; repeat (obtain ⟨s0_, s_⟩ : _ ∧ _ := s_); first | (go_simp; done) | (go_simp; with_reducible rfl)) (hS : S w := by exact hHeld) (ha : a.put N v = a' := by (conv => lhs; simp only [Act.put, List.setIfInBounds_toArray, List.set_cons_zero, List.set_cons_succ, i64_w, i32_w]); try rfl) : wpAnyLast P md ops Q S ds (fuel + 1) l a w := take_ l' hi hN hc hQ hy hS ha h
end
end Go.Proofs.YtniknpjeknmpjaaDoor.Q
namespace Go.Proofs
open Go.Shelf
def Tryd.lays160_ren : Go.Shelf.Ren := ⟨fun | 160 => 49 | 232 => 64 | 231 => 63 | 227 => 65 | 234 => 67 | 233 => 66 | 236 => 69 | 235 => 68 | 228 => 78 | 271 => 81 | 151 => 80 | 197 => 79 | 120 => 94 | 152 => 93 | 260 => 92 | 137 => 53 | 119 => 108 | 224 => 101 | 225 => 100 | 217 => 71 | 266 => 86 | n => n, fun | 9 => 9 | 4 => 4 | 3 => 3 | 5 => 5 | 117 => 111 | 116 => 110 | 0 => 0 | 124 => 114 | 21 => 21 | 105 => 120 | 46 => 138 | 119 => 146 | 139 => 149 | 138 => 148 | n => n, fun | 3 => 2 | 4 => 3 | n => n⟩
theorem Tryd.lays160 : Go.Proofs.Lays.n160 Tryd.prog Tryd.lays160_ren := {
 mixed := by kernel_rfl
 f119 := Tryd.func108.trans (congrArg some (by kernel_rfl))
 f120 := Tryd.func94.trans (congrArg some (by kernel_rfl))
 f137 := Tryd.func53.trans (congrArg some (by kernel_rfl))
 f151 := Tryd.func80.trans (congrArg some (by kernel_rfl))
 f152 := Tryd.func93.trans (congrArg some (by kernel_rfl))
 f160 := Tryd.func49.trans (congrArg some (by kernel_rfl))
 f197 := Tryd.func79.trans (congrArg some (by kernel_rfl))
 f217 := Tryd.func71.trans (congrArg some (by kernel_rfl))
 f224 := Tryd.func101.trans (congrArg some (by kernel_rfl))
 f225 := Tryd.func100.trans (congrArg some (by kernel_rfl))
 f227 := Tryd.func65.trans (congrArg some (by kernel_rfl))
 f228 := Tryd.func78.trans (congrArg some (by kernel_rfl))
 f231 := Tryd.func63.trans (congrArg some (by kernel_rfl))
 f232 := Tryd.func64.trans (congrArg some (by kernel_rfl))
 f233 := Tryd.func66.trans (congrArg some (by kernel_rfl))
 f234 := Tryd.func67.trans (congrArg some (by kernel_rfl))
 f235 := Tryd.func68.trans (congrArg some (by kernel_rfl))
 f236 := Tryd.func69.trans (congrArg some (by kernel_rfl))
 f260 := Tryd.func92.trans (congrArg some (by kernel_rfl))
 f266 := Tryd.func86.trans (congrArg some (by kernel_rfl))
 f271 := Tryd.func81.trans (congrArg some (by kernel_rfl))
 t0 := Tryd.underlying0
 a0 := Tryd.isAgg0
 z0 := Tryd.sizeOf0
 v0 := Tryd.zeroValue0
 t3 := Tryd.underlying3
 a3 := Tryd.isAgg3
 z3 := Tryd.sizeOf3
 v3 := Tryd.zeroValue3
 t4 := Tryd.underlying4
 a4 := Tryd.isAgg4
 z4 := Tryd.sizeOf4
 v4 := Tryd.zeroValue4
 t5 := Tryd.underlying5
 a5 := Tryd.isAgg5
 z5 := Tryd.sizeOf5
 v5 := Tryd.zeroValue5
 t9 := Tryd.underlying9
 a9 := Tryd.isAgg9
 z9 := Tryd.sizeOf9
 v9 := Tryd.zeroValue9
 t21 := Tryd.underlying21
 a21 := Tryd.isAgg21
 z21 := Tryd.sizeOf21
 v21 := Tryd.zeroValue21
 t46 := Tryd.underlying138
 a46 := Tryd.isAgg138
 z46 := Tryd.sizeOf138
 v46 := Tryd.zeroValue138
 t105 := Tryd.underlying120
 a105 := Tryd.isAgg120
 z105 := Tryd.sizeOf120
 v105 := Tryd.zeroValue120
 t116 := Tryd.underlying110
 a116 := Tryd.isAgg110
 z116 := Tryd.sizeOf110
 t117 := Tryd.underlying111
 a117 := Tryd.isAgg111
 z117 := Tryd.sizeOf111
 v117 := Tryd.zeroValue111
 t119 := Tryd.underlying146
 a119 := Tryd.isAgg146
 z119 := Tryd.sizeOf146
 t124 := Tryd.underlying114
 a124 := Tryd.isAgg114
 z124 := Tryd.sizeOf114
 v124 := Tryd.zeroValue114
 t138 := Tryd.underlying148
 a138 := Tryd.isAgg148
 z138 := Tryd.sizeOf148
 v138 := Tryd.zeroValue148
 t139 := Tryd.underlying149
 a139 := Tryd.isAgg149
 z139 := Tryd.sizeOf149
 v139 := Tryd.zeroValue149
 g3 := by kernel_rfl
 g4 := by kernel_rfl }
def Tryd.lays104_ren : Go.Shelf.Ren := ⟨fun | 104 => 39 | 211 => 54 | 207 => 72 | n => n, fun | 9 => 9 | 4 => 4 | 24 => 81 | 3 => 3 | n => n, fun | n => n⟩
theorem Tryd.lays104 : Go.Proofs.Lays.n104 Tryd.prog Tryd.lays104_ren := {
 mixed := by kernel_rfl
 f104 := Tryd.func39.trans (congrArg some (by kernel_rfl))
 f207 := Tryd.func72.trans (congrArg some (by kernel_rfl))
 f211 := Tryd.func54.trans (congrArg some (by kernel_rfl))
 t3 := Tryd.underlying3
 a3 := Tryd.isAgg3
 z3 := Tryd.sizeOf3
 v3 := Tryd.zeroValue3
 t4 := Tryd.underlying4
 a4 := Tryd.isAgg4
 z4 := Tryd.sizeOf4
 v4 := Tryd.zeroValue4
 t9 := Tryd.underlying9
 a9 := Tryd.isAgg9
 z9 := Tryd.sizeOf9
 v9 := Tryd.zeroValue9
 t24 := Tryd.underlying81
 a24 := Tryd.isAgg81
 z24 := Tryd.sizeOf81
 v24 := Tryd.zeroValue81 }
def Tryd.lays100_ren : Go.Shelf.Ren := ⟨fun | 100 => 58 | 207 => 72 | n => n, fun | 9 => 9 | 4 => 4 | 3 => 3 | n => n, fun | n => n⟩
theorem Tryd.lays100 : Go.Proofs.Lays.n100 Tryd.prog Tryd.lays100_ren := {
 mixed := by kernel_rfl
 f100 := Tryd.func58.trans (congrArg some (by kernel_rfl))
 f207 := Tryd.func72.trans (congrArg some (by kernel_rfl))
 t3 := Tryd.underlying3
 a3 := Tryd.isAgg3
 z3 := Tryd.sizeOf3
 v3 := Tryd.zeroValue3
 t4 := Tryd.underlying4
 a4 := Tryd.isAgg4
 z4 := Tryd.sizeOf4
 v4 := Tryd.zeroValue4
 t9 := Tryd.underlying9
 a9 := Tryd.isAgg9
 z9 := Tryd.sizeOf9
 v9 := Tryd.zeroValue9 }
def Tryd.lays137_ren : Go.Shelf.Ren := ⟨fun | 137 => 53 | 217 => 71 | 266 => 86 | n => n, fun | 9 => 9 | 5 => 5 | 3 => 3 | n => n, fun | n => n⟩
theorem Tryd.lays137 : Go.Proofs.Lays.n137 Tryd.prog Tryd.lays137_ren := {
 mixed := by kernel_rfl
 f137 := Tryd.func53.trans (congrArg some (by kernel_rfl))
 f217 := Tryd.func71.trans (congrArg some (by kernel_rfl))
 f266 := Tryd.func86.trans (congrArg some (by kernel_rfl))
 t3 := Tryd.underlying3
 a3 := Tryd.isAgg3
 z3 := Tryd.sizeOf3
 v3 := Tryd.zeroValue3
 t5 := Tryd.underlying5
 a5 := Tryd.isAgg5
 z5 := Tryd.sizeOf5
 v5 := Tryd.zeroValue5
 t9 := Tryd.underlying9
 a9 := Tryd.isAgg9
 z9 := Tryd.sizeOf9
 v9 := Tryd.zeroValue9 }
def Tryd.lays146_ren : Go.Shelf.Ren := ⟨fun | 146 => 40 | 221 => 55 | 268 => 73 | 138 => 74 | 143 => 75 | 195 => 87 | 197 => 79 | 218 => 88 | 219 => 89 | 260 => 92 | 217 => 71 | 225 => 100 | 224 => 101 | 267 => 102 | 266 => 86 | 314 => 111 | n => n, fun | 9 => 9 | 31 => 67 | 3 => 3 | 4 => 4 | 0 => 0 | 105 => 120 | 21 => 21 | 5 => 5 | 46 => 138 | 119 => 146 | 139 => 149 | 138 => 148 | 146 => 152 | 51 => 135 | n => n, fun | 1 => 0 | 3 => 2 | 4 => 3 | n => n⟩
theorem Tryd.lays146 : Go.Proofs.LaysM.n146 Tryd.prog Tryd.lays146_ren := {
 mixed := by kernel_rfl
 f138 := Tryd.func74.trans (congrArg some (by kernel_rfl))
 f143 := Tryd.func75.trans (congrArg some (by kernel_rfl))
 f146 := Tryd.func40.trans (congrArg some (by kernel_rfl))
 f195 := Tryd.func87.trans (congrArg some (by kernel_rfl))
 f197 := Tryd.func79.trans (congrArg some (by kernel_rfl))
 f217 := Tryd.func71.trans (congrArg some (by kernel_rfl))
 f218 := Tryd.func88.trans (congrArg some (by kernel_rfl))
 f219 := Tryd.func89.trans (congrArg some (by kernel_rfl))
 f221 := Tryd.func55.trans (congrArg some (by kernel_rfl))
 f224 := Tryd.func101.trans (congrArg some (by kernel_rfl))
 f225 := Tryd.func100.trans (congrArg some (by kernel_rfl))
 f260 := Tryd.func92.trans (congrArg some (by kernel_rfl))
 f266 := Tryd.func86.trans (congrArg some (by kernel_rfl))
 f267 := Tryd.func102.trans (congrArg some (by kernel_rfl))
 f268 := Tryd.func73.trans (congrArg some (by kernel_rfl))
 f314 := Tryd.func111.trans (congrArg some (by kernel_rfl))
 t0 := Tryd.underlying0
 a0 := Tryd.isAgg0
 z0 := Tryd.sizeOf0
 v0 := Tryd.zeroValue0
 t3 := Tryd.underlying3
 a3 := Tryd.isAgg3
 z3 := Tryd.sizeOf3
 v3 := Tryd.zeroValue3
 t4 := Tryd.underlying4
 a4 := Tryd.isAgg4
 z4 := Tryd.sizeOf4
 v4 := Tryd.zeroValue4
 t5 := Tryd.underlying5
 a5 := Tryd.isAgg5
 z5 := Tryd.sizeOf5
 v5 := Tryd.zeroValue5
 t9 := Tryd.underlying9
 a9 := Tryd.isAgg9
 z9 := Tryd.sizeOf9
 v9 := Tryd.zeroValue9
 t21 := Tryd.underlying21
 a21 := Tryd.isAgg21
 z21 := Tryd.sizeOf21
 v21 := Tryd.zeroValue21
 t31 := Tryd.underlying67
 a31 := Tryd.isAgg67
 z31 := Tryd.sizeOf67
 v31 := Tryd.zeroValue67
 t46 := Tryd.underlying138
 a46 := Tryd.isAgg138
 z46 := Tryd.sizeOf138
 v46 := Tryd.zeroValue138
 t51 := Tryd.underlying135
 a51 := Tryd.isAgg135
 z51 := Tryd.sizeOf135
 v51 := Tryd.zeroValue135
 t105 := Tryd.underlying120
 a105 := Tryd.isAgg120
 z105 := Tryd.sizeOf120
 v105 := Tryd.zeroValue120
 t119 := Tryd.underlying146
 a119 := Tryd.isAgg146
 z119 := Tryd.sizeOf146
 t138 := Tryd.underlying148
 a138 := Tryd.isAgg148
 z138 := Tryd.sizeOf148
 v138 := Tryd.zeroValue148
 t139 := Tryd.underlying149
 a139 := Tryd.isAgg149
 z139 := Tryd.sizeOf149
 v139 := Tryd.zeroValue149
 t146 := Tryd.underlying152
 a146 := Tryd.isAgg152
 z146 := Tryd.sizeOf152
 v146 := Tryd.zeroValue152
 g1 := by kernel_rfl
 g3 := by kernel_rfl
 g4 := by kernel_rfl
 i0 := by kernel_rfl
 i3 := by kernel_rfl
 i4 := by kernel_rfl
 i5 := by kernel_rfl
 i9 := by kernel_rfl
 i21 := by kernel_rfl
 i31 := by kernel_rfl
 i46 := by kernel_rfl
 i51 := by kernel_rfl
 i105 := by kernel_rfl
 i138 := by kernel_rfl
 i139 := by kernel_rfl
 i146 := by kernel_rfl
 m1 := by kernel_rfl
 s1_3 := fun w h => Go.Proofs.cell_of_shapedOpen_int (zero := #[.int .i64 0]) (t := 3) h (zB (by kernel_rfl)) (by kernel_rfl) rfl (by kernel_rfl) (by kernel_rfl) Tryd.underlying3
 m3 := by kernel_rfl
 m4 := by kernel_rfl }
def Tryd.lays172_ren : Go.Shelf.Ren := ⟨fun | 172 => 76 | 244 => 90 | 245 => 91 | 247 => 103 | 279 => 104 | 280 => 105 | 281 => 106 | 282 => 107 | 287 => 112 | 316 => 113 | 171 => 31 | 205 => 114 | 321 => 115 | 322 => 116 | 243 => 50 | 246 => 70 | 283 => 82 | 284 => 83 | 285 => 84 | 286 => 85 | 129 => 96 | 317 => 95 | 318 => 97 | 319 => 98 | 320 => 99 | 337 => 109 | 338 => 110 | n => n, fun | 9 => 9 | 3 => 3 | 75 => 69 | 76 => 70 | 4 => 4 | 5 => 5 | 167 => 140 | 37 => 46 | 0 => 0 | 85 => 141 | 2 => 2 | 168 => 143 | 53 => 124 | 175 => 154 | 46 => 138 | 210 => 158 | 127 => 97 | 145 => 165 | 143 => 163 | 21 => 21 | 171 => 123 | 173 => 127 | 212 => 134 | 51 => 135 | 20 => 20 | 213 => 136 | 232 => 160 | 233 => 161 | 80 => 52 | n => n, fun | 15 => 4 | 16 => 5 | 17 => 1 | 18 => 6 | 19 => 7 | n => n⟩
theorem Tryd.lays172 : Go.Proofs.LaysC.n172 Tryd.prog Tryd.lays172_ren := {
 mixed := by kernel_rfl
 f129 := Tryd.func96.trans (congrArg some (by kernel_rfl))
 f171 := Tryd.func31.trans (congrArg some (by kernel_rfl))
 f172 := Tryd.func76.trans (congrArg some (by kernel_rfl))
 f205 := Tryd.func114.trans (congrArg some (by kernel_rfl))
 f243 := Tryd.func50.trans (congrArg some (by kernel_rfl))
 f244 := Tryd.func90.trans (congrArg some (by kernel_rfl))
 f245 := Tryd.func91.trans (congrArg some (by kernel_rfl))
 f246 := Tryd.func70.trans (congrArg some (by kernel_rfl))
 f247 := Tryd.func103.trans (congrArg some (by kernel_rfl))
 f279 := Tryd.func104.trans (congrArg some (by kernel_rfl))
 f280 := Tryd.func105.trans (congrArg some (by kernel_rfl))
 f281 := Tryd.func106.trans (congrArg some (by kernel_rfl))
 f282 := Tryd.func107.trans (congrArg some (by kernel_rfl))
 f283 := Tryd.func82.trans (congrArg some (by kernel_rfl))
 f284 := Tryd.func83.trans (congrArg some (by kernel_rfl))
 f285 := Tryd.func84.trans (congrArg some (by kernel_rfl))
 f286 := Tryd.func85.trans (congrArg some (by kernel_rfl))
 f287 := Tryd.func112.trans (congrArg some (by kernel_rfl))
 f316 := Tryd.func113.trans (congrArg some (by kernel_rfl))
 f317 := Tryd.func95.trans (congrArg some (by kernel_rfl))
 f318 := Tryd.func97.trans (congrArg some (by kernel_rfl))
 f319 := Tryd.func98.trans (congrArg some (by kernel_rfl))
 f320 := Tryd.func99.trans (congrArg some (by kernel_rfl))
 f321 := Tryd.func115.trans (congrArg some (by kernel_rfl))
 f322 := Tryd.func116.trans (congrArg some (by kernel_rfl))
 f337 := Tryd.func109.trans (congrArg some (by kernel_rfl))
 f338 := Tryd.func110.trans (congrArg some (by kernel_rfl))
 t0 := Tryd.underlying0
 a0 := Tryd.isAgg0
 z0 := Tryd.sizeOf0
 v0 := Tryd.zeroValue0
 t2 := Tryd.underlying2
 a2 := Tryd.isAgg2
 z2 := Tryd.sizeOf2
 v2 := Tryd.zeroValue2
 t3 := Tryd.underlying3
 a3 := Tryd.isAgg3
 z3 := Tryd.sizeOf3
 v3 := Tryd.zeroValue3
 t4 := Tryd.underlying4
 a4 := Tryd.isAgg4
 z4 := Tryd.sizeOf4
 v4 := Tryd.zeroValue4
 t5 := Tryd.underlying5
 a5 := Tryd.isAgg5
 z5 := Tryd.sizeOf5
 v5 := Tryd.zeroValue5
 t9 := Tryd.underlying9
 a9 := Tryd.isAgg9
 z9 := Tryd.sizeOf9
 v9 := Tryd.zeroValue9
 t20 := Tryd.underlying20
 a20 := Tryd.isAgg20
 z20 := Tryd.sizeOf20
 v20 := Tryd.zeroValue20
 t21 := Tryd.underlying21
 a21 := Tryd.isAgg21
 z21 := Tryd.sizeOf21
 v21 := Tryd.zeroValue21
 t37 := Tryd.underlying46
 a37 := Tryd.isAgg46
 z37 := Tryd.sizeOf46
 v37 := Tryd.zeroValue46
 t46 := Tryd.underlying138
 a46 := Tryd.isAgg138
 z46 := Tryd.sizeOf138
 v46 := Tryd.zeroValue138
 t51 := Tryd.underlying135
 a51 := Tryd.isAgg135
 z51 := Tryd.sizeOf135
 v51 := Tryd.zeroValue135
 t53 := Tryd.underlying124
 a53 := Tryd.isAgg124
 z53 := Tryd.sizeOf124
 v53 := Tryd.zeroValue124
 t75 := Tryd.underlying69
 a75 := Tryd.isAgg69
 z75 := Tryd.sizeOf69
 v75 := Tryd.zeroValue69
 t76 := Tryd.underlying70
 a76 := Tryd.isAgg70
 z76 := Tryd.sizeOf70
 v76 := Tryd.zeroValue70
 t85 := Tryd.underlying141
 a85 := Tryd.isAgg141
 z85 := Tryd.sizeOf141
 v85 := Tryd.zeroValue141
 t127 := Tryd.underlying97
 a127 := Tryd.isAgg97
 z127 := Tryd.sizeOf97
 v127 := Tryd.zeroValue97
 t143 := Tryd.underlying163
 a143 := Tryd.isAgg163
 z143 := Tryd.sizeOf163
 v143 := Tryd.zeroValue163
 t145 := Tryd.underlying165
 a145 := Tryd.isAgg165
 z145 := Tryd.sizeOf165
 v145 := Tryd.zeroValue165
 t167 := Tryd.underlying140
 a167 := Tryd.isAgg140
 z167 := Tryd.sizeOf140
 v167 := Tryd.zeroValue140
 t168 := Tryd.underlying143
 a168 := Tryd.isAgg143
 z168 := Tryd.sizeOf143
 v168 := Tryd.zeroValue143
 t171 := Tryd.underlying123
 a171 := Tryd.isAgg123
 z171 := Tryd.sizeOf123
 v171 := Tryd.zeroValue123
 t173 := Tryd.underlying127
 a173 := Tryd.isAgg127
 z173 := Tryd.sizeOf127
 v173 := Tryd.zeroValue127
 t175 := Tryd.underlying154
 a175 := Tryd.isAgg154
 z175 := Tryd.sizeOf154
 v175 := Tryd.zeroValue154
 t210 := Tryd.underlying158
 a210 := Tryd.isAgg158
 z210 := Tryd.sizeOf158
 v210 := Tryd.zeroValue158
 t212 := Tryd.underlying134
 a212 := Tryd.isAgg134
 z212 := Tryd.sizeOf134
 v212 := Tryd.zeroValue134
 t213 := Tryd.underlying136
 a213 := Tryd.isAgg136
 z213 := Tryd.sizeOf136
 t232 := Tryd.underlying160
 a232 := Tryd.isAgg160
 z232 := Tryd.sizeOf160
 v232 := Tryd.zeroValue160
 t233 := Tryd.underlying161
 a233 := Tryd.isAgg161
 z233 := Tryd.sizeOf161
 v233 := Tryd.zeroValue161
 g15 := by kernel_rfl
 g16 := by kernel_rfl
 g17 := by kernel_rfl
 g18 := by kernel_rfl
 g19 := by kernel_rfl
 t80 := Tryd.underlying52
 a80 := Tryd.isAgg52
 z80 := Tryd.sizeOf52
 v80 := Tryd.zeroValue52
 i0 := by kernel_rfl
 i2 := by kernel_rfl
 i3 := by kernel_rfl
 i4 := by kernel_rfl
 i5 := by kernel_rfl
 i9 := by kernel_rfl
 i20 := by kernel_rfl
 i21 := by kernel_rfl
 i37 := by kernel_rfl
 i46 := by kernel_rfl
 i51 := by kernel_rfl
 i53 := by kernel_rfl
 i75 := by kernel_rfl
 i76 := by kernel_rfl
 i80 := by kernel_rfl
 i85 := by kernel_rfl
 i127 := by kernel_rfl
 i143 := by kernel_rfl
 i145 := by kernel_rfl
 i167 := by kernel_rfl
 i168 := by kernel_rfl
 i171 := by kernel_rfl
 i173 := by kernel_rfl
 i175 := by kernel_rfl
 i210 := by kernel_rfl
 i212 := by kernel_rfl
 i232 := by kernel_rfl
 i233 := by kernel_rfl
 m15 := by kernel_rfl
 m16 := by kernel_rfl
 m17 := by kernel_rfl
 m18 := by kernel_rfl
 m19 := by kernel_rfl
 c0 := by kernel_rfl
 c2 := by kernel_rfl
 c3 := by kernel_rfl
 c4 := by kernel_rfl
 c5 := by kernel_rfl
 c9 := by kernel_rfl
 c20 := by kernel_rfl
 c21 := by kernel_rfl
 c37 := by kernel_rfl
 c46 := by kernel_rfl
 c51 := by kernel_rfl
 c53 := by kernel_rfl
 c75 := by kernel_rfl
 c76 := by kernel_rfl
 c80 := by kernel_rfl
 c85 := by kernel_rfl
 c127 := by kernel_rfl
 c143 := by kernel_rfl
 c145 := by kernel_rfl
 c167 := by kernel_rfl
 c168 := by kernel_rfl
 c171 := by kernel_rfl
 c173 := by kernel_rfl
 c175 := by kernel_rfl
 c210 := by kernel_rfl
 c212 := by kernel_rfl
 c213 := by kernel_rfl
 c232 := by kernel_rfl
 c233 := by kernel_rfl }
def Tryd.lays171_ren : Go.Shelf.Ren := ⟨fun | 171 => 31 | 243 => 50 | 246 => 70 | 283 => 82 | 284 => 83 | 285 => 84 | 286 => 85 | 129 => 96 | 317 => 95 | 318 => 97 | 319 => 98 | 320 => 99 | 337 => 109 | 338 => 110 | n => n, fun | 3 => 3 | 9 => 9 | 2 => 2 | 4 => 4 | 171 => 123 | 0 => 0 | 53 => 124 | 37 => 46 | 5 => 5 | 173 => 127 | 212 => 134 | 51 => 135 | 20 => 20 | 213 => 136 | 46 => 138 | 232 => 160 | 233 => 161 | n => n, fun | 17 => 1 | 18 => 6 | 19 => 7 | n => n⟩
theorem Tryd.lays171 : Go.Proofs.LaysM.n171 Tryd.prog Tryd.lays171_ren := {
 mixed := by kernel_rfl
 f129 := Tryd.func96.trans (congrArg some (by kernel_rfl))
 f171 := Tryd.func31.trans (congrArg some (by kernel_rfl))
 f243 := Tryd.func50.trans (congrArg some (by kernel_rfl))
 f246 := Tryd.func70.trans (congrArg some (by kernel_rfl))
 f283 := Tryd.func82.trans (congrArg some (by kernel_rfl))
 f284 := Tryd.func83.trans (congrArg some (by kernel_rfl))
 f285 := Tryd.func84.trans (congrArg some (by kernel_rfl))
 f286 := Tryd.func85.trans (congrArg some (by kernel_rfl))
 f317 := Tryd.func95.trans (congrArg some (by kernel_rfl))
 f318 := Tryd.func97.trans (congrArg some (by kernel_rfl))
 f319 := Tryd.func98.trans (congrArg some (by kernel_rfl))
 f320 := Tryd.func99.trans (congrArg some (by kernel_rfl))
 f337 := Tryd.func109.trans (congrArg some (by kernel_rfl))
 f338 := Tryd.func110.trans (congrArg some (by kernel_rfl))
 t0 := Tryd.underlying0
 a0 := Tryd.isAgg0
 z0 := Tryd.sizeOf0
 v0 := Tryd.zeroValue0
 t2 := Tryd.underlying2
 a2 := Tryd.isAgg2
 z2 := Tryd.sizeOf2
 v2 := Tryd.zeroValue2
 t3 := Tryd.underlying3
 a3 := Tryd.isAgg3
 z3 := Tryd.sizeOf3
 v3 := Tryd.zeroValue3
 t4 := Tryd.underlying4
 a4 := Tryd.isAgg4
 z4 := Tryd.sizeOf4
 v4 := Tryd.zeroValue4
 t5 := Tryd.underlying5
 a5 := Tryd.isAgg5
 z5 := Tryd.sizeOf5
 v5 := Tryd.zeroValue5
 t9 := Tryd.underlying9
 a9 := Tryd.isAgg9
 z9 := Tryd.sizeOf9
 v9 := Tryd.zeroValue9
 t20 := Tryd.underlying20
 a20 := Tryd.isAgg20
 z20 := Tryd.sizeOf20
 v20 := Tryd.zeroValue20
 t37 := Tryd.underlying46
 a37 := Tryd.isAgg46
 z37 := Tryd.sizeOf46
 v37 := Tryd.zeroValue46
 t46 := Tryd.underlying138
 a46 := Tryd.isAgg138
 z46 := Tryd.sizeOf138
 v46 := Tryd.zeroValue138
 t51 := Tryd.underlying135
 a51 := Tryd.isAgg135
 z51 := Tryd.sizeOf135
 v51 := Tryd.zeroValue135
 t53 := Tryd.underlying124
 a53 := Tryd.isAgg124
 z53 := Tryd.sizeOf124
 v53 := Tryd.zeroValue124
 t171 := Tryd.underlying123
 a171 := Tryd.isAgg123
 z171 := Tryd.sizeOf123
 v171 := Tryd.zeroValue123
 t173 := Tryd.underlying127
 a173 := Tryd.isAgg127
 z173 := Tryd.sizeOf127
 v173 := Tryd.zeroValue127
 t212 := Tryd.underlying134
 a212 := Tryd.isAgg134
 z212 := Tryd.sizeOf134
 v212 := Tryd.zeroValue134
 t213 := Tryd.underlying136
 a213 := Tryd.isAgg136
 z213 := Tryd.sizeOf136
 t232 := Tryd.underlying160
 a232 := Tryd.isAgg160
 z232 := Tryd.sizeOf160
 v232 := Tryd.zeroValue160
 t233 := Tryd.underlying161
 a233 := Tryd.isAgg161
 z233 := Tryd.sizeOf161
 v233 := Tryd.zeroValue161
 g17 := by kernel_rfl
 g18 := by kernel_rfl
 g19 := by kernel_rfl
 i0 := by kernel_rfl
 i2 := by kernel_rfl
 i3 := by kernel_rfl
 i4 := by kernel_rfl
 i5 := by kernel_rfl
 i9 := by kernel_rfl
 i20 := by kernel_rfl
 i37 := by kernel_rfl
 i46 := by kernel_rfl
 i51 := by kernel_rfl
 i53 := by kernel_rfl
 i171 := by kernel_rfl
 i173 := by kernel_rfl
 i212 := by kernel_rfl
 i232 := by kernel_rfl
 i233 := by kernel_rfl
 m17 := by kernel_rfl
 m18 := by kernel_rfl
 m19 := by kernel_rfl }
end Go.Proofs
namespace Go.Proofs.YtniknpjeknmpjaaDoor.Q
open Go.RowKit Go.Shelf Go.Proofs.YtniknpjeknmpjaaDoorW.PrintWords Go.Proofs.YtniknpjeknmpjaaDoorW.PrintLast Go.Proofs.YtniknpjeknmpjaaDoorW.PrintMore
set_option linter.unusedVariables false
theorem var_below {P : Program} {w w1 : World} {n : String} {cs : Array Value} (h : w.var? P n = some cs) (hb : Below w.heap.size w w1) : w1.var? P n = some cs := by
 unfold World.var? at *
 cases hg : P.globalNamed n with
 | none => rw [hg] at h; simp at h
 | some g =>
  rw [hg] at h
  simp only [zJ] at h ⊢
  cases hk : w.heap[g]? with
  | none => rw [hk] at h; simp at h
  | some o => rw [hb.block g (Array.getElem?_eq_some_iff.1 hk).1]; exact h
structure LaidW (w : World) : Prop where
 tab : Lib.TabIs Tryd.prog w "internal/strconv.uint64pow10" .u64 Lib.pow10Tab
 syn : ∃ tp p, w.var? Tryd.prog "strconv.ErrSyntax" = some #[.iface tp p]
 rng : ∃ tp p, w.var? Tryd.prog "strconv.ErrRange" = some #[.iface tp p]
theorem LaidW.below {w w1 : World} (h : LaidW w) (hb : Below w.heap.size w w1) : LaidW w1 := by
 obtain ⟨h1, ⟨t1, p1, h2⟩, t2, p2, h3⟩ := h
 exact ⟨var_below h1 hb, ⟨t1, p1, var_below h2 hb⟩, t2, p2, var_below h3 hb⟩
theorem LaidW.alloc {w : World} (h : LaidW w) (o : Obj) : LaidW (w.alloc o) := h.below (below_alloc (Below.refl _ _) o)
theorem LaidW.drewN {w : World} (h : LaidW w) (n : Nat) : LaidW (w.drewN n) := h.below (pw_below_drewN (Below.refl _ _) n)
theorem LaidW.drew {w : World} (h : LaidW w) : LaidW w.drew := h.below (below_drew (Below.refl _ _))
theorem star_name : "*" ++ "errors.errorString" = "*errors.errorString" := by decide
theorem row_err (u : TypeId) (h : Tryd.prog.typeName? 3 u = some "*errors.errorString") : u = 163 :=
 typeName_ptr_named (nm := "errors.errorString") (by rw [star_name]; kernel_rfl) (by kernel_rfl) (by decide) u (by rw [star_name]; exact h)
theorem err_of {n : String} {text : List UInt8} {r : List (String × DataW Unit)} {W : World} {g : Nat}
 (h : laidMet Tryd.prog ((n, .iface "*errors.errorString" (.ptr (.agg [.lit (.string text)]))) :: r) W) (hg : Tryd.prog.globalNamed n = some g) (ht : (Tryd.prog.globals[g]?).map (·.type) = some 69) :
 ∃ tp p, W.var? Tryd.prog n = some #[.iface tp p] := by
 obtain ⟨a0, s0, hv0, -, -, -⟩ := laid_sentinel h hg ht Tryd.underlying69 row_err Tryd.underlying163 Tryd.underlying165 rfl rfl Tryd.underlying9 (by kernel_rfl) (by kernel_rfl)
 exact ⟨_, _, hv0⟩
def laidList : List (String × DataW Unit) := [("math/bits.deBruijn32tab", Rows.laid_math_bits_deBruijn32tab), ("math/bits.deBruijn64tab", Rows.laid_math_bits_deBruijn64tab), ("internal/strconv.uint64pow10", Rows.laid_internal_strconv_uint64pow10), ("unicode/utf8.acceptRanges", Rows.laid_unicode_utf8_acceptRanges), ("strconv.ErrRange", Rows.laid_strconv_ErrRange), ("strconv.ErrSyntax", Rows.laid_strconv_ErrSyntax), ("unicode/utf8.first", Rows.laid_unicode_utf8_first)]
theorem LaidW.of_met {W : World} (h : laidMet Tryd.prog laidList W) : LaidW W := by
 have h2 := laidMet.tail (laidMet.tail h)
 have h4 := laidMet.tail (laidMet.tail h2)
 have h5 := laidMet.tail h4
 exact ⟨Lib.tabIs_of_head (g := 1) (by kernel_rfl) (by kernel_rfl) Tryd.underlying134 Tryd.underlying124 (by kernel_rfl) (by kernel_rfl) h2,
  err_of h5 (g := 4) (by kernel_rfl) (by kernel_rfl), err_of h4 (g := 5) (by kernel_rfl) (by kernel_rfl)⟩
def strconv_Itoa_31.f (a0 : Int) : Option ByteArray := if -9223372036854775808 ≤ a0 ∧ a0 ≤ 9223372036854775807 then some ⟨(Lib.itoa a0).toArray⟩ else none
theorem strconv_Itoa_31.calls (a0 : Int) (r : ByteArray) (w : World) (hL : LaidW w) (h : strconv_Itoa_31.f a0 = some r) :
 Calls Tryd.prog 31 #[.int .i64 a0] w fun e w' => e = .returned (.string r) ∧ Below w.heap.size w w' := by
 unfold strconv_Itoa_31.f at h
 split at h
 ·next c =>
  obtain rfl := zI h
  refine (Any.strconv_Itoa Tryd.lays171 a0 c.1 c.2 w hL.tab).mono ?_
  rintro e w' ⟨rfl, k, os, rfl⟩
  exact ⟨rfl, below_regrown w (w.drawn + k) os⟩
 ·cases h
end Go.Proofs.YtniknpjeknmpjaaDoor.Q
namespace Go.Proofs.YtniknpjeknmpjaaDoor.Q
open Go.RowKit Go.Proofs.YtniknpjeknmpjaaDoorW.PrintWords Go.Proofs.YtniknpjeknmpjaaDoorW.PrintLast Go.Proofs.YtniknpjeknmpjaaDoorW.PrintMore
attribute [local go_sem] max2_int min2_int max_two min_two max_three min_three max_four min_four
set_option linter.unusedVariables false
set_option linter.unusedSimpArgs false

mutual
def cubbylaw08_heavy.l0 : Nat → List (List (SIns)) → Int → Int → Option (Bool)
 | 0, _, _, _ => none
 | k + 1, x0, x3, x4 => if x4 < (x0.length : Int) then (cubbylaw08_heavy.j1 k x0 x3 x4 (decide (x3 ≤ 300))) else (cubbylaw08_heavy.j1 k x0 x3 x4 false)
def cubbylaw08_heavy.j1 : Nat → List (List (SIns)) → Int → Int → Bool → Option (Bool)
 | 0, _, _, _, _ => none
 | k + 1, x0, x3, x4, x16 => if x16 = true then (if 0 ≤ x4 then (if x4 < (x0.length : Int) then (cubbylaw08_heavy.l1 k x0 (wrap64 (x3 + (mn ((rd_LIns x0 x4).length : Int) 1048576))) x4 0) else (none)) else (none)) else (some (decide (x3 > 300)))
def cubbylaw08_heavy.l1 : Nat → List (List (SIns)) → Int → Int → Int → Option (Bool)
 | 0, _, _, _, _ => none
 | k + 1, x0, x3, x4, x5 => if 0 ≤ x4 then (if x4 < (x0.length : Int) then (if x5 < ((rd_LIns x0 x4).length : Int) then (cubbylaw08_heavy.j3 k x0 x3 x4 x5 (decide (x5 ≤ 300))) else (cubbylaw08_heavy.j3 k x0 x3 x4 x5 false)) else (none)) else (none)
def cubbylaw08_heavy.j3 : Nat → List (List (SIns)) → Int → Int → Int → Bool → Option (Bool)
 | 0, _, _, _, _, _ => none
 | k + 1, x0, x3, x4, x5, x37 => if x37 = true then (if 0 ≤ x4 then (if x4 < (x0.length : Int) then (if 0 ≤ x5 then (if x5 < ((rd_LIns x0 x4).length : Int) then (if (((rd_TIns (rd_LIns x0 x4) x5).f5).length : Int) > 20 then (some true) else (if (((rd_TIns (rd_LIns x0 x4) x5).f4).size : Int) > 256 then (some true) else (cubbylaw08_heavy.l1 k x0 x3 x4 (wrap64 (x5 + 1))))) else (none)) else (none)) else (none)) else (none)) else (cubbylaw08_heavy.l0 k x0 x3 (wrap64 (x4 + 1)))
end
def cubbylaw08_heavy.f (k : Nat) (l0 : List (List (SIns))) : Option (Bool) := if (l0.length : Int) > 50 then (some true) else (cubbylaw08_heavy.l0 k l0 0 0)
set_option maxHeartbeats 8000000 in
set_option maxRecDepth 100000 in
theorem cubbylaw08_heavy.calls (k : Nat) (A0 : Option Addr) (c0 : Nat) (l0 : List (List (SIns))) (r : Bool) (w : World) (hr0 : Kd.C (Kd.slice 43 kIns) w A0 l0.length l0) (hc0 : l0.length ≤ c0) (h : cubbylaw08_heavy.f k l0 = some r) :
 Calls Tryd.prog 7 #[.slice A0 l0.length c0] w fun e w' => e = .returned (.bool r) ∧ Below w.heap.size w w' := by
 have HR0 := zA hr0
 have HC0 := zA hc0
 clear hr0 hc0
 have HB := zA (Below.refl w.heap.size w)
 have H := h; clear h; unfold cubbylaw08_heavy.f at H
 by_cases c2 : (l0.length : Int) > 50
 ·rw [zC c2] at H
  have c2b0 : decide (50 < (l0.length : Int)) = true := zF c2
  have c2b1 : decide (50 < l0.length) = true := zF (by omega)
  clear c2
  obtain rfl := zI H
  go_enter Tryd.func7, Tryd.ntmps7
  go_wp2
  go_ret
  exact ⟨qE, qB⟩
 ·rw [zD c2] at H
  have c2b0 : decide (50 < (l0.length : Int)) = false := zG c2
  have c2b1 : decide (50 < l0.length) = false := zG (by omega)
  clear c2
  have H' := zA H
  clear H
  go_enter Tryd.func7, Tryd.ntmps7
  go_wp2
  go_loopg [3, 4] k (fun kq v3 v4 w' => ∃ (x3_1 : Int) (x4_1 : Int), v3 = .int .i64 x3_1 ∧ v4 = .int .i64 x4_1 ∧ Aside0 (cubbylaw08_heavy.l0 kq l0 x3_1 x4_1 = some r) ∧ Aside0 (kq ≤ k) ∧ Aside0 (Below w.heap.size w w'))
  case atStart => exact ⟨(0), (0), qT, qT, H', ⟨Nat.le_refl _⟩, ⟨qB⟩⟩
  case round =>
   clear H'
   try clear c2b0 c2b1; try clear p2
   obtain ⟨x3_1, x4_1, rfl, rfl, HA, HK1, HB⟩ := hrel
   cases gk with
   | zero => exact absurd HA.out (by simp [cubbylaw08_heavy.l0])
   | succ k1 =>
    have H := HA.out
    clear HA
    simp only [cubbylaw08_heavy.l0] at H
    have HC3 := zA H
    clear H
    go_upto_region 5 with (fail)
    go_cut [16] (fun v16 wc => ∃ (kq : Nat) (x16_2 : Bool), v16 = .bool x16_2 ∧ Aside0 (cubbylaw08_heavy.j1 kq l0 x3_1 x4_1 x16_2 = some r) ∧ Aside0 (kq ≤ k1) ∧ Aside0 (Below w.heap.size w wc))
    case first =>
     have H := HC3.out
     clear HC3
     by_cases c4 : x4_1 < (l0.length : Int)
     ·rw [zC c4] at H
      have c4b0 := zF c4
      clear c4
      (first | rw [c4b0] | (simp only [i64_w, i32_w]; rw [c4b0]) | skip)
      have H' := zA H
      clear H
      go_wp2
      go_meet
      case rel => exact ⟨_, (decide (x3_1 ≤ 300)), qT, H', ⟨by have := HK1.out; first | omega | exact Nat.le_refl _⟩, ⟨qB⟩⟩
     ·rw [zD c4] at H
      have c4b0 := zG c4
      clear c4
      (first | rw [c4b0] | (simp only [i64_w, i32_w]; rw [c4b0]) | skip)
      have H' := zA H
      clear H
      go_wp2
      go_meet
      case rel => exact ⟨_, (false), qT, H', ⟨by have := HK1.out; first | omega | exact Nat.le_refl _⟩, ⟨qB⟩⟩
    case rest =>
     clear HC3
     try clear c2b0 c2b1; try clear p2; try clear c4; try clear c4b0
     obtain ⟨kq, x16_2, rfl, HA, HJ2, HB⟩ := hcut
     cases kq with
     | zero => exact absurd HA.out (by simp [cubbylaw08_heavy.j1])
     | succ kj2 =>
      have H := HA.out
      clear HA
      simp only [cubbylaw08_heavy.j1] at H
      by_cases c5 : x16_2 = true
      ·subst c5
       have H1 : (if 0 ≤ x4_1 then (if x4_1 < (l0.length : Int) then (cubbylaw08_heavy.l1 kj2 l0 (wrap64 (x3_1 + (mn ((rd_LIns l0 x4_1).length : Int) 1048576))) x4_1 0) else (none)) else (none)) = some r := by rw [zC rfl] at H; exact H
       clear H
       have H := H1
       clear H1
       by_cases c6 : 0 ≤ x4_1
       ·rw [zC c6] at H
        have c6b0 := zF c6
        clear c6
        by_cases c7 : x4_1 < (l0.length : Int)
        ·rw [zC c7] at H
         have c7b0 := zF c7
         clear c7
         obtain ⟨ji8, hji8⟩ : ∃ j_ : Int, (mn ((rd_LIns l0 x4_1).length : Int) 1048576) = j_ := ⟨_, rfl⟩
         replace H : (cubbylaw08_heavy.l1 kj2 l0 (wrap64 (x3_1 + (ji8))) x4_1 0) = some r := by first | (rw [hji8] at H; exact H) | (simp only [hji8] at H ⊢; exact H)
         have hji8_ : (if 1048576 < ((rd_LIns l0 x4_1).length : Int) then 1048576 else ((rd_LIns l0 x4_1).length : Int)) = ji8 := hji8
         have H' := zA H
         clear H
         have p350 : 0 ≤ (x4_1 : Int) := zB qA
         have q350 : x4_1 < (l0.length : Int) := zB qA
         obtain ⟨ad350, A350_0, c350_0, e350, hx350_0, hl350_0, hi350_0⟩ := at_LIns HR0.out x4_1 p350 q350
         cases e350
         replace hx350_0 := (HB.out.cell (zE w _ hx350_0)).trans hx350_0
         have HR350_0 := zA hi350_0
         have HC350_0 := zA hl350_0
         clear hi350_0 hl350_0
         replace p350 := eq_true p350
         replace q350 := eq_true q350
         go_wp2
         go_loopg [5] kj2 (fun kq v5 w' => ∃ (x5_3 : Int), v5 = .int .i64 x5_3 ∧ Aside0 (cubbylaw08_heavy.l1 kq l0 (wrap64 (x3_1 + (ji8))) x4_1 x5_3 = some r) ∧ Aside0 (kq ≤ kj2) ∧ Aside0 (Below w.heap.size w w'))
         case atStart => exact ⟨(0), qT, H', ⟨Nat.le_refl _⟩, ⟨qB⟩⟩
         case round =>
          clear H'
          try clear c2b0 c2b1; try clear p2; try clear c3; try clear p3; try clear q3; try clear hx3; try clear c4; try clear c4b0; try clear c5; try clear c6b0; try clear p6; try clear c7b0; try clear hx350_0; try clear p350; try clear q350
          obtain ⟨x5_3, rfl, HA, HK3, HB⟩ := hrel
          cases gk with
          | zero => exact absurd HA.out (by simp [cubbylaw08_heavy.l1])
          | succ k3 =>
           have H := HA.out
           clear HA
           simp only [cubbylaw08_heavy.l1] at H
           have HC9 := zA H
           clear H
           go_upto_region 9 with (fail)
           go_cut [37] (fun v37 wc => ∃ (kq : Nat) (x37_8 : Bool), v37 = .bool x37_8 ∧ Aside0 (cubbylaw08_heavy.j3 kq l0 (wrap64 (x3_1 + (ji8))) x4_1 x5_3 x37_8 = some r) ∧ Aside0 (kq ≤ k3) ∧ Aside0 (Below w.heap.size w wc))
           case first =>
            have H := HC9.out
            clear HC9
            by_cases c10 : 0 ≤ x4_1
            ·rw [zC c10] at H
             have c10b0 := zF c10
             clear c10
             (first | rw [c10b0] | (simp only [i64_w, i32_w]; rw [c10b0]) | skip)
             by_cases c11 : x4_1 < (l0.length : Int)
             ·rw [zC c11] at H
              have c11b0 := zF c11
              clear c11
              by_cases c12 : x5_3 < ((rd_LIns l0 x4_1).length : Int)
              ·rw [zC c12] at H
               have c12b0 := zF c12
               clear c12
               have H' := zA H
               clear H
               have p351 : 0 ≤ (x4_1 : Int) := zB qA
               have q351 : x4_1 < (l0.length : Int) := zB qA
               obtain ⟨ad351, A351_0, c351_0, e351, hx351_0, hl351_0, hi351_0⟩ := at_LIns HR0.out x4_1 p351 q351
               obtain rfl : ad350 = ad351 := (by injection e351)
               replace hx351_0 := (HB.out.cell (zE w _ hx351_0)).trans hx351_0
               have HR351_0 := zA hi351_0
               have HC351_0 := zA hl351_0
               clear hi351_0 hl351_0
               replace p351 := eq_true p351
               replace q351 := eq_true q351
               go_wp2
               go_meet
               case rel => exact ⟨_, (decide (x5_3 ≤ 300)), qT, H', ⟨by have := HK1.out; have := HJ2.out; have := HK3.out; first | omega | exact Nat.le_refl _⟩, ⟨qB⟩⟩
              ·rw [zD c12] at H
               have c12b0 := zG c12
               clear c12
               have H' := zA H
               clear H
               have p351 : 0 ≤ (x4_1 : Int) := zB qA
               have q351 : x4_1 < (l0.length : Int) := zB qA
               obtain ⟨ad351, A351_0, c351_0, e351, hx351_0, hl351_0, hi351_0⟩ := at_LIns HR0.out x4_1 p351 q351
               obtain rfl : ad350 = ad351 := (by injection e351)
               replace hx351_0 := (HB.out.cell (zE w _ hx351_0)).trans hx351_0
               have HR351_0 := zA hi351_0
               have HC351_0 := zA hl351_0
               clear hi351_0 hl351_0
               replace p351 := eq_true p351
               replace q351 := eq_true q351
               go_wp2
               go_meet
               case rel => exact ⟨_, (false), qT, H', ⟨by have := HK1.out; have := HJ2.out; have := HK3.out; first | omega | exact Nat.le_refl _⟩, ⟨qB⟩⟩
             ·rw [zD c11] at H
              exact absurd H (by simp)
            ·rw [zD c10] at H
             exact absurd H (by simp)
           case rest =>
            clear HC9
            try clear c1; try clear c2b0 c2b1; try clear p2; try clear c3; try clear p3; try clear q3; try clear hx3; try clear c4; try clear c4b0; try clear c5; try clear c6b0; try clear p6; try clear c7b0; try clear c10; try clear c10b0; try clear c11; try clear c11b0; try clear c12; try clear c12b0; try clear hx350_0; try clear hx351_0; try clear p350; try clear p351; try clear q350; try clear q351
            obtain ⟨kq, x37_8, rfl, HA, HJ8, HB⟩ := hcut
            cases kq with
            | zero => exact absurd HA.out (by simp [cubbylaw08_heavy.j3])
            | succ kj8 =>
             have H := HA.out
             clear HA
             simp only [cubbylaw08_heavy.j3] at H
             by_cases c13 : x37_8 = true
             ·subst c13
              have H1 : (if 0 ≤ x4_1 then (if x4_1 < (l0.length : Int) then (if 0 ≤ x5_3 then (if x5_3 < ((rd_LIns l0 x4_1).length : Int) then (if (((rd_TIns (rd_LIns l0 x4_1) x5_3).f5).length : Int) > 20 then (some true) else (if (((rd_TIns (rd_LIns l0 x4_1) x5_3).f4).size : Int) > 256 then (some true) else (cubbylaw08_heavy.l1 kj8 l0 (wrap64 (x3_1 + (ji8))) x4_1 (wrap64 (x5_3 + 1))))) else (none)) else (none)) else (none)) else (none)) = some r := by rw [zC rfl] at H; exact H
              clear H
              have H := H1
              clear H1
              by_cases c14 : 0 ≤ x4_1
              ·rw [zC c14] at H
               have c14b0 := zF c14
               clear c14
               by_cases c15 : x4_1 < (l0.length : Int)
               ·rw [zC c15] at H
                have c15b0 := zF c15
                clear c15
                by_cases c16 : 0 ≤ x5_3
                ·rw [zC c16] at H
                 have c16b0 := zF c16
                 clear c16
                 by_cases c17 : x5_3 < ((rd_LIns l0 x4_1).length : Int)
                 ·rw [zC c17] at H
                  have c17b0 := zF c17
                  clear c17
                  by_cases c18 : (((rd_TIns (rd_LIns l0 x4_1) x5_3).f5).length : Int) > 20
                  ·rw [zC c18] at H
                   have c18b0 : decide (20 < (((rd_TIns (rd_LIns l0 x4_1) x5_3).f5).length : Int)) = true := zF c18
                   have c18b1 : decide (20 < ((rd_TIns (rd_LIns l0 x4_1) x5_3).f5).length) = true := zF (by omega)
                   clear c18
                   obtain rfl := zI H
                   have p352 : 0 ≤ (x4_1 : Int) := zB qA
                   have q352 : x4_1 < (l0.length : Int) := zB qA
                   obtain ⟨ad352, A352_0, c352_0, e352, hx352_0, hl352_0, hi352_0⟩ := at_LIns HR0.out x4_1 p352 q352
                   obtain rfl : ad350 = ad352 := (by injection e352)
                   replace hx352_0 := (HB.out.cell (zE w _ hx352_0)).trans hx352_0
                   have HR352_0 := zA hi352_0
                   have HC352_0 := zA hl352_0
                   clear hi352_0 hl352_0
                   replace p352 := eq_true p352
                   replace q352 := eq_true q352
                   have p353 : 0 ≤ (x5_3 : Int) := zB qA
                   have q353 : x5_3 < ((rd_LIns l0 x4_1).length : Int) := zB qA
                   obtain ⟨ad353, A353_5, c353_5, e353, hx353_0, hx353_1, hx353_2, hx353_3, hx353_4, hx353_5, hl353_5, hi353_5⟩ := at_TIns HR352_0.out x5_3 p353 q353
                   cases e353
                   replace hx353_0 := (HB.out.cell (zE w _ hx353_0)).trans hx353_0
                   replace hx353_1 := (HB.out.cell (zE w _ hx353_1)).trans hx353_1
                   replace hx353_2 := (HB.out.cell (zE w _ hx353_2)).trans hx353_2
                   replace hx353_3 := (HB.out.cell (zE w _ hx353_3)).trans hx353_3
                   replace hx353_4 := (HB.out.cell (zE w _ hx353_4)).trans hx353_4
                   replace hx353_5 := (HB.out.cell (zE w _ hx353_5)).trans hx353_5
                   have HR353_5 := zA hi353_5
                   have HC353_5 := zA hl353_5
                   clear hi353_5 hl353_5
                   replace p353 := eq_true p353
                   replace q353 := eq_true q353
                   go_wp2
                   go_ret
                   exact ⟨by first | rfl | (simp [errW_none, errW_some] <;> rfl) | (simp only [← hji8]; first | rfl | (simp [errW_none, errW_some] <;> rfl)) | (simp [*, errW_none, errW_some] <;> rfl), qB⟩
                  ·rw [zD c18] at H
                   have c18b0 : decide (20 < (((rd_TIns (rd_LIns l0 x4_1) x5_3).f5).length : Int)) = false := zG c18
                   have c18b1 : decide (20 < ((rd_TIns (rd_LIns l0 x4_1) x5_3).f5).length) = false := zG (by omega)
                   clear c18
                   by_cases c19 : (((rd_TIns (rd_LIns l0 x4_1) x5_3).f4).size : Int) > 256
                   ·rw [zC c19] at H
                    have c19b0 : decide (256 < (((rd_TIns (rd_LIns l0 x4_1) x5_3).f4).size : Int)) = true := zF c19
                    have c19b1 : decide (256 < ((rd_TIns (rd_LIns l0 x4_1) x5_3).f4).size) = true := zF (by omega)
                    clear c19
                    obtain rfl := zI H
                    have p352 : 0 ≤ (x4_1 : Int) := zB qA
                    have q352 : x4_1 < (l0.length : Int) := zB qA
                    obtain ⟨ad352, A352_0, c352_0, e352, hx352_0, hl352_0, hi352_0⟩ := at_LIns HR0.out x4_1 p352 q352
                    obtain rfl : ad350 = ad352 := (by injection e352)
                    replace hx352_0 := (HB.out.cell (zE w _ hx352_0)).trans hx352_0
                    have HR352_0 := zA hi352_0
                    have HC352_0 := zA hl352_0
                    clear hi352_0 hl352_0
                    replace p352 := eq_true p352
                    replace q352 := eq_true q352
                    have p353 : 0 ≤ (x5_3 : Int) := zB qA
                    have q353 : x5_3 < ((rd_LIns l0 x4_1).length : Int) := zB qA
                    obtain ⟨ad353, A353_5, c353_5, e353, hx353_0, hx353_1, hx353_2, hx353_3, hx353_4, hx353_5, hl353_5, hi353_5⟩ := at_TIns HR352_0.out x5_3 p353 q353
                    cases e353
                    replace hx353_0 := (HB.out.cell (zE w _ hx353_0)).trans hx353_0
                    replace hx353_1 := (HB.out.cell (zE w _ hx353_1)).trans hx353_1
                    replace hx353_2 := (HB.out.cell (zE w _ hx353_2)).trans hx353_2
                    replace hx353_3 := (HB.out.cell (zE w _ hx353_3)).trans hx353_3
                    replace hx353_4 := (HB.out.cell (zE w _ hx353_4)).trans hx353_4
                    replace hx353_5 := (HB.out.cell (zE w _ hx353_5)).trans hx353_5
                    have HR353_5 := zA hi353_5
                    have HC353_5 := zA hl353_5
                    clear hi353_5 hl353_5
                    replace p353 := eq_true p353
                    replace q353 := eq_true q353
                    have p354 : 0 ≤ (x4_1 : Int) := zB qA
                    have q354 : x4_1 < (l0.length : Int) := zB qA
                    obtain ⟨ad354, A354_0, c354_0, e354, hx354_0, hl354_0, hi354_0⟩ := at_LIns HR0.out x4_1 p354 q354
                    obtain rfl : ad350 = ad354 := (by injection e354)
                    replace hx354_0 := (HB.out.cell (zE w _ hx354_0)).trans hx354_0
                    have HR354_0 := zA hi354_0
                    have HC354_0 := zA hl354_0
                    clear hi354_0 hl354_0
                    replace p354 := eq_true p354
                    replace q354 := eq_true q354
                    have ea_ := zI (hx352_0.symm.trans hx354_0)
                    injection ea_ with ea_ en_ ec_
                    subst ea_
                    subst ec_
                    clear en_
                    have p355 : 0 ≤ (x5_3 : Int) := zB qA
                    have q355 : x5_3 < ((rd_LIns l0 x4_1).length : Int) := zB qA
                    obtain ⟨ad355, A355_5, c355_5, e355, hx355_0, hx355_1, hx355_2, hx355_3, hx355_4, hx355_5, hl355_5, hi355_5⟩ := at_TIns HR354_0.out x5_3 p355 q355
                    cases e355
                    replace hx355_0 := (HB.out.cell (zE w _ hx355_0)).trans hx355_0
                    replace hx355_1 := (HB.out.cell (zE w _ hx355_1)).trans hx355_1
                    replace hx355_2 := (HB.out.cell (zE w _ hx355_2)).trans hx355_2
                    replace hx355_3 := (HB.out.cell (zE w _ hx355_3)).trans hx355_3
                    replace hx355_4 := (HB.out.cell (zE w _ hx355_4)).trans hx355_4
                    replace hx355_5 := (HB.out.cell (zE w _ hx355_5)).trans hx355_5
                    have HR355_5 := zA hi355_5
                    have HC355_5 := zA hl355_5
                    clear hi355_5 hl355_5
                    replace p355 := eq_true p355
                    replace q355 := eq_true q355
                    go_wp2
                    go_ret
                    exact ⟨by first | rfl | (simp [errW_none, errW_some] <;> rfl) | (simp only [← hji8]; first | rfl | (simp [errW_none, errW_some] <;> rfl)) | (simp [*, errW_none, errW_some] <;> rfl), qB⟩
                   ·rw [zD c19] at H
                    have c19b0 : decide (256 < (((rd_TIns (rd_LIns l0 x4_1) x5_3).f4).size : Int)) = false := zG c19
                    have c19b1 : decide (256 < ((rd_TIns (rd_LIns l0 x4_1) x5_3).f4).size) = false := zG (by omega)
                    clear c19
                    have H' := zA H
                    clear H
                    have p352 : 0 ≤ (x4_1 : Int) := zB qA
                    have q352 : x4_1 < (l0.length : Int) := zB qA
                    obtain ⟨ad352, A352_0, c352_0, e352, hx352_0, hl352_0, hi352_0⟩ := at_LIns HR0.out x4_1 p352 q352
                    obtain rfl : ad350 = ad352 := (by injection e352)
                    replace hx352_0 := (HB.out.cell (zE w _ hx352_0)).trans hx352_0
                    have HR352_0 := zA hi352_0
                    have HC352_0 := zA hl352_0
                    clear hi352_0 hl352_0
                    replace p352 := eq_true p352
                    replace q352 := eq_true q352
                    have p353 : 0 ≤ (x5_3 : Int) := zB qA
                    have q353 : x5_3 < ((rd_LIns l0 x4_1).length : Int) := zB qA
                    obtain ⟨ad353, A353_5, c353_5, e353, hx353_0, hx353_1, hx353_2, hx353_3, hx353_4, hx353_5, hl353_5, hi353_5⟩ := at_TIns HR352_0.out x5_3 p353 q353
                    cases e353
                    replace hx353_0 := (HB.out.cell (zE w _ hx353_0)).trans hx353_0
                    replace hx353_1 := (HB.out.cell (zE w _ hx353_1)).trans hx353_1
                    replace hx353_2 := (HB.out.cell (zE w _ hx353_2)).trans hx353_2
                    replace hx353_3 := (HB.out.cell (zE w _ hx353_3)).trans hx353_3
                    replace hx353_4 := (HB.out.cell (zE w _ hx353_4)).trans hx353_4
                    replace hx353_5 := (HB.out.cell (zE w _ hx353_5)).trans hx353_5
                    have HR353_5 := zA hi353_5
                    have HC353_5 := zA hl353_5
                    clear hi353_5 hl353_5
                    replace p353 := eq_true p353
                    replace q353 := eq_true q353
                    have p354 : 0 ≤ (x4_1 : Int) := zB qA
                    have q354 : x4_1 < (l0.length : Int) := zB qA
                    obtain ⟨ad354, A354_0, c354_0, e354, hx354_0, hl354_0, hi354_0⟩ := at_LIns HR0.out x4_1 p354 q354
                    obtain rfl : ad350 = ad354 := (by injection e354)
                    replace hx354_0 := (HB.out.cell (zE w _ hx354_0)).trans hx354_0
                    have HR354_0 := zA hi354_0
                    have HC354_0 := zA hl354_0
                    clear hi354_0 hl354_0
                    replace p354 := eq_true p354
                    replace q354 := eq_true q354
                    have ea_ := zI (hx352_0.symm.trans hx354_0)
                    injection ea_ with ea_ en_ ec_
                    subst ea_
                    subst ec_
                    clear en_
                    have p355 : 0 ≤ (x5_3 : Int) := zB qA
                    have q355 : x5_3 < ((rd_LIns l0 x4_1).length : Int) := zB qA
                    obtain ⟨ad355, A355_5, c355_5, e355, hx355_0, hx355_1, hx355_2, hx355_3, hx355_4, hx355_5, hl355_5, hi355_5⟩ := at_TIns HR354_0.out x5_3 p355 q355
                    cases e355
                    replace hx355_0 := (HB.out.cell (zE w _ hx355_0)).trans hx355_0
                    replace hx355_1 := (HB.out.cell (zE w _ hx355_1)).trans hx355_1
                    replace hx355_2 := (HB.out.cell (zE w _ hx355_2)).trans hx355_2
                    replace hx355_3 := (HB.out.cell (zE w _ hx355_3)).trans hx355_3
                    replace hx355_4 := (HB.out.cell (zE w _ hx355_4)).trans hx355_4
                    replace hx355_5 := (HB.out.cell (zE w _ hx355_5)).trans hx355_5
                    have HR355_5 := zA hi355_5
                    have HC355_5 := zA hl355_5
                    clear hi355_5 hl355_5
                    replace p355 := eq_true p355
                    replace q355 := eq_true q355
                    go_wp2
                    go_roundg kj8
                    case measure => have := HK1.out; have := HJ2.out; have := HK3.out; have := HJ8.out; omega
                    case rel => exact ⟨(wrap64 (x5_3 + 1)), qT, H', ⟨by have := HK1.out; have := HJ2.out; have := HK3.out; have := HJ8.out; omega⟩, ⟨qB⟩⟩
                 ·rw [zD c17] at H
                  exact absurd H (by simp)
                ·rw [zD c16] at H
                 exact absurd H (by simp)
               ·rw [zD c15] at H
                exact absurd H (by simp)
              ·rw [zD c14] at H
               exact absurd H (by simp)
             ·replace c13 := Bool.eq_false_iff.mpr c13
              subst c13
              have H1 : (cubbylaw08_heavy.l0 kj8 l0 (wrap64 (x3_1 + (ji8))) (wrap64 (x4_1 + 1))) = some r := by rw [zD (show ¬ (false = true) by decide)] at H; exact H
              clear H
              have H := H1
              clear H1
              have H' := zA H
              clear H
              go_wp2
              go_roundg kj8
              case measure => have := HK1.out; have := HJ2.out; have := HK3.out; have := HJ8.out; omega
              case rel => exact ⟨((wrap64 (x3_1 + (ji8)))), (wrap64 (x4_1 + 1)), (by first | rfl | (simp; done) | (simp only [← hji8] <;> (first | rfl | simp)) | (simp [*]; done)), qT, H', ⟨by have := HK1.out; have := HJ2.out; have := HK3.out; have := HJ8.out; omega⟩, ⟨qB⟩⟩
        ·rw [zD c7] at H
         exact absurd H (by simp)
       ·rw [zD c6] at H
        exact absurd H (by simp)
      ·replace c5 := Bool.eq_false_iff.mpr c5
       subst c5
       have H1 : (some (decide (x3_1 > 300))) = some r := by rw [zD (show ¬ (false = true) by decide)] at H; exact H
       clear H
       have H := H1
       clear H1
       obtain rfl := zI H
       go_wp2
       go_ret
       exact ⟨qE, qB⟩

mutual
def cubbyref07_Same.j0 : Nat → Bool → Int → Int → Int → Int → ByteArray → List Int → Int → Int → Int → Int → ByteArray → List Int → Option (Bool)
 | 0, _, _, _, _, _, _, _, _, _, _, _, _, _ => none
 | k + 1, x47, x293000, x293001, x293002, x293003, x293004, x293005, x294000, x294001, x294002, x294003, x294004, x294005 => if x47 = true then (some false) else (cubbyref07_Same.l0 k 0 x293000 x293001 x293002 x293003 x293004 x293005 x294000 x294001 x294002 x294003 x294004 x294005)
def cubbyref07_Same.l0 : Nat → Int → Int → Int → Int → Int → ByteArray → List Int → Int → Int → Int → Int → ByteArray → List Int → Option (Bool)
 | 0, _, _, _, _, _, _, _, _, _, _, _, _, _ => none
 | k + 1, x5, x293000, x293001, x293002, x293003, x293004, x293005, x294000, x294001, x294002, x294003, x294004, x294005 => if x5 < (x293005.length : Int) then (if 0 ≤ x5 then (if x5 < (x294005.length : Int) then (if (rd x293005 x5) = (rd x294005 x5) then (cubbyref07_Same.l0 k (wrap64 (x5 + 1)) x293000 x293001 x293002 x293003 x293004 x293005 x294000 x294001 x294002 x294003 x294004 x294005) else (some false)) else (none)) else (none)) else (some true)
end
def cubbyref07_Same.f (k : Nat) (a0_0 : Int) (a0_1 : Int) (a0_2 : Int) (a0_3 : Int) (a0_4 : ByteArray) (l0_5 : List Int) (a1_0 : Int) (a1_1 : Int) (a1_2 : Int) (a1_3 : Int) (a1_4 : ByteArray) (l1_5 : List Int) : Option (Bool) := if a0_0 = a1_0 then (if a0_1 = a1_1 then (if a0_2 = a1_2 then (if a0_3 = a1_3 then (if a0_4.toList = a1_4.toList then (cubbyref07_Same.j0 k ((l0_5.length : Int) != (l1_5.length : Int)) a0_0 a0_1 a0_2 a0_3 a0_4 l0_5 a1_0 a1_1 a1_2 a1_3 a1_4 l1_5) else (cubbyref07_Same.j0 k true a0_0 a0_1 a0_2 a0_3 a0_4 l0_5 a1_0 a1_1 a1_2 a1_3 a1_4 l1_5)) else (cubbyref07_Same.j0 k true a0_0 a0_1 a0_2 a0_3 a0_4 l0_5 a1_0 a1_1 a1_2 a1_3 a1_4 l1_5)) else (cubbyref07_Same.j0 k true a0_0 a0_1 a0_2 a0_3 a0_4 l0_5 a1_0 a1_1 a1_2 a1_3 a1_4 l1_5)) else (cubbyref07_Same.j0 k true a0_0 a0_1 a0_2 a0_3 a0_4 l0_5 a1_0 a1_1 a1_2 a1_3 a1_4 l1_5)) else (cubbyref07_Same.j0 k true a0_0 a0_1 a0_2 a0_3 a0_4 l0_5 a1_0 a1_1 a1_2 a1_3 a1_4 l1_5)
set_option maxHeartbeats 8000000 in
set_option maxRecDepth 100000 in
theorem cubbyref07_Same.calls (k : Nat) (a0_0 : Int) (a0_1 : Int) (a0_2 : Int) (a0_3 : Int) (a0_4 : ByteArray) (A0_5 : Option Addr) (c0_5 : Nat) (l0_5 : List Int) (a1_0 : Int) (a1_1 : Int) (a1_2 : Int) (a1_3 : Int) (a1_4 : ByteArray) (A1_5 : Option Addr) (c1_5 : Nat) (l1_5 : List Int) (r : Bool) (w : World) (hr0_5 : Kd.C (Kd.int .i64) w A0_5 l0_5.length l0_5) (hc0_5 : l0_5.length ≤ c0_5) (hr1_5 : Kd.C (Kd.int .i64) w A1_5 l1_5.length l1_5) (hc1_5 : l1_5.length ≤ c1_5) (h : cubbyref07_Same.f k a0_0 a0_1 a0_2 a0_3 a0_4 l0_5 a1_0 a1_1 a1_2 a1_3 a1_4 l1_5 = some r) :
 Calls Tryd.prog 46 #[.agg #[.int .i64 a0_0, .int .i64 a0_1, .int .i64 a0_2, .int .i64 a0_3, .string a0_4, .slice A0_5 l0_5.length c0_5], .agg #[.int .i64 a1_0, .int .i64 a1_1, .int .i64 a1_2, .int .i64 a1_3, .string a1_4, .slice A1_5 l1_5.length c1_5]] w fun e w' => e = .returned (.bool r) ∧ Below w.heap.size w w' := by
 have hu43 := Tryd.underlying43
 have HR0_5 := zA hr0_5
 have HC0_5 := zA hc0_5
 clear hr0_5 hc0_5
 have HR1_5 := zA hr1_5
 have HC1_5 := zA hc1_5
 clear hr1_5 hc1_5
 have HB := zA (Below.refl w.heap.size w)
 have H := h; clear h; unfold cubbyref07_Same.f at H
 have HC3 := zA H
 clear H
 go_enter Tryd.func46, Tryd.ntmps46
 go_upto_region 1 with (first | ((with_reducible refine gate_dst (N := 2) rfl ?_); (try (refine gate_guard (by rfl) ?_; dsimp only)); refine box_event (by rfl) (N := 2) (by rfl) (cs := #[.int .i64 a0_0, .int .i64 a0_1, .int .i64 a0_2, .int .i64 a0_3, .string a0_4, .slice A0_5 l0_5.length c0_5]) (t := 43) ?hr ?_; (case hr => go_simp <;> rfl); intro gb292 hg w4 hbox hb; have BK292 := zA (hbox); have GW292 := qG hg; have GE292 := GW292; replace HB := qH hb; clear hb hbox hg) | ((with_reducible refine gate_dst (N := 3) rfl ?_); (try (refine gate_guard (by rfl) ?_; dsimp only)); refine box_event (by rfl) (N := 3) (by rfl) (cs := #[.int .i64 a1_0, .int .i64 a1_1, .int .i64 a1_2, .int .i64 a1_3, .string a1_4, .slice A1_5 l1_5.length c1_5]) (t := 43) ?hr ?_; (case hr => go_simp <;> rfl); intro gb293 hg w5 hbox hb; have BK293 := zA (hbox); have GW293 := qG hg; have GE293 := GW293; replace HB := qH hb; have NB292_293 := zA ((by rw [hg]; exact Nat.ne_of_lt (blk_lt (g := gb292) (o := .cells #[.int .i64 a0_0, .int .i64 a0_1, .int .i64 a0_2, .int .i64 a0_3, .string a0_4, .slice A0_5 l0_5.length c0_5] 43 (0, 0)) (qK BK292.out)) : gb292 ≠ gb293)); have NB293_292 := zA ((by rw [hg]; exact Nat.ne_of_gt (blk_lt (g := gb292) (o := .cells #[.int .i64 a0_0, .int .i64 a0_1, .int .i64 a0_2, .int .i64 a0_3, .string a0_4, .slice A0_5 l0_5.length c0_5] 43 (0, 0)) (qK BK292.out)) : gb293 ≠ gb292)); replace BK292 := qW BK292 hb; clear hb hbox hg))
 repeat (go_quiet (first | ((with_reducible refine gate_dst (N := 2) rfl ?_); (try (refine gate_guard (by rfl) ?_; dsimp only)); refine box_event (by rfl) (N := 2) (by rfl) (cs := #[.int .i64 a0_0, .int .i64 a0_1, .int .i64 a0_2, .int .i64 a0_3, .string a0_4, .slice A0_5 l0_5.length c0_5]) (t := 43) ?hr ?_; (case hr => go_simp <;> rfl); intro gb292 hg w4 hbox hb; have BK292 := zA (hbox); have GW292 := qG hg; have GE292 := GW292; replace HB := qH hb; clear hb hbox hg) | ((with_reducible refine gate_dst (N := 3) rfl ?_); (try (refine gate_guard (by rfl) ?_; dsimp only)); refine box_event (by rfl) (N := 3) (by rfl) (cs := #[.int .i64 a1_0, .int .i64 a1_1, .int .i64 a1_2, .int .i64 a1_3, .string a1_4, .slice A1_5 l1_5.length c1_5]) (t := 43) ?hr ?_; (case hr => go_simp <;> rfl); intro gb293 hg w5 hbox hb; have BK293 := zA (hbox); have GW293 := qG hg; have GE293 := GW293; replace HB := qH hb; have NB292_293 := zA ((by rw [hg]; exact Nat.ne_of_lt (blk_lt (g := gb292) (o := .cells #[.int .i64 a0_0, .int .i64 a0_1, .int .i64 a0_2, .int .i64 a0_3, .string a0_4, .slice A0_5 l0_5.length c0_5] 43 (0, 0)) (qK BK292.out)) : gb292 ≠ gb293)); have NB293_292 := zA ((by rw [hg]; exact Nat.ne_of_gt (blk_lt (g := gb292) (o := .cells #[.int .i64 a0_0, .int .i64 a0_1, .int .i64 a0_2, .int .i64 a0_3, .string a0_4, .slice A0_5 l0_5.length c0_5] 43 (0, 0)) (qK BK292.out)) : gb293 ≠ gb292)); replace BK292 := qW BK292 hb; clear hb hbox hg)); go_upto_region 1 with (first | ((with_reducible refine gate_dst (N := 2) rfl ?_); (try (refine gate_guard (by rfl) ?_; dsimp only)); refine box_event (by rfl) (N := 2) (by rfl) (cs := #[.int .i64 a0_0, .int .i64 a0_1, .int .i64 a0_2, .int .i64 a0_3, .string a0_4, .slice A0_5 l0_5.length c0_5]) (t := 43) ?hr ?_; (case hr => go_simp <;> rfl); intro gb292 hg w4 hbox hb; have BK292 := zA (hbox); have GW292 := qG hg; have GE292 := GW292; replace HB := qH hb; clear hb hbox hg) | ((with_reducible refine gate_dst (N := 3) rfl ?_); (try (refine gate_guard (by rfl) ?_; dsimp only)); refine box_event (by rfl) (N := 3) (by rfl) (cs := #[.int .i64 a1_0, .int .i64 a1_1, .int .i64 a1_2, .int .i64 a1_3, .string a1_4, .slice A1_5 l1_5.length c1_5]) (t := 43) ?hr ?_; (case hr => go_simp <;> rfl); intro gb293 hg w5 hbox hb; have BK293 := zA (hbox); have GW293 := qG hg; have GE293 := GW293; replace HB := qH hb; have NB292_293 := zA ((by rw [hg]; exact Nat.ne_of_lt (blk_lt (g := gb292) (o := .cells #[.int .i64 a0_0, .int .i64 a0_1, .int .i64 a0_2, .int .i64 a0_3, .string a0_4, .slice A0_5 l0_5.length c0_5] 43 (0, 0)) (qK BK292.out)) : gb292 ≠ gb293)); have NB293_292 := zA ((by rw [hg]; exact Nat.ne_of_gt (blk_lt (g := gb292) (o := .cells #[.int .i64 a0_0, .int .i64 a0_1, .int .i64 a0_2, .int .i64 a0_3, .string a0_4, .slice A0_5 l0_5.length c0_5] 43 (0, 0)) (qK BK292.out)) : gb293 ≠ gb292)); replace BK292 := qW BK292 hb; clear hb hbox hg)))
 (try simp only [Act.put, List.setIfInBounds_toArray, List.set_cons_zero, List.set_cons_succ])
 go_cut [47] (fun v47 wc => ∃ (kq : Nat) (x47_2 : Bool), v47 = .bool x47_2 ∧ Aside0 (cubbyref07_Same.j0 kq x47_2 a0_0 a0_1 a0_2 a0_3 a0_4 l0_5 a1_0 a1_1 a1_2 a1_3 a1_4 l1_5 = some r) ∧ Aside0 (kq ≤ k) ∧ Aside0 (wc.heap[gb292]? = some (.cells #[.int .i64 a0_0, .int .i64 a0_1, .int .i64 a0_2, .int .i64 a0_3, .string a0_4, (.slice A0_5 l0_5.length c0_5)] 43 (0, 0))) ∧ Aside0 (wc.heap[gb293]? = some (.cells #[.int .i64 a1_0, .int .i64 a1_1, .int .i64 a1_2, .int .i64 a1_3, .string a1_4, (.slice A1_5 l1_5.length c1_5)] 43 (0, 0))) ∧ Aside0 (Below w.heap.size w wc))
 case first =>
  have H := HC3.out
  clear HC3
  by_cases c6 : a0_0 = a1_0
  ·rw [zC c6] at H
   obtain ⟨c6b0, c6b1⟩ := qe c6; clear c6
   (first | rw [c6b0] | (simp only [i64_w, i32_w]; rw [c6b0]) | skip)
   by_cases c7 : a0_1 = a1_1
   ·rw [zC c7] at H
    obtain ⟨c7b0, c7b1⟩ := qe c7; clear c7
    by_cases c8 : a0_2 = a1_2
    ·rw [zC c8] at H
     obtain ⟨c8b0, c8b1⟩ := qe c8; clear c8
     by_cases c9 : a0_3 = a1_3
     ·rw [zC c9] at H
      obtain ⟨c9b0, c9b1⟩ := qe c9; clear c9
      by_cases c10 : a0_4.toList = a1_4.toList
      ·rw [zC c10] at H
       obtain ⟨c10b0, c10b1⟩ := qe c10; clear c10
       have H' := zA H
       clear H
       have hnb11 := NB292_293.out
       have hnc11 := NB293_292.out
       have z12_0 := bk6 BK292.out
       have z13_0 := bk6 BK293.out
       go_wp2
       repeat (go_quiet (fail); try go_wp2)
       go_meet
       case rel => exact ⟨_, (((l0_5.length : Int) != (l1_5.length : Int))), qT, H', ⟨qO⟩, ⟨qK BK292.out⟩, ⟨qK BK293.out⟩, ⟨qB⟩⟩
      ·rw [zD c10] at H
       obtain ⟨c10b0, c10b1⟩ := qn c10
       have H' := zA H
       clear H
       have hnb14 := NB292_293.out
       have hnc14 := NB293_292.out
       have z15_0 := bk6 BK292.out
       have z16_0 := bk6 BK293.out
       go_wp2
       repeat (go_quiet (fail); try go_wp2)
       go_meet
       case rel => exact ⟨_, (true), qT, H', ⟨qO⟩, ⟨qK BK292.out⟩, ⟨qK BK293.out⟩, ⟨qB⟩⟩
     ·rw [zD c9] at H
      obtain ⟨c9b0, c9b1⟩ := qn c9
      have H' := zA H
      clear H
      have hnb17 := NB292_293.out
      have hnc17 := NB293_292.out
      have z18_0 := bk6 BK292.out
      have z19_0 := bk6 BK293.out
      go_wp2
      repeat (go_quiet (fail); try go_wp2)
      go_meet
      case rel => exact ⟨_, (true), qT, H', ⟨qO⟩, ⟨qK BK292.out⟩, ⟨qK BK293.out⟩, ⟨qB⟩⟩
    ·rw [zD c8] at H
     obtain ⟨c8b0, c8b1⟩ := qn c8
     have H' := zA H
     clear H
     have hnb20 := NB292_293.out
     have hnc20 := NB293_292.out
     have z21_0 := bk6 BK292.out
     have z22_0 := bk6 BK293.out
     go_wp2
     repeat (go_quiet (fail); try go_wp2)
     go_meet
     case rel => exact ⟨_, (true), qT, H', ⟨qO⟩, ⟨qK BK292.out⟩, ⟨qK BK293.out⟩, ⟨qB⟩⟩
   ·rw [zD c7] at H
    obtain ⟨c7b0, c7b1⟩ := qn c7
    have H' := zA H
    clear H
    have hnb23 := NB292_293.out
    have hnc23 := NB293_292.out
    have z24_0 := bk6 BK292.out
    have z25_0 := bk6 BK293.out
    go_wp2
    repeat (go_quiet (fail); try go_wp2)
    go_meet
    case rel => exact ⟨_, (true), qT, H', ⟨qO⟩, ⟨qK BK292.out⟩, ⟨qK BK293.out⟩, ⟨qB⟩⟩
  ·rw [zD c6] at H
   obtain ⟨c6b0, c6b1⟩ := qn c6
   (first | rw [c6b0] | (simp only [i64_w, i32_w]; rw [c6b0]) | skip)
   have H' := zA H
   clear H
   have hnb26 := NB292_293.out
   have hnc26 := NB293_292.out
   have z27_0 := bk6 BK292.out
   have z28_0 := bk6 BK293.out
   go_wp2
   repeat (go_quiet (fail); try go_wp2)
   go_meet
   case rel => exact ⟨_, (true), qT, H', ⟨qO⟩, ⟨qK BK292.out⟩, ⟨qK BK293.out⟩, ⟨qB⟩⟩
 case rest =>
  clear HC3
  try clear c1; try clear c2; try clear p2; try clear c4; try clear c6; try clear c6b0 c6b1; try clear c7; try clear c7b0 c7b1; try clear c8; try clear c8b0 c8b1; try clear c9; try clear c9b0 c9b1; try clear c10; try clear c10b0 c10b1; try clear c11; try clear c14; try clear c17; try clear c20; try clear c23; try clear c26; try clear z12_0; try clear z13_0; try clear z15_0; try clear z16_0; try clear z18_0; try clear z19_0; try clear z21_0; try clear z22_0; try clear z24_0; try clear z25_0; try clear z27_0; try clear z28_0
  obtain ⟨kq, x47_2, rfl, HA, HJ2, BK292, BK293, HB⟩ := hcut
  cases kq with
  | zero => exact absurd HA.out (by simp [cubbyref07_Same.j0])
  | succ kj2 =>
   have H := HA.out
   clear HA
   simp only [cubbyref07_Same.j0] at H
   by_cases c29 : x47_2 = true
   ·subst c29
    have H1 : (some false) = some r := by rw [zC rfl] at H; exact H
    clear H
    have H := H1
    clear H1
    obtain rfl := zI H
    go_wp2
    repeat (go_quiet (fail); try go_wp2)
    go_ret
    exact ⟨qE, qB⟩
   ·replace c29 := Bool.eq_false_iff.mpr c29
    subst c29
    have H1 : (cubbyref07_Same.l0 kj2 0 a0_0 a0_1 a0_2 a0_3 a0_4 l0_5 a1_0 a1_1 a1_2 a1_3 a1_4 l1_5) = some r := by rw [zD (show ¬ (false = true) by decide)] at H; exact H
    clear H
    have H := H1
    clear H1
    have H' := zA H
    clear H
    go_wp2
    repeat (go_quiet (fail); try go_wp2)
    go_loopg [5] kj2 (fun kq v5 w' => ∃ (x5_2 : Int), v5 = .int .i64 x5_2 ∧ Aside0 (cubbyref07_Same.l0 kq x5_2 a0_0 a0_1 a0_2 a0_3 a0_4 l0_5 a1_0 a1_1 a1_2 a1_3 a1_4 l1_5 = some r) ∧ Aside0 (kq ≤ kj2) ∧ Aside0 (w'.heap[gb292]? = some (.cells #[.int .i64 a0_0, .int .i64 a0_1, .int .i64 a0_2, .int .i64 a0_3, .string a0_4, (.slice A0_5 l0_5.length c0_5)] 43 (0, 0))) ∧ Aside0 (w'.heap[gb293]? = some (.cells #[.int .i64 a1_0, .int .i64 a1_1, .int .i64 a1_2, .int .i64 a1_3, .string a1_4, (.slice A1_5 l1_5.length c1_5)] 43 (0, 0))) ∧ Aside0 (Below w.heap.size w w'))
    case atStart => exact ⟨(0), qT, H', ⟨Nat.le_refl _⟩, ⟨qK BK292.out⟩, ⟨qK BK293.out⟩, ⟨qB⟩⟩
    case round =>
     clear H'
     try clear c1; try clear c2; try clear p2; try clear c4; try clear c6; try clear c6b0 c6b1; try clear c7; try clear c7b0 c7b1; try clear c8; try clear c8b0 c8b1; try clear c9; try clear c9b0 c9b1; try clear c10; try clear c10b0 c10b1; try clear c11; try clear c14; try clear c17; try clear c20; try clear c23; try clear c26; try clear c29; try clear z12_0; try clear z13_0; try clear z15_0; try clear z16_0; try clear z18_0; try clear z19_0; try clear z21_0; try clear z22_0; try clear z24_0; try clear z25_0; try clear z27_0; try clear z28_0
     obtain ⟨x5_2, rfl, HA, HK2, BK292, BK293, HB⟩ := hrel
     cases gk with
     | zero => exact absurd HA.out (by simp [cubbyref07_Same.l0])
     | succ k2 =>
      have H := HA.out
      clear HA
      simp only [cubbyref07_Same.l0] at H
      by_cases c30 : x5_2 < (l0_5.length : Int)
      ·rw [zC c30] at H
       have c30b0 := zF c30
       clear c30
       by_cases c31 : 0 ≤ x5_2
       ·rw [zC c31] at H
        have c31b0 := zF c31
        clear c31
        by_cases c32 : x5_2 < (l1_5.length : Int)
        ·rw [zC c32] at H
         have c32b0 := zF c32
         clear c32
         by_cases c33 : (rd l0_5 x5_2) = (rd l1_5 x5_2)
         ·rw [zC c33] at H
          obtain ⟨c33b0, c33b1⟩ := qe c33; clear c33
          have H' := zA H
          clear H
          have hnb34 := NB292_293.out
          have hnc34 := NB293_292.out
          have z35_0 := bk6 BK292.out
          have p294 : 0 ≤ (x5_2 : Int) := zB qA
          have q294 : x5_2 < (l0_5.length : Int) := zB qA
          obtain ⟨ad294, e294, hx294_0⟩ := Kd.at_int HR0_5.out x5_2 p294 q294
          cases e294
          replace hx294_0 := (HB.out.cell (zE w _ hx294_0)).trans hx294_0
          replace p294 := eq_true p294
          replace q294 := eq_true q294
          have z36_0 := bk6 BK293.out
          have p295 : 0 ≤ (x5_2 : Int) := zB qA
          have q295 : x5_2 < (l1_5.length : Int) := zB qA
          obtain ⟨ad295, e295, hx295_0⟩ := Kd.at_int HR1_5.out x5_2 p295 q295
          cases e295
          replace hx295_0 := (HB.out.cell (zE w _ hx295_0)).trans hx295_0
          replace p295 := eq_true p295
          replace q295 := eq_true q295
          go_wp2
          repeat (go_quiet (fail); try go_wp2)
          go_roundg k2
          case measure => have := HJ2.out; have := HK2.out; omega
          case rel => exact ⟨(wrap64 (x5_2 + 1)), qT, H', ⟨by have := HJ2.out; have := HK2.out; omega⟩, ⟨qK BK292.out⟩, ⟨qK BK293.out⟩, ⟨qB⟩⟩
         ·rw [zD c33] at H
          obtain ⟨c33b0, c33b1⟩ := qn c33
          obtain rfl := zI H
          have hnb37 := NB292_293.out
          have hnc37 := NB293_292.out
          have z38_0 := bk6 BK292.out
          have p294 : 0 ≤ (x5_2 : Int) := zB qA
          have q294 : x5_2 < (l0_5.length : Int) := zB qA
          obtain ⟨ad294, e294, hx294_0⟩ := Kd.at_int HR0_5.out x5_2 p294 q294
          cases e294
          replace hx294_0 := (HB.out.cell (zE w _ hx294_0)).trans hx294_0
          replace p294 := eq_true p294
          replace q294 := eq_true q294
          have z39_0 := bk6 BK293.out
          have p295 : 0 ≤ (x5_2 : Int) := zB qA
          have q295 : x5_2 < (l1_5.length : Int) := zB qA
          obtain ⟨ad295, e295, hx295_0⟩ := Kd.at_int HR1_5.out x5_2 p295 q295
          cases e295
          replace hx295_0 := (HB.out.cell (zE w _ hx295_0)).trans hx295_0
          replace p295 := eq_true p295
          replace q295 := eq_true q295
          go_wp2
          repeat (go_quiet (fail); try go_wp2)
          go_ret
          exact ⟨qE, qB⟩
        ·rw [zD c32] at H
         exact absurd H (by simp)
       ·rw [zD c31] at H
        exact absurd H (by simp)
      ·rw [zD c30] at H
       have c30b0 := zG c30
       clear c30
       obtain rfl := zI H
       have hnb40 := NB292_293.out
       have hnc40 := NB293_292.out
       have z41_0 := bk6 BK292.out
       go_wp2
       repeat (go_quiet (fail); try go_wp2)
       go_ret
       exact ⟨qE, qB⟩

mutual
def cubbyref07_Blocks.l0 : Nat → List (List (SIns)) → List (List (SIns)) → Int → Option (Bool)
 | 0, _, _, _ => none
 | k + 1, x0, x1, x5 => if x5 < (x0.length : Int) then (if 0 ≤ x5 then (if x5 < (x1.length : Int) then (if ((rd_LIns x0 x5).length : Int) = ((rd_LIns x1 x5).length : Int) then (cubbyref07_Blocks.l1 k x0 x1 x5 0) else (some false)) else (none)) else (none)) else (some true)
def cubbyref07_Blocks.l1 : Nat → List (List (SIns)) → List (List (SIns)) → Int → Int → Option (Bool)
 | 0, _, _, _, _ => none
 | k + 1, x0, x1, x5, x6 => if 0 ≤ x5 then (if x5 < (x0.length : Int) then (if x6 < ((rd_LIns x0 x5).length : Int) then (if 0 ≤ x6 then (if x5 < (x1.length : Int) then (if x6 < ((rd_LIns x1 x5).length : Int) then ((cubbyref07_Same.f k ((rd_TIns (rd_LIns x0 x5) x6).f0) ((rd_TIns (rd_LIns x0 x5) x6).f1) ((rd_TIns (rd_LIns x0 x5) x6).f2) ((rd_TIns (rd_LIns x0 x5) x6).f3) ((rd_TIns (rd_LIns x0 x5) x6).f4) ((rd_TIns (rd_LIns x0 x5) x6).f5) ((rd_TIns (rd_LIns x1 x5) x6).f0) ((rd_TIns (rd_LIns x1 x5) x6).f1) ((rd_TIns (rd_LIns x1 x5) x6).f2) ((rd_TIns (rd_LIns x1 x5) x6).f3) ((rd_TIns (rd_LIns x1 x5) x6).f4) ((rd_TIns (rd_LIns x1 x5) x6).f5)).bind fun t303 => (if t303 = true then (cubbyref07_Blocks.l1 k x0 x1 x5 (wrap64 (x6 + 1))) else (some false))) else (none)) else (none)) else (none)) else (cubbyref07_Blocks.l0 k x0 x1 (wrap64 (x5 + 1)))) else (none)) else (none)
end
def cubbyref07_Blocks.f (k : Nat) (l0 : List (List (SIns))) (l1 : List (List (SIns))) : Option (Bool) := if (l0.length : Int) = (l1.length : Int) then (cubbyref07_Blocks.l0 k l0 l1 0) else (some false)
def cubbyref07_Blocks.T6 : Bool × List (List Nat × List Nat) := (true, [([], []), ([], []), ([0, 1], [0, 1]), ([2], [2]), ([3], [3]), ([], []), ([], []), ([5, 6], [5, 6]), ([7], [7]), ([8], [8]), ([4, 9], [4, 9])])
def cubbyref07_Blocks.B6 : List Nat := [0, 0, 3, 7, 15, 0, 0, 96, 224, 480, 1023]
theorem cubbyref07_Blocks.tab6 : rtab .any (opsOf Tryd.f24 6) = cubbyref07_Blocks.T6 := by kernel_rfl
theorem cubbyref07_Blocks.bits6 : waitsOk cubbyref07_Blocks.T6.2 cubbyref07_Blocks.B6 = true := by kernel_rfl
def cubbyref07_Blocks.T11 : Bool × List (List Nat × List Nat) := (true, [([], []), ([], []), ([0, 1], [0, 1]), ([2], [2]), ([], []), ([3, 4], [3, 4]), ([5], [5]), ([], []), ([], []), ([7, 8], [7, 8]), ([9], [9]), ([], []), ([10, 11], [10, 11]), ([12], [12]), ([6, 13], [6, 13]), ([14], [14])])
def cubbyref07_Blocks.B11 : List Nat := [0, 0, 3, 7, 0, 31, 63, 0, 0, 384, 896, 0, 3968, 8064, 16383, 32767]
theorem cubbyref07_Blocks.tab11 : rtab .any (opsOf Tryd.f24 11) = cubbyref07_Blocks.T11 := by kernel_rfl
theorem cubbyref07_Blocks.bits11 : waitsOk cubbyref07_Blocks.T11.2 cubbyref07_Blocks.B11 = true := by kernel_rfl
set_option maxHeartbeats 8000000 in
set_option maxRecDepth 100000 in
theorem cubbyref07_Blocks.calls (k : Nat) (A0 : Option Addr) (c0 : Nat) (l0 : List (List (SIns))) (A1 : Option Addr) (c1 : Nat) (l1 : List (List (SIns))) (r : Bool) (w : World) (hr0 : Kd.C (Kd.slice 43 kIns) w A0 l0.length l0) (hc0 : l0.length ≤ c0) (hr1 : Kd.C (Kd.slice 43 kIns) w A1 l1.length l1) (hc1 : l1.length ≤ c1) (h : cubbyref07_Blocks.f k l0 l1 = some r) :
 Calls Tryd.prog 24 #[.slice A0 l0.length c0, .slice A1 l1.length c1] w fun e w' => e = .returned (.bool r) ∧ Below w.heap.size w w' := by
 have hu43 := Tryd.underlying43
 have HR0 := zA hr0
 have HC0 := zA hc0
 clear hr0 hc0
 have HR1 := zA hr1
 have HC1 := zA hc1
 clear hr1 hc1
 have HB := zA (Below.refl w.heap.size w)
 have H := h; clear h; unfold cubbyref07_Blocks.f at H
 by_cases c3 : (l0.length : Int) = (l1.length : Int)
 ·rw [zC c3] at H
  obtain ⟨c3b0, c3b1⟩ := qe c3
  have c3b2 : (l0.length == l1.length) = true := by first | simpa using c3 | (simp at c3 ⊢; omega)
  clear c3
  have H' := zA H
  clear H
  go_enter Tryd.func24, Tryd.ntmps24
  go_wp2
  go_loopg [5] k (fun kq v5 w' => ∃ (x5_1 : Int), v5 = .int .i64 x5_1 ∧ Aside0 (cubbyref07_Blocks.l0 kq l0 l1 x5_1 = some r) ∧ Aside0 (kq ≤ k) ∧ Aside0 (Below w.heap.size w w'))
  case atStart => exact ⟨(0), qT, H', ⟨Nat.le_refl _⟩, ⟨qB⟩⟩
  case round =>
   clear H'
   try clear c1; try clear c2; try clear p2; try clear c3b0 c3b1 c3b2
   obtain ⟨x5_1, rfl, HA, HK1, HB⟩ := hrel
   cases gk with
   | zero => exact absurd HA.out (by simp [cubbyref07_Blocks.l0])
   | succ k1 =>
    have H := HA.out
    clear HA
    simp only [cubbyref07_Blocks.l0] at H
    by_cases c4 : x5_1 < (l0.length : Int)
    ·rw [zC c4] at H
     have c4b0 := zF c4
     clear c4
     by_cases c5 : 0 ≤ x5_1
     ·rw [zC c5] at H
      have c5b0 := zF c5
      clear c5
      by_cases c6 : x5_1 < (l1.length : Int)
      ·rw [zC c6] at H
       have c6b0 := zF c6
       clear c6
       by_cases c7 : ((rd_LIns l0 x5_1).length : Int) = ((rd_LIns l1 x5_1).length : Int)
       ·rw [zC c7] at H
        obtain ⟨c7b0, c7b1⟩ := qe c7
        have c7b2 : ((rd_LIns l0 x5_1).length == (rd_LIns l1 x5_1).length) = true := by first | simpa using c7 | (simp at c7 ⊢; omega)
        clear c7
        have H' := zA H
        clear H
        try go_wp2
        have n0_ := zA (below_drew1 HB.out)
        clear HB
        have HB := n0_
        clear n0_
        have p296 : 0 ≤ (x5_1 : Int) := zB qA
        have q296 : x5_1 < (l0.length : Int) := zB qA
        obtain ⟨ad296, A296_0, c296_0, e296, hx296_0, hl296_0, hi296_0⟩ := at_LIns HR0.out x5_1 p296 q296
        have hw296_0 := hx296_0
        cases e296
        replace hx296_0 := (HB.out.cell (zE w _ hx296_0)).trans hx296_0
        have HR296_0 := zA hi296_0
        have HC296_0 := zA hl296_0
        clear hi296_0 hl296_0
        replace p296 := eq_true p296
        replace q296 := eq_true q296
        have p297 : 0 ≤ (x5_1 : Int) := zB qA
        have q297 : x5_1 < (l1.length : Int) := zB qA
        obtain ⟨ad297, A297_0, c297_0, e297, hx297_0, hl297_0, hi297_0⟩ := at_LIns HR1.out x5_1 p297 q297
        have hw297_0 := hx297_0
        cases e297
        replace hx297_0 := (HB.out.cell (zE w _ hx297_0)).trans hx297_0
        have HR297_0 := zA hi297_0
        have HC297_0 := zA hl297_0
        clear hi297_0 hl297_0
        replace p297 := eq_true p297
        replace q297 := eq_true q297
        refine start_ (n := 11) (S := fun w' => w'.cell? (ad296.add (x5_1).toNat) = some (.slice A296_0 (rd_LIns l0 x5_1).length c296_0) ∧ w'.cell? (ad297.add (x5_1).toNat) = some (.slice A297_0 (rd_LIns l1 x5_1).length c297_0)) (ds := []) (bA 11 0) (by kernel_rfl) rfl rfl ⟨((HB.out.cell (zE w _ hw296_0)).trans hw296_0), ((HB.out.cell (zE w _ hw297_0)).trans hw297_0)⟩ (fun hHeld => ?_); refine with_tabW cubbyref07_Blocks.tab6 cubbyref07_Blocks.bits6 (fun HT_ HW_ => ?_)
        generalize wr.drew = w8 at HB HR296_0 HR297_0 hx296_0 hx297_0 hHeld ⊢
        refine pu_ (i := 0) (N := some 18) (bA 11 1) ?_
        refine pu_ (i := 1) (N := some 19) (bA 11 3) ?_
        refine pu_ (i := 2) (N := some 20) (bA 11 7) ?_
        refine pu_ (i := 5) (N := some 23) (bA 11 39) ?_
        refine pu_ (i := 6) (N := some 24) (bA 11 103) ?_
        refine pu_ (i := 7) (N := some 25) (bA 11 231) ?_
        refine tk_ (i := 3) (N := some 21) (bA 11 239) ?_
        refine pu_ (i := 4) (N := some 22) (bA 11 255) ?_
        refine tk_ (i := 8) (N := some 26) (bA 11 511) ?_
        refine pu_ (i := 9) (N := some 27) (bA 11 1023) ?_
        refine pu_ (i := 10) (N := some 28) (bA 11 2047) ?_
        refine done_ (done_of HT_.out (by kernel_rfl)) ?_
        try go_wp2
        go_loopg [6] k1 (fun kq v6 w' => ∃ (x6_2 : Int), v6 = .int .i64 x6_2 ∧ Aside0 (cubbyref07_Blocks.l1 kq l0 l1 x5_1 x6_2 = some r) ∧ Aside0 (kq ≤ k1) ∧ Aside0 (Below w.heap.size w w'))
        case atStart => exact ⟨(0), qT, H', ⟨Nat.le_refl _⟩, ⟨qB⟩⟩
        case round =>
         clear H'
         try clear c1; try clear c2; try clear p2; try clear q2; try clear hx2; try clear c3b0 c3b1 c3b2; try clear c4b0; try clear c5b0; try clear c6b0; try clear c7b0 c7b1 c7b2; try clear hx296_0; try clear hx297_0; try clear p296; try clear p297; try clear q296; try clear q297
         obtain ⟨x6_2, rfl, HA, HK2, HB⟩ := hrel
         cases gk with
         | zero => exact absurd HA.out (by simp [cubbyref07_Blocks.l1])
         | succ k2 =>
          have H := HA.out
          clear HA
          simp only [cubbyref07_Blocks.l1] at H
          by_cases c9 : 0 ≤ x5_1
          ·rw [zC c9] at H
           have c9b0 := zF c9
           clear c9
           by_cases c10 : x5_1 < (l0.length : Int)
           ·rw [zC c10] at H
            have c10b0 := zF c10
            clear c10
            by_cases c11 : x6_2 < ((rd_LIns l0 x5_1).length : Int)
            ·rw [zC c11] at H
             have c11b0 := zF c11
             clear c11
             by_cases c12 : 0 ≤ x6_2
             ·rw [zC c12] at H
              have c12b0 := zF c12
              clear c12
              by_cases c13 : x5_1 < (l1.length : Int)
              ·rw [zC c13] at H
               have c13b0 := zF c13
               clear c13
               by_cases c14 : x6_2 < ((rd_LIns l1 x5_1).length : Int)
               ·rw [zC c14] at H
                have c14b0 := zF c14
                clear c14
                replace H := qb H; obtain ⟨t303, A15, H⟩ := H
                by_cases c16 : t303 = true
                ·subst c16
                 have H1 : (cubbyref07_Blocks.l1 k2 l0 l1 x5_1 (wrap64 (x6_2 + 1))) = some r := by rw [zC rfl] at H; exact H
                 clear H
                 have H := H1
                 clear H1
                 have H' := zA H
                 clear H
                 have p298 : 0 ≤ (x5_1 : Int) := zB qA
                 have q298 : x5_1 < (l0.length : Int) := zB qA
                 obtain ⟨ad298, A298_0, c298_0, e298, hx298_0, hl298_0, hi298_0⟩ := at_LIns HR0.out x5_1 p298 q298
                 obtain rfl : ad296 = ad298 := (by injection e298)
                 replace hx298_0 := (HB.out.cell (zE w _ hx298_0)).trans hx298_0
                 have HR298_0 := zA hi298_0
                 have HC298_0 := zA hl298_0
                 clear hi298_0 hl298_0
                 replace p298 := eq_true p298
                 replace q298 := eq_true q298
                 try go_wp2
                 have n0_ := zA (below_drew1 HB.out)
                 clear HB
                 have HB := n0_
                 clear n0_
                 have p299 : 0 ≤ (x5_1 : Int) := zB qA
                 have q299 : x5_1 < (l0.length : Int) := zB qA
                 obtain ⟨ad299, A299_0, c299_0, e299, hx299_0, hl299_0, hi299_0⟩ := at_LIns HR0.out x5_1 p299 q299
                 have hw299_0 := hx299_0
                 obtain rfl : ad296 = ad299 := (by injection e299)
                 replace hx299_0 := (HB.out.cell (zE w _ hx299_0)).trans hx299_0
                 have HR299_0 := zA hi299_0
                 have HC299_0 := zA hl299_0
                 clear hi299_0 hl299_0
                 replace p299 := eq_true p299
                 replace q299 := eq_true q299
                 have p300 : 0 ≤ (x6_2 : Int) := zB qA
                 have q300 : x6_2 < ((rd_LIns l0 x5_1).length : Int) := zB qA
                 obtain ⟨ad300, A300_5, c300_5, e300, hx300_0, hx300_1, hx300_2, hx300_3, hx300_4, hx300_5, hl300_5, hi300_5⟩ := at_TIns HR299_0.out x6_2 p300 q300
                 have hw300_5 := hx300_5
                 have hw300_4 := hx300_4
                 have hw300_3 := hx300_3
                 have hw300_2 := hx300_2
                 have hw300_1 := hx300_1
                 have hw300_0 := hx300_0
                 cases e300
                 replace hx300_0 := (HB.out.cell (zE w _ hx300_0)).trans hx300_0
                 replace hx300_1 := (HB.out.cell (zE w _ hx300_1)).trans hx300_1
                 replace hx300_2 := (HB.out.cell (zE w _ hx300_2)).trans hx300_2
                 replace hx300_3 := (HB.out.cell (zE w _ hx300_3)).trans hx300_3
                 replace hx300_4 := (HB.out.cell (zE w _ hx300_4)).trans hx300_4
                 replace hx300_5 := (HB.out.cell (zE w _ hx300_5)).trans hx300_5
                 have HR300_5 := zA hi300_5
                 have HC300_5 := zA hl300_5
                 clear hi300_5 hl300_5
                 replace p300 := eq_true p300
                 replace q300 := eq_true q300
                 have p301 : 0 ≤ (x5_1 : Int) := zB qA
                 have q301 : x5_1 < (l1.length : Int) := zB qA
                 obtain ⟨ad301, A301_0, c301_0, e301, hx301_0, hl301_0, hi301_0⟩ := at_LIns HR1.out x5_1 p301 q301
                 have hw301_0 := hx301_0
                 obtain rfl : ad297 = ad301 := (by injection e301)
                 replace hx301_0 := (HB.out.cell (zE w _ hx301_0)).trans hx301_0
                 have HR301_0 := zA hi301_0
                 have HC301_0 := zA hl301_0
                 clear hi301_0 hl301_0
                 replace p301 := eq_true p301
                 replace q301 := eq_true q301
                 have p302 : 0 ≤ (x6_2 : Int) := zB qA
                 have q302 : x6_2 < ((rd_LIns l1 x5_1).length : Int) := zB qA
                 obtain ⟨ad302, A302_5, c302_5, e302, hx302_0, hx302_1, hx302_2, hx302_3, hx302_4, hx302_5, hl302_5, hi302_5⟩ := at_TIns HR301_0.out x6_2 p302 q302
                 have hw302_5 := hx302_5
                 have hw302_4 := hx302_4
                 have hw302_3 := hx302_3
                 have hw302_2 := hx302_2
                 have hw302_1 := hx302_1
                 have hw302_0 := hx302_0
                 cases e302
                 replace hx302_0 := (HB.out.cell (zE w _ hx302_0)).trans hx302_0
                 replace hx302_1 := (HB.out.cell (zE w _ hx302_1)).trans hx302_1
                 replace hx302_2 := (HB.out.cell (zE w _ hx302_2)).trans hx302_2
                 replace hx302_3 := (HB.out.cell (zE w _ hx302_3)).trans hx302_3
                 replace hx302_4 := (HB.out.cell (zE w _ hx302_4)).trans hx302_4
                 replace hx302_5 := (HB.out.cell (zE w _ hx302_5)).trans hx302_5
                 have HR302_5 := zA hi302_5
                 have HC302_5 := zA hl302_5
                 clear hi302_5 hl302_5
                 replace p302 := eq_true p302
                 replace q302 := eq_true q302
                 refine start_ (n := 16) (S := fun w' => w'.cell? (ad296.add (x5_1).toNat) = some (.slice (some ad300) (rd_LIns l0 x5_1).length c299_0) ∧ w'.cell? (ad300.add ((x6_2).toNat * 6)) = some (.int .i64 ((rd_TIns (rd_LIns l0 x5_1) x6_2).f0)) ∧ w'.cell? ⟨(ad300.add ((x6_2).toNat * 6)).block, (ad300.add ((x6_2).toNat * 6)).off + 1, none⟩ = some (.int .i64 ((rd_TIns (rd_LIns l0 x5_1) x6_2).f1)) ∧ w'.cell? ⟨(ad300.add ((x6_2).toNat * 6)).block, (ad300.add ((x6_2).toNat * 6)).off + 2, none⟩ = some (.int .i64 ((rd_TIns (rd_LIns l0 x5_1) x6_2).f2)) ∧ w'.cell? ⟨(ad300.add ((x6_2).toNat * 6)).block, (ad300.add ((x6_2).toNat * 6)).off + 3, none⟩ = some (.int .i64 ((rd_TIns (rd_LIns l0 x5_1) x6_2).f3)) ∧ w'.cell? ⟨(ad300.add ((x6_2).toNat * 6)).block, (ad300.add ((x6_2).toNat * 6)).off + 4, none⟩ = some (.string ((rd_TIns (rd_LIns l0 x5_1) x6_2).f4)) ∧ w'.cell? ⟨(ad300.add ((x6_2).toNat * 6)).block, (ad300.add ((x6_2).toNat * 6)).off + 5, none⟩ = some (.slice A300_5 ((rd_TIns (rd_LIns l0 x5_1) x6_2).f5).length c300_5) ∧ w'.cell? (ad297.add (x5_1).toNat) = some (.slice (some ad302) (rd_LIns l1 x5_1).length c301_0) ∧ w'.cell? (ad302.add ((x6_2).toNat * 6)) = some (.int .i64 ((rd_TIns (rd_LIns l1 x5_1) x6_2).f0)) ∧ w'.cell? ⟨(ad302.add ((x6_2).toNat * 6)).block, (ad302.add ((x6_2).toNat * 6)).off + 1, none⟩ = some (.int .i64 ((rd_TIns (rd_LIns l1 x5_1) x6_2).f1)) ∧ w'.cell? ⟨(ad302.add ((x6_2).toNat * 6)).block, (ad302.add ((x6_2).toNat * 6)).off + 2, none⟩ = some (.int .i64 ((rd_TIns (rd_LIns l1 x5_1) x6_2).f2)) ∧ w'.cell? ⟨(ad302.add ((x6_2).toNat * 6)).block, (ad302.add ((x6_2).toNat * 6)).off + 3, none⟩ = some (.int .i64 ((rd_TIns (rd_LIns l1 x5_1) x6_2).f3)) ∧ w'.cell? ⟨(ad302.add ((x6_2).toNat * 6)).block, (ad302.add ((x6_2).toNat * 6)).off + 4, none⟩ = some (.string ((rd_TIns (rd_LIns l1 x5_1) x6_2).f4)) ∧ w'.cell? ⟨(ad302.add ((x6_2).toNat * 6)).block, (ad302.add ((x6_2).toNat * 6)).off + 5, none⟩ = some (.slice A302_5 ((rd_TIns (rd_LIns l1 x5_1) x6_2).f5).length c302_5)) (ds := []) (bA 16 0) (by kernel_rfl) rfl rfl ⟨((HB.out.cell (zE w _ hw299_0)).trans hw299_0), ((HB.out.cell (zE w _ hw300_0)).trans hw300_0), ((HB.out.cell (zE w _ hw300_1)).trans hw300_1), ((HB.out.cell (zE w _ hw300_2)).trans hw300_2), ((HB.out.cell (zE w _ hw300_3)).trans hw300_3), ((HB.out.cell (zE w _ hw300_4)).trans hw300_4), ((HB.out.cell (zE w _ hw300_5)).trans hw300_5), ((HB.out.cell (zE w _ hw301_0)).trans hw301_0), ((HB.out.cell (zE w _ hw302_0)).trans hw302_0), ((HB.out.cell (zE w _ hw302_1)).trans hw302_1), ((HB.out.cell (zE w _ hw302_2)).trans hw302_2), ((HB.out.cell (zE w _ hw302_3)).trans hw302_3), ((HB.out.cell (zE w _ hw302_4)).trans hw302_4), ((HB.out.cell (zE w _ hw302_5)).trans hw302_5)⟩ (fun hHeld => ?_); refine with_tabW cubbyref07_Blocks.tab11 cubbyref07_Blocks.bits11 (fun HT_ HW_ => ?_)
                 generalize wr.drew = w17 at HB HR299_0 HR300_5 HR301_0 HR302_5 hx299_0 hx300_0 hx300_1 hx300_2 hx300_3 hx300_4 hx300_5 hx301_0 hx302_0 hx302_1 hx302_2 hx302_3 hx302_4 hx302_5 hHeld ⊢
                 refine pu_ (i := 0) (N := some 38) (bA 16 1) ?_
                 refine pu_ (i := 1) (N := some 39) (bA 16 3) ?_
                 refine pu_ (i := 2) (N := some 40) (bA 16 7) ?_
                 refine pu_ (i := 4) (N := some 42) (bA 16 23) ?_
                 refine pu_ (i := 7) (N := some 45) (bA 16 151) ?_
                 refine pu_ (i := 8) (N := some 46) (bA 16 407) ?_
                 refine pu_ (i := 9) (N := some 47) (bA 16 919) ?_
                 refine pu_ (i := 11) (N := some 49) (bA 16 2967) ?_
                 refine tk_ (i := 3) (N := some 41) (bA 16 2975) ?_
                 refine pu_ (i := 5) (N := some 43) (bA 16 3007) ?_
                 refine tk_ (i := 6) (N := some 44) (bA 16 3071) ?_
                 refine tk_ (i := 10) (N := some 48) (bA 16 4095) ?_
                 refine pu_ (i := 12) (N := some 50) (bA 16 8191) ?_
                 refine tk_ (i := 13) (N := some 51) (bA 16 16383) ?_
                 refine one_ (i := 14) (N := some 52) (bA 16 32767) rfl rfl (one_of HT_.out (by kernel_rfl)) (by decide) (fun K hK => ?_)
                 refine goes_ Tryd.func46 (by kernel_rfl) rfl #[.agg #[.int .i64 ((rd_TIns (rd_LIns l0 x5_1) x6_2).f0), .int .i64 ((rd_TIns (rd_LIns l0 x5_1) x6_2).f1), .int .i64 ((rd_TIns (rd_LIns l0 x5_1) x6_2).f2), .int .i64 ((rd_TIns (rd_LIns l0 x5_1) x6_2).f3), .string ((rd_TIns (rd_LIns l0 x5_1) x6_2).f4), .slice A300_5 ((rd_TIns (rd_LIns l0 x5_1) x6_2).f5).length c300_5], .agg #[.int .i64 ((rd_TIns (rd_LIns l1 x5_1) x6_2).f0), .int .i64 ((rd_TIns (rd_LIns l1 x5_1) x6_2).f1), .int .i64 ((rd_TIns (rd_LIns l1 x5_1) x6_2).f2), .int .i64 ((rd_TIns (rd_LIns l1 x5_1) x6_2).f3), .string ((rd_TIns (rd_LIns l1 x5_1) x6_2).f4), .slice A302_5 ((rd_TIns (rd_LIns l1 x5_1) x6_2).f5).length c302_5]] (by rfl) rfl rfl qL ?_
                 with_reducible refine (cubbyref07_Same.calls k2 ((rd_TIns (rd_LIns l0 x5_1) x6_2).f0) ((rd_TIns (rd_LIns l0 x5_1) x6_2).f1) ((rd_TIns (rd_LIns l0 x5_1) x6_2).f2) ((rd_TIns (rd_LIns l0 x5_1) x6_2).f3) ((rd_TIns (rd_LIns l0 x5_1) x6_2).f4) _ _ ((rd_TIns (rd_LIns l0 x5_1) x6_2).f5) ((rd_TIns (rd_LIns l1 x5_1) x6_2).f0) ((rd_TIns (rd_LIns l1 x5_1) x6_2).f1) ((rd_TIns (rd_LIns l1 x5_1) x6_2).f2) ((rd_TIns (rd_LIns l1 x5_1) x6_2).f3) ((rd_TIns (rd_LIns l1 x5_1) x6_2).f4) _ _ ((rd_TIns (rd_LIns l1 x5_1) x6_2).f5) true _ ?side1 ?side2 ?side3 ?side4 A15.out).mono ?_
                 (case side1 => exact qCB HR300_5.out)
                 (case side2 => exact HC300_5.out)
                 (case side3 => exact qCB HR302_5.out)
                 (case side4 => exact HC302_5.out)
                 rintro e w18 ⟨rfl, hb⟩
                 refine ⟨_, rfl, ?_⟩
                 have n0_ := qH hb
                 clear HB
                 have HB := n0_
                 clear n0_
                 (try clear hb)
                 (try clear hb2)
                 (try clear hk)
                 (try clear hi)
                 refine hK.out _ _ ⟨((HB.out.cell (zE w _ hw299_0)).trans hw299_0), ((HB.out.cell (zE w _ hw300_0)).trans hw300_0), ((HB.out.cell (zE w _ hw300_1)).trans hw300_1), ((HB.out.cell (zE w _ hw300_2)).trans hw300_2), ((HB.out.cell (zE w _ hw300_3)).trans hw300_3), ((HB.out.cell (zE w _ hw300_4)).trans hw300_4), ((HB.out.cell (zE w _ hw300_5)).trans hw300_5), ((HB.out.cell (zE w _ hw301_0)).trans hw301_0), ((HB.out.cell (zE w _ hw302_0)).trans hw302_0), ((HB.out.cell (zE w _ hw302_1)).trans hw302_1), ((HB.out.cell (zE w _ hw302_2)).trans hw302_2), ((HB.out.cell (zE w _ hw302_3)).trans hw302_3), ((HB.out.cell (zE w _ hw302_4)).trans hw302_4), ((HB.out.cell (zE w _ hw302_5)).trans hw302_5)⟩ (fun hHeld => ?_)
                 clear hK K
                 refine norm_ (a' := ?_) ?_ ?_
                 rotate_left
                 ·show Act.put _ (some 52) _ = _
                  simp only [Act.put, List.setIfInBounds_toArray, List.set_cons_zero, List.set_cons_succ, i64_w, i32_w]
                  rfl
                 refine pu_ (i := 15) (N := some 53) (bA 16 65535) ?_
                 refine done_ (done_of HT_.out (by kernel_rfl)) ?_
                 try go_wp2
                 go_roundg k2
                 case measure => have := HK1.out; have := HK2.out; omega
                 case rel => exact ⟨(wrap64 (x6_2 + 1)), qT, H', ⟨by have := HK1.out; have := HK2.out; omega⟩, ⟨qB⟩⟩
                ·replace c16 := Bool.eq_false_iff.mpr c16
                 subst c16
                 have H1 : (some false) = some r := by rw [zD (show ¬ (false = true) by decide)] at H; exact H
                 clear H
                 have H := H1
                 clear H1
                 obtain rfl := zI H
                 have p298 : 0 ≤ (x5_1 : Int) := zB qA
                 have q298 : x5_1 < (l0.length : Int) := zB qA
                 obtain ⟨ad298, A298_0, c298_0, e298, hx298_0, hl298_0, hi298_0⟩ := at_LIns HR0.out x5_1 p298 q298
                 obtain rfl : ad296 = ad298 := (by injection e298)
                 replace hx298_0 := (HB.out.cell (zE w _ hx298_0)).trans hx298_0
                 have HR298_0 := zA hi298_0
                 have HC298_0 := zA hl298_0
                 clear hi298_0 hl298_0
                 replace p298 := eq_true p298
                 replace q298 := eq_true q298
                 try go_wp2
                 have n0_ := zA (below_drew1 HB.out)
                 clear HB
                 have HB := n0_
                 clear n0_
                 have p299 : 0 ≤ (x5_1 : Int) := zB qA
                 have q299 : x5_1 < (l0.length : Int) := zB qA
                 obtain ⟨ad299, A299_0, c299_0, e299, hx299_0, hl299_0, hi299_0⟩ := at_LIns HR0.out x5_1 p299 q299
                 have hw299_0 := hx299_0
                 obtain rfl : ad296 = ad299 := (by injection e299)
                 replace hx299_0 := (HB.out.cell (zE w _ hx299_0)).trans hx299_0
                 have HR299_0 := zA hi299_0
                 have HC299_0 := zA hl299_0
                 clear hi299_0 hl299_0
                 replace p299 := eq_true p299
                 replace q299 := eq_true q299
                 have p300 : 0 ≤ (x6_2 : Int) := zB qA
                 have q300 : x6_2 < ((rd_LIns l0 x5_1).length : Int) := zB qA
                 obtain ⟨ad300, A300_5, c300_5, e300, hx300_0, hx300_1, hx300_2, hx300_3, hx300_4, hx300_5, hl300_5, hi300_5⟩ := at_TIns HR299_0.out x6_2 p300 q300
                 have hw300_5 := hx300_5
                 have hw300_4 := hx300_4
                 have hw300_3 := hx300_3
                 have hw300_2 := hx300_2
                 have hw300_1 := hx300_1
                 have hw300_0 := hx300_0
                 cases e300
                 replace hx300_0 := (HB.out.cell (zE w _ hx300_0)).trans hx300_0
                 replace hx300_1 := (HB.out.cell (zE w _ hx300_1)).trans hx300_1
                 replace hx300_2 := (HB.out.cell (zE w _ hx300_2)).trans hx300_2
                 replace hx300_3 := (HB.out.cell (zE w _ hx300_3)).trans hx300_3
                 replace hx300_4 := (HB.out.cell (zE w _ hx300_4)).trans hx300_4
                 replace hx300_5 := (HB.out.cell (zE w _ hx300_5)).trans hx300_5
                 have HR300_5 := zA hi300_5
                 have HC300_5 := zA hl300_5
                 clear hi300_5 hl300_5
                 replace p300 := eq_true p300
                 replace q300 := eq_true q300
                 have p301 : 0 ≤ (x5_1 : Int) := zB qA
                 have q301 : x5_1 < (l1.length : Int) := zB qA
                 obtain ⟨ad301, A301_0, c301_0, e301, hx301_0, hl301_0, hi301_0⟩ := at_LIns HR1.out x5_1 p301 q301
                 have hw301_0 := hx301_0
                 obtain rfl : ad297 = ad301 := (by injection e301)
                 replace hx301_0 := (HB.out.cell (zE w _ hx301_0)).trans hx301_0
                 have HR301_0 := zA hi301_0
                 have HC301_0 := zA hl301_0
                 clear hi301_0 hl301_0
                 replace p301 := eq_true p301
                 replace q301 := eq_true q301
                 have p302 : 0 ≤ (x6_2 : Int) := zB qA
                 have q302 : x6_2 < ((rd_LIns l1 x5_1).length : Int) := zB qA
                 obtain ⟨ad302, A302_5, c302_5, e302, hx302_0, hx302_1, hx302_2, hx302_3, hx302_4, hx302_5, hl302_5, hi302_5⟩ := at_TIns HR301_0.out x6_2 p302 q302
                 have hw302_5 := hx302_5
                 have hw302_4 := hx302_4
                 have hw302_3 := hx302_3
                 have hw302_2 := hx302_2
                 have hw302_1 := hx302_1
                 have hw302_0 := hx302_0
                 cases e302
                 replace hx302_0 := (HB.out.cell (zE w _ hx302_0)).trans hx302_0
                 replace hx302_1 := (HB.out.cell (zE w _ hx302_1)).trans hx302_1
                 replace hx302_2 := (HB.out.cell (zE w _ hx302_2)).trans hx302_2
                 replace hx302_3 := (HB.out.cell (zE w _ hx302_3)).trans hx302_3
                 replace hx302_4 := (HB.out.cell (zE w _ hx302_4)).trans hx302_4
                 replace hx302_5 := (HB.out.cell (zE w _ hx302_5)).trans hx302_5
                 have HR302_5 := zA hi302_5
                 have HC302_5 := zA hl302_5
                 clear hi302_5 hl302_5
                 replace p302 := eq_true p302
                 replace q302 := eq_true q302
                 refine start_ (n := 16) (S := fun w' => w'.cell? (ad296.add (x5_1).toNat) = some (.slice (some ad300) (rd_LIns l0 x5_1).length c299_0) ∧ w'.cell? (ad300.add ((x6_2).toNat * 6)) = some (.int .i64 ((rd_TIns (rd_LIns l0 x5_1) x6_2).f0)) ∧ w'.cell? ⟨(ad300.add ((x6_2).toNat * 6)).block, (ad300.add ((x6_2).toNat * 6)).off + 1, none⟩ = some (.int .i64 ((rd_TIns (rd_LIns l0 x5_1) x6_2).f1)) ∧ w'.cell? ⟨(ad300.add ((x6_2).toNat * 6)).block, (ad300.add ((x6_2).toNat * 6)).off + 2, none⟩ = some (.int .i64 ((rd_TIns (rd_LIns l0 x5_1) x6_2).f2)) ∧ w'.cell? ⟨(ad300.add ((x6_2).toNat * 6)).block, (ad300.add ((x6_2).toNat * 6)).off + 3, none⟩ = some (.int .i64 ((rd_TIns (rd_LIns l0 x5_1) x6_2).f3)) ∧ w'.cell? ⟨(ad300.add ((x6_2).toNat * 6)).block, (ad300.add ((x6_2).toNat * 6)).off + 4, none⟩ = some (.string ((rd_TIns (rd_LIns l0 x5_1) x6_2).f4)) ∧ w'.cell? ⟨(ad300.add ((x6_2).toNat * 6)).block, (ad300.add ((x6_2).toNat * 6)).off + 5, none⟩ = some (.slice A300_5 ((rd_TIns (rd_LIns l0 x5_1) x6_2).f5).length c300_5) ∧ w'.cell? (ad297.add (x5_1).toNat) = some (.slice (some ad302) (rd_LIns l1 x5_1).length c301_0) ∧ w'.cell? (ad302.add ((x6_2).toNat * 6)) = some (.int .i64 ((rd_TIns (rd_LIns l1 x5_1) x6_2).f0)) ∧ w'.cell? ⟨(ad302.add ((x6_2).toNat * 6)).block, (ad302.add ((x6_2).toNat * 6)).off + 1, none⟩ = some (.int .i64 ((rd_TIns (rd_LIns l1 x5_1) x6_2).f1)) ∧ w'.cell? ⟨(ad302.add ((x6_2).toNat * 6)).block, (ad302.add ((x6_2).toNat * 6)).off + 2, none⟩ = some (.int .i64 ((rd_TIns (rd_LIns l1 x5_1) x6_2).f2)) ∧ w'.cell? ⟨(ad302.add ((x6_2).toNat * 6)).block, (ad302.add ((x6_2).toNat * 6)).off + 3, none⟩ = some (.int .i64 ((rd_TIns (rd_LIns l1 x5_1) x6_2).f3)) ∧ w'.cell? ⟨(ad302.add ((x6_2).toNat * 6)).block, (ad302.add ((x6_2).toNat * 6)).off + 4, none⟩ = some (.string ((rd_TIns (rd_LIns l1 x5_1) x6_2).f4)) ∧ w'.cell? ⟨(ad302.add ((x6_2).toNat * 6)).block, (ad302.add ((x6_2).toNat * 6)).off + 5, none⟩ = some (.slice A302_5 ((rd_TIns (rd_LIns l1 x5_1) x6_2).f5).length c302_5)) (ds := []) (bA 16 0) (by kernel_rfl) rfl rfl ⟨((HB.out.cell (zE w _ hw299_0)).trans hw299_0), ((HB.out.cell (zE w _ hw300_0)).trans hw300_0), ((HB.out.cell (zE w _ hw300_1)).trans hw300_1), ((HB.out.cell (zE w _ hw300_2)).trans hw300_2), ((HB.out.cell (zE w _ hw300_3)).trans hw300_3), ((HB.out.cell (zE w _ hw300_4)).trans hw300_4), ((HB.out.cell (zE w _ hw300_5)).trans hw300_5), ((HB.out.cell (zE w _ hw301_0)).trans hw301_0), ((HB.out.cell (zE w _ hw302_0)).trans hw302_0), ((HB.out.cell (zE w _ hw302_1)).trans hw302_1), ((HB.out.cell (zE w _ hw302_2)).trans hw302_2), ((HB.out.cell (zE w _ hw302_3)).trans hw302_3), ((HB.out.cell (zE w _ hw302_4)).trans hw302_4), ((HB.out.cell (zE w _ hw302_5)).trans hw302_5)⟩ (fun hHeld => ?_); refine with_tabW cubbyref07_Blocks.tab11 cubbyref07_Blocks.bits11 (fun HT_ HW_ => ?_)
                 generalize wr.drew = w19 at HB HR299_0 HR300_5 HR301_0 HR302_5 hx299_0 hx300_0 hx300_1 hx300_2 hx300_3 hx300_4 hx300_5 hx301_0 hx302_0 hx302_1 hx302_2 hx302_3 hx302_4 hx302_5 hHeld ⊢
                 refine pu_ (i := 0) (N := some 38) (bA 16 1) ?_
                 refine pu_ (i := 1) (N := some 39) (bA 16 3) ?_
                 refine pu_ (i := 2) (N := some 40) (bA 16 7) ?_
                 refine pu_ (i := 4) (N := some 42) (bA 16 23) ?_
                 refine pu_ (i := 7) (N := some 45) (bA 16 151) ?_
                 refine pu_ (i := 8) (N := some 46) (bA 16 407) ?_
                 refine pu_ (i := 9) (N := some 47) (bA 16 919) ?_
                 refine pu_ (i := 11) (N := some 49) (bA 16 2967) ?_
                 refine tk_ (i := 3) (N := some 41) (bA 16 2975) ?_
                 refine pu_ (i := 5) (N := some 43) (bA 16 3007) ?_
                 refine tk_ (i := 6) (N := some 44) (bA 16 3071) ?_
                 refine tk_ (i := 10) (N := some 48) (bA 16 4095) ?_
                 refine pu_ (i := 12) (N := some 50) (bA 16 8191) ?_
                 refine tk_ (i := 13) (N := some 51) (bA 16 16383) ?_
                 refine one_ (i := 14) (N := some 52) (bA 16 32767) rfl rfl (one_of HT_.out (by kernel_rfl)) (by decide) (fun K hK => ?_)
                 refine goes_ Tryd.func46 (by kernel_rfl) rfl #[.agg #[.int .i64 ((rd_TIns (rd_LIns l0 x5_1) x6_2).f0), .int .i64 ((rd_TIns (rd_LIns l0 x5_1) x6_2).f1), .int .i64 ((rd_TIns (rd_LIns l0 x5_1) x6_2).f2), .int .i64 ((rd_TIns (rd_LIns l0 x5_1) x6_2).f3), .string ((rd_TIns (rd_LIns l0 x5_1) x6_2).f4), .slice A300_5 ((rd_TIns (rd_LIns l0 x5_1) x6_2).f5).length c300_5], .agg #[.int .i64 ((rd_TIns (rd_LIns l1 x5_1) x6_2).f0), .int .i64 ((rd_TIns (rd_LIns l1 x5_1) x6_2).f1), .int .i64 ((rd_TIns (rd_LIns l1 x5_1) x6_2).f2), .int .i64 ((rd_TIns (rd_LIns l1 x5_1) x6_2).f3), .string ((rd_TIns (rd_LIns l1 x5_1) x6_2).f4), .slice A302_5 ((rd_TIns (rd_LIns l1 x5_1) x6_2).f5).length c302_5]] (by rfl) rfl rfl qL ?_
                 with_reducible refine (cubbyref07_Same.calls k2 ((rd_TIns (rd_LIns l0 x5_1) x6_2).f0) ((rd_TIns (rd_LIns l0 x5_1) x6_2).f1) ((rd_TIns (rd_LIns l0 x5_1) x6_2).f2) ((rd_TIns (rd_LIns l0 x5_1) x6_2).f3) ((rd_TIns (rd_LIns l0 x5_1) x6_2).f4) _ _ ((rd_TIns (rd_LIns l0 x5_1) x6_2).f5) ((rd_TIns (rd_LIns l1 x5_1) x6_2).f0) ((rd_TIns (rd_LIns l1 x5_1) x6_2).f1) ((rd_TIns (rd_LIns l1 x5_1) x6_2).f2) ((rd_TIns (rd_LIns l1 x5_1) x6_2).f3) ((rd_TIns (rd_LIns l1 x5_1) x6_2).f4) _ _ ((rd_TIns (rd_LIns l1 x5_1) x6_2).f5) false _ ?side1 ?side2 ?side3 ?side4 A15.out).mono ?_
                 (case side1 => exact qCB HR300_5.out)
                 (case side2 => exact HC300_5.out)
                 (case side3 => exact qCB HR302_5.out)
                 (case side4 => exact HC302_5.out)
                 rintro e w20 ⟨rfl, hb⟩
                 refine ⟨_, rfl, ?_⟩
                 have n0_ := qH hb
                 clear HB
                 have HB := n0_
                 clear n0_
                 (try clear hb)
                 (try clear hb2)
                 (try clear hk)
                 (try clear hi)
                 refine hK.out _ _ ⟨((HB.out.cell (zE w _ hw299_0)).trans hw299_0), ((HB.out.cell (zE w _ hw300_0)).trans hw300_0), ((HB.out.cell (zE w _ hw300_1)).trans hw300_1), ((HB.out.cell (zE w _ hw300_2)).trans hw300_2), ((HB.out.cell (zE w _ hw300_3)).trans hw300_3), ((HB.out.cell (zE w _ hw300_4)).trans hw300_4), ((HB.out.cell (zE w _ hw300_5)).trans hw300_5), ((HB.out.cell (zE w _ hw301_0)).trans hw301_0), ((HB.out.cell (zE w _ hw302_0)).trans hw302_0), ((HB.out.cell (zE w _ hw302_1)).trans hw302_1), ((HB.out.cell (zE w _ hw302_2)).trans hw302_2), ((HB.out.cell (zE w _ hw302_3)).trans hw302_3), ((HB.out.cell (zE w _ hw302_4)).trans hw302_4), ((HB.out.cell (zE w _ hw302_5)).trans hw302_5)⟩ (fun hHeld => ?_)
                 clear hK K
                 refine norm_ (a' := ?_) ?_ ?_
                 rotate_left
                 ·show Act.put _ (some 52) _ = _
                  simp only [Act.put, List.setIfInBounds_toArray, List.set_cons_zero, List.set_cons_succ, i64_w, i32_w]
                  rfl
                 refine pu_ (i := 15) (N := some 53) (bA 16 65535) ?_
                 refine done_ (done_of HT_.out (by kernel_rfl)) ?_
                 try go_wp2
                 go_ret
                 exact ⟨qE, qB⟩
               ·rw [zD c14] at H
                exact absurd H (by simp)
              ·rw [zD c13] at H
               exact absurd H (by simp)
             ·rw [zD c12] at H
              exact absurd H (by simp)
            ·rw [zD c11] at H
             have c11b0 := zG c11
             clear c11
             have H' := zA H
             clear H
             have p298 : 0 ≤ (x5_1 : Int) := zB qA
             have q298 : x5_1 < (l0.length : Int) := zB qA
             obtain ⟨ad298, A298_0, c298_0, e298, hx298_0, hl298_0, hi298_0⟩ := at_LIns HR0.out x5_1 p298 q298
             obtain rfl : ad296 = ad298 := (by injection e298)
             replace hx298_0 := (HB.out.cell (zE w _ hx298_0)).trans hx298_0
             have HR298_0 := zA hi298_0
             have HC298_0 := zA hl298_0
             clear hi298_0 hl298_0
             replace p298 := eq_true p298
             replace q298 := eq_true q298
             go_wp2
             go_roundg k2
             case measure => have := HK1.out; have := HK2.out; omega
             case rel => exact ⟨(wrap64 (x5_1 + 1)), qT, H', ⟨by have := HK1.out; have := HK2.out; omega⟩, ⟨qB⟩⟩
           ·rw [zD c10] at H
            exact absurd H (by simp)
          ·rw [zD c9] at H
           exact absurd H (by simp)
       ·rw [zD c7] at H
        obtain ⟨c7b0, c7b1⟩ := qn c7
        have c7b2 : ((rd_LIns l0 x5_1).length == (rd_LIns l1 x5_1).length) = false := by first | simpa using c7 | (simp at c7 ⊢; omega)
        obtain rfl := zI H
        try go_wp2
        have n0_ := zA (below_drew1 HB.out)
        clear HB
        have HB := n0_
        clear n0_
        have p296 : 0 ≤ (x5_1 : Int) := zB qA
        have q296 : x5_1 < (l0.length : Int) := zB qA
        obtain ⟨ad296, A296_0, c296_0, e296, hx296_0, hl296_0, hi296_0⟩ := at_LIns HR0.out x5_1 p296 q296
        have hw296_0 := hx296_0
        cases e296
        replace hx296_0 := (HB.out.cell (zE w _ hx296_0)).trans hx296_0
        have HR296_0 := zA hi296_0
        have HC296_0 := zA hl296_0
        clear hi296_0 hl296_0
        replace p296 := eq_true p296
        replace q296 := eq_true q296
        have p297 : 0 ≤ (x5_1 : Int) := zB qA
        have q297 : x5_1 < (l1.length : Int) := zB qA
        obtain ⟨ad297, A297_0, c297_0, e297, hx297_0, hl297_0, hi297_0⟩ := at_LIns HR1.out x5_1 p297 q297
        have hw297_0 := hx297_0
        cases e297
        replace hx297_0 := (HB.out.cell (zE w _ hx297_0)).trans hx297_0
        have HR297_0 := zA hi297_0
        have HC297_0 := zA hl297_0
        clear hi297_0 hl297_0
        replace p297 := eq_true p297
        replace q297 := eq_true q297
        refine start_ (n := 11) (S := fun w' => w'.cell? (ad296.add (x5_1).toNat) = some (.slice A296_0 (rd_LIns l0 x5_1).length c296_0) ∧ w'.cell? (ad297.add (x5_1).toNat) = some (.slice A297_0 (rd_LIns l1 x5_1).length c297_0)) (ds := []) (bA 11 0) (by kernel_rfl) rfl rfl ⟨((HB.out.cell (zE w _ hw296_0)).trans hw296_0), ((HB.out.cell (zE w _ hw297_0)).trans hw297_0)⟩ (fun hHeld => ?_); refine with_tabW cubbyref07_Blocks.tab6 cubbyref07_Blocks.bits6 (fun HT_ HW_ => ?_)
        generalize wr.drew = w21 at HB HR296_0 HR297_0 hx296_0 hx297_0 hHeld ⊢
        refine pu_ (i := 0) (N := some 18) (bA 11 1) ?_
        refine pu_ (i := 1) (N := some 19) (bA 11 3) ?_
        refine pu_ (i := 2) (N := some 20) (bA 11 7) ?_
        refine pu_ (i := 5) (N := some 23) (bA 11 39) ?_
        refine pu_ (i := 6) (N := some 24) (bA 11 103) ?_
        refine pu_ (i := 7) (N := some 25) (bA 11 231) ?_
        refine tk_ (i := 3) (N := some 21) (bA 11 239) ?_
        refine pu_ (i := 4) (N := some 22) (bA 11 255) ?_
        refine tk_ (i := 8) (N := some 26) (bA 11 511) ?_
        refine pu_ (i := 9) (N := some 27) (bA 11 1023) ?_
        refine pu_ (i := 10) (N := some 28) (bA 11 2047) ?_
        refine done_ (done_of HT_.out (by kernel_rfl)) ?_
        try go_wp2
        go_ret
        exact ⟨qE, qB⟩
      ·rw [zD c6] at H
       exact absurd H (by simp)
     ·rw [zD c5] at H
      exact absurd H (by simp)
    ·rw [zD c4] at H
     have c4b0 := zG c4
     clear c4
     obtain rfl := zI H
     go_wp2
     go_ret
     exact ⟨qE, qB⟩
 ·rw [zD c3] at H
  obtain ⟨c3b0, c3b1⟩ := qn c3
  have c3b2 : (l0.length == l1.length) = false := by first | simpa using c3 | (simp at c3 ⊢; omega)
  obtain rfl := zI H
  go_enter Tryd.func24, Tryd.ntmps24
  go_wp2
  go_ret
  exact ⟨qE, qB⟩

def cubbylaw08_sameFunc.f (k : Nat) (a0_0 : ByteArray) (a0_1 : Int) (a0_2 : Int) (l0_3 : List (List (SIns))) (a1_0 : ByteArray) (a1_1 : Int) (a1_2 : Int) (l1_3 : List (List (SIns))) : Option (Bool) := if a0_0.toList = a1_0.toList then (if a0_1 = a1_1 then (if a0_2 = a1_2 then ((cubbyref07_Blocks.f k l0_3 l1_3).bind fun t306 => (some t306)) else (some false)) else (some false)) else (some false)
set_option maxHeartbeats 8000000 in
set_option maxRecDepth 100000 in
theorem cubbylaw08_sameFunc.calls (k : Nat) (a0_0 : ByteArray) (a0_1 : Int) (a0_2 : Int) (A0_3 : Option Addr) (c0_3 : Nat) (l0_3 : List (List (SIns))) (a1_0 : ByteArray) (a1_1 : Int) (a1_2 : Int) (A1_3 : Option Addr) (c1_3 : Nat) (l1_3 : List (List (SIns))) (r : Bool) (w : World) (hr0_3 : Kd.C (Kd.slice 43 kIns) w A0_3 l0_3.length l0_3) (hc0_3 : l0_3.length ≤ c0_3) (hr1_3 : Kd.C (Kd.slice 43 kIns) w A1_3 l1_3.length l1_3) (hc1_3 : l1_3.length ≤ c1_3) (h : cubbylaw08_sameFunc.f k a0_0 a0_1 a0_2 l0_3 a1_0 a1_1 a1_2 l1_3 = some r) :
 Calls Tryd.prog 12 #[.agg #[.string a0_0, .int .i64 a0_1, .int .i64 a0_2, .slice A0_3 l0_3.length c0_3], .agg #[.string a1_0, .int .i64 a1_1, .int .i64 a1_2, .slice A1_3 l1_3.length c1_3]] w fun e w' => e = .returned (.bool r) ∧ Below w.heap.size w w' := by
 have hu24 := Tryd.underlying24
 have HR0_3 := zA hr0_3
 have HC0_3 := zA hc0_3
 clear hr0_3 hc0_3
 have HR1_3 := zA hr1_3
 have HC1_3 := zA hc1_3
 clear hr1_3 hc1_3
 have HB := zA (Below.refl w.heap.size w)
 have H := h; clear h; unfold cubbylaw08_sameFunc.f at H
 by_cases c3 : a0_0.toList = a1_0.toList
 ·rw [zC c3] at H
  obtain ⟨c3b0, c3b1⟩ := qe c3; clear c3
  by_cases c4 : a0_1 = a1_1
  ·rw [zC c4] at H
   obtain ⟨c4b0, c4b1⟩ := qe c4; clear c4
   by_cases c5 : a0_2 = a1_2
   ·rw [zC c5] at H
    obtain ⟨c5b0, c5b1⟩ := qe c5; clear c5
    replace H := qb H; obtain ⟨t306, A6, H⟩ := H
    obtain rfl := zI H
    go_enter Tryd.func12, Tryd.ntmps12
    go_wp2_with (first | ((with_reducible refine gate_dst (N := 2) rfl ?_); refine box_event (by rfl) (N := 2) (by rfl) (cs := #[.string a0_0, .int .i64 a0_1, .int .i64 a0_2, .slice A0_3 l0_3.length c0_3]) (t := 24) ?hr ?_; (case hr => go_simp <;> rfl); intro gb304 hg w7 hbox hb; have BK304 := zA (hbox); have GW304 := qG hg; have GE304 := GW304; replace HB := qH hb; clear hb hbox hg) | ((with_reducible refine gate_dst (N := 3) rfl ?_); refine box_event (by rfl) (N := 3) (by rfl) (cs := #[.string a1_0, .int .i64 a1_1, .int .i64 a1_2, .slice A1_3 l1_3.length c1_3]) (t := 24) ?hr ?_; (case hr => go_simp <;> rfl); intro gb305 hg w8 hbox hb; have BK305 := zA (hbox); have GW305 := qG hg; have GE305 := GW305; replace HB := qH hb; have NB304_305 := zA ((by rw [hg]; exact Nat.ne_of_lt (blk_lt (g := gb304) (o := .cells #[.string a0_0, .int .i64 a0_1, .int .i64 a0_2, .slice A0_3 l0_3.length c0_3] 24 (0, 0)) (qK BK304.out)) : gb304 ≠ gb305)); have NB305_304 := zA ((by rw [hg]; exact Nat.ne_of_gt (blk_lt (g := gb304) (o := .cells #[.string a0_0, .int .i64 a0_1, .int .i64 a0_2, .slice A0_3 l0_3.length c0_3] 24 (0, 0)) (qK BK304.out)) : gb305 ≠ gb304)); replace BK304 := qW BK304 hb; clear hb hbox hg; have hnb9 := NB304_305.out; have hnc9 := NB305_304.out; have z10_0 := bk4 BK304.out; have z11_0 := bk4 BK305.out) | (go_at_call 24; (with_reducible refine (cubbyref07_Blocks.calls k _ _ l0_3 _ _ l1_3 t306 _ ?side1 ?side2 ?side3 ?side4 A6.out).mono ?_); (case side1 => exact qCB HR0_3.out); (case side2 => exact HC0_3.out); (case side3 => exact qCB HR1_3.out); (case side4 => exact HC1_3.out); (try clear A6); rintro e w12 ⟨rfl, hb⟩; replace BK304 := qW BK304 hb; replace BK305 := qW BK305 hb; replace HB := qH hb; (try clear hb)))
    go_ret
    exact ⟨qE, qB⟩
   ·rw [zD c5] at H
    obtain ⟨c5b0, c5b1⟩ := qn c5
    obtain rfl := zI H
    go_enter Tryd.func12, Tryd.ntmps12
    go_wp2_with (first | ((with_reducible refine gate_dst (N := 2) rfl ?_); refine box_event (by rfl) (N := 2) (by rfl) (cs := #[.string a0_0, .int .i64 a0_1, .int .i64 a0_2, .slice A0_3 l0_3.length c0_3]) (t := 24) ?hr ?_; (case hr => go_simp <;> rfl); intro gb304 hg w13 hbox hb; have BK304 := zA (hbox); have GW304 := qG hg; have GE304 := GW304; replace HB := qH hb; clear hb hbox hg) | ((with_reducible refine gate_dst (N := 3) rfl ?_); refine box_event (by rfl) (N := 3) (by rfl) (cs := #[.string a1_0, .int .i64 a1_1, .int .i64 a1_2, .slice A1_3 l1_3.length c1_3]) (t := 24) ?hr ?_; (case hr => go_simp <;> rfl); intro gb305 hg w14 hbox hb; have BK305 := zA (hbox); have GW305 := qG hg; have GE305 := GW305; replace HB := qH hb; have NB304_305 := zA ((by rw [hg]; exact Nat.ne_of_lt (blk_lt (g := gb304) (o := .cells #[.string a0_0, .int .i64 a0_1, .int .i64 a0_2, .slice A0_3 l0_3.length c0_3] 24 (0, 0)) (qK BK304.out)) : gb304 ≠ gb305)); have NB305_304 := zA ((by rw [hg]; exact Nat.ne_of_gt (blk_lt (g := gb304) (o := .cells #[.string a0_0, .int .i64 a0_1, .int .i64 a0_2, .slice A0_3 l0_3.length c0_3] 24 (0, 0)) (qK BK304.out)) : gb305 ≠ gb304)); replace BK304 := qW BK304 hb; clear hb hbox hg; have hnb15 := NB304_305.out; have hnc15 := NB305_304.out; have z16_0 := bk4 BK304.out; have z17_0 := bk4 BK305.out))
    go_ret
    exact ⟨qE, qB⟩
  ·rw [zD c4] at H
   obtain ⟨c4b0, c4b1⟩ := qn c4
   obtain rfl := zI H
   go_enter Tryd.func12, Tryd.ntmps12
   go_wp2_with (first | ((with_reducible refine gate_dst (N := 2) rfl ?_); refine box_event (by rfl) (N := 2) (by rfl) (cs := #[.string a0_0, .int .i64 a0_1, .int .i64 a0_2, .slice A0_3 l0_3.length c0_3]) (t := 24) ?hr ?_; (case hr => go_simp <;> rfl); intro gb304 hg w18 hbox hb; have BK304 := zA (hbox); have GW304 := qG hg; have GE304 := GW304; replace HB := qH hb; clear hb hbox hg) | ((with_reducible refine gate_dst (N := 3) rfl ?_); refine box_event (by rfl) (N := 3) (by rfl) (cs := #[.string a1_0, .int .i64 a1_1, .int .i64 a1_2, .slice A1_3 l1_3.length c1_3]) (t := 24) ?hr ?_; (case hr => go_simp <;> rfl); intro gb305 hg w19 hbox hb; have BK305 := zA (hbox); have GW305 := qG hg; have GE305 := GW305; replace HB := qH hb; have NB304_305 := zA ((by rw [hg]; exact Nat.ne_of_lt (blk_lt (g := gb304) (o := .cells #[.string a0_0, .int .i64 a0_1, .int .i64 a0_2, .slice A0_3 l0_3.length c0_3] 24 (0, 0)) (qK BK304.out)) : gb304 ≠ gb305)); have NB305_304 := zA ((by rw [hg]; exact Nat.ne_of_gt (blk_lt (g := gb304) (o := .cells #[.string a0_0, .int .i64 a0_1, .int .i64 a0_2, .slice A0_3 l0_3.length c0_3] 24 (0, 0)) (qK BK304.out)) : gb305 ≠ gb304)); replace BK304 := qW BK304 hb; clear hb hbox hg; have hnb20 := NB304_305.out; have hnc20 := NB305_304.out; have z21_0 := bk4 BK304.out; have z22_0 := bk4 BK305.out))
   go_ret
   exact ⟨qE, qB⟩
 ·rw [zD c3] at H
  obtain ⟨c3b0, c3b1⟩ := qn c3
  obtain rfl := zI H
  go_enter Tryd.func12, Tryd.ntmps12
  go_wp2_with (first | ((with_reducible refine gate_dst (N := 2) rfl ?_); refine box_event (by rfl) (N := 2) (by rfl) (cs := #[.string a0_0, .int .i64 a0_1, .int .i64 a0_2, .slice A0_3 l0_3.length c0_3]) (t := 24) ?hr ?_; (case hr => go_simp <;> rfl); intro gb304 hg w23 hbox hb; have BK304 := zA (hbox); have GW304 := qG hg; have GE304 := GW304; replace HB := qH hb; clear hb hbox hg) | ((with_reducible refine gate_dst (N := 3) rfl ?_); refine box_event (by rfl) (N := 3) (by rfl) (cs := #[.string a1_0, .int .i64 a1_1, .int .i64 a1_2, .slice A1_3 l1_3.length c1_3]) (t := 24) ?hr ?_; (case hr => go_simp <;> rfl); intro gb305 hg w24 hbox hb; have BK305 := zA (hbox); have GW305 := qG hg; have GE305 := GW305; replace HB := qH hb; have NB304_305 := zA ((by rw [hg]; exact Nat.ne_of_lt (blk_lt (g := gb304) (o := .cells #[.string a0_0, .int .i64 a0_1, .int .i64 a0_2, .slice A0_3 l0_3.length c0_3] 24 (0, 0)) (qK BK304.out)) : gb304 ≠ gb305)); have NB305_304 := zA ((by rw [hg]; exact Nat.ne_of_gt (blk_lt (g := gb304) (o := .cells #[.string a0_0, .int .i64 a0_1, .int .i64 a0_2, .slice A0_3 l0_3.length c0_3] 24 (0, 0)) (qK BK304.out)) : gb305 ≠ gb304)); replace BK304 := qW BK304 hb; clear hb hbox hg; have hnb25 := NB304_305.out; have hnc25 := NB305_304.out; have z26_0 := bk4 BK304.out; have z27_0 := bk4 BK305.out))
  go_ret
  exact ⟨qE, qB⟩

mutual
def cubbyref07_Name.j0 : Nat → ByteArray → Bool → Option (Bool)
 | 0, _, _ => none
 | k + 1, x0, x13 => if x13 = true then (some false) else (cubbyref07_Name.l0 k x0 0)
def cubbyref07_Name.l0 : Nat → ByteArray → Int → Option (Bool)
 | 0, _, _ => none
 | k + 1, x0, x3 => if x3 < (x0.size : Int) then (if 0 ≤ x3 then (if (bt x0 x3) ≥ 97 then (if (bt x0 x3) ≥ 48 then (if ((bt x0 x3) ≤ 122) then (cubbyref07_Name.l0 k x0 (wrap64 (x3 + 1))) else (if ((bt x0 x3) ≤ 57) then (if x3 = 0 then (some false) else (cubbyref07_Name.l0 k x0 (wrap64 (x3 + 1)))) else (some false))) else (if ((bt x0 x3) ≤ 122) then (cubbyref07_Name.l0 k x0 (wrap64 (x3 + 1))) else (some false))) else (if (bt x0 x3) ≥ 48 then (if ((bt x0 x3) ≤ 57) then (if x3 = 0 then (some false) else (cubbyref07_Name.l0 k x0 (wrap64 (x3 + 1)))) else (some false)) else (some false))) else (none)) else (some true)
end
def cubbyref07_Name.f (k : Nat) (a0 : ByteArray) : Option (Bool) := if (a0.size : Int) < 1 then (cubbyref07_Name.j0 k a0 true) else (cubbyref07_Name.j0 k a0 (decide ((a0.size : Int) > 12)))
set_option maxHeartbeats 8000000 in
set_option maxRecDepth 100000 in
theorem cubbyref07_Name.calls (k : Nat) (a0 : ByteArray) (r : Bool) (w : World) (h : cubbyref07_Name.f k a0 = some r) :
 Calls Tryd.prog 34 #[.string a0] w fun e w' => e = .returned (.bool r) ∧ Drawn0 w w' := by
 have H := h; clear h; unfold cubbyref07_Name.f at H
 have HC2 := zA H
 clear H
 go_enter Tryd.func34, Tryd.ntmps34
 go_upto_region 1 with (fail)
 go_cut [13] (fun v13 wc => ∃ (kq : Nat) (x13_1 : Bool), v13 = .bool x13_1 ∧ Aside0 (cubbyref07_Name.j0 kq a0 x13_1 = some r) ∧ Aside0 (kq ≤ k) ∧ Drawn0 w wc)
 case first =>
  have H := HC2.out
  clear HC2
  by_cases c3 : (a0.size : Int) < 1
  ·rw [zC c3] at H
   have c3b0 := zF c3
   have c3b1 : decide (a0.size < 1) = true := zF (by omega)
   clear c3
   (first | rw [c3b0] | (simp only [i64_w, i32_w]; rw [c3b0]) | skip)
   have H' := zA H
   clear H
   go_wp2
   go_meet
   case rel => exact ⟨_, (true), qT, H', ⟨qO⟩, qD⟩
  ·rw [zD c3] at H
   have c3b0 := zG c3
   have c3b1 : decide (a0.size < 1) = false := zG (by omega)
   clear c3
   (first | rw [c3b0] | (simp only [i64_w, i32_w]; rw [c3b0]) | skip)
   have H' := zA H
   clear H
   go_wp2
   go_meet
   case rel => exact ⟨_, (decide ((a0.size : Int) > 12)), qT, H', ⟨qO⟩, qD⟩
 case rest =>
  clear HC2
  obtain ⟨kq, x13_1, rfl, HA, HJ1, ⟨mc1, rfl⟩⟩ := hcut
  cases kq with
  | zero => exact absurd HA.out (by simp [cubbyref07_Name.j0])
  | succ kj1 =>
   have H := HA.out
   clear HA
   simp only [cubbyref07_Name.j0] at H
   by_cases c4 : x13_1 = true
   ·subst c4
    have H1 : (some false) = some r := by rw [zC rfl] at H; exact H
    clear H
    have H := H1
    clear H1
    obtain rfl := zI H
    go_wp2
    go_ret
    exact ⟨by first | rfl | (simp; done) | (simp [*]; done), qD⟩
   ·replace c4 := Bool.eq_false_iff.mpr c4
    subst c4
    have H1 : (cubbyref07_Name.l0 kj1 a0 0) = some r := by rw [zD (show ¬ (false = true) by decide)] at H; exact H
    clear H
    have H := H1
    clear H1
    have H' := zA H
    clear H
    go_wp2
    go_loopg [3] kj1 (fun kq v3 w' => ∃ (x3_2 : Int), v3 = .int .i64 x3_2 ∧ Aside0 (cubbyref07_Name.l0 kq a0 x3_2 = some r) ∧ Aside0 (kq ≤ kj1) ∧ Drawn0 w w')
    case atStart => exact ⟨(0), qT, H', ⟨Nat.le_refl _⟩, qD⟩
    case round =>
     clear H'
     obtain ⟨x3_2, rfl, HA, HK2, ⟨m2, rfl⟩⟩ := hrel
     cases gk with
     | zero => exact absurd HA.out (by simp [cubbyref07_Name.l0])
     | succ k2 =>
      have H := HA.out
      clear HA
      simp only [cubbyref07_Name.l0] at H
      by_cases c5 : x3_2 < (a0.size : Int)
      ·rw [zC c5] at H
       have c5b0 := zF c5
       clear c5
       by_cases c6 : 0 ≤ x3_2
       ·rw [zC c6] at H
        have c6b0 := zF c6
        clear c6
        by_cases c8 : (bt a0 x3_2) ≥ 97
        ·rw [zC c8] at H
         have c8b0 : decide (97 ≤ (bt a0 x3_2)) = true := zF c8
         clear c8
         by_cases c11 : (bt a0 x3_2) ≥ 48
         ·rw [zC c11] at H
          have c11b0 : decide (48 ≤ (bt a0 x3_2)) = true := zF c11
          clear c11
          by_cases c13 : ((bt a0 x3_2) ≤ 122)
          ·rw [zC c13] at H
           have c13b0 : decide ((bt a0 x3_2) ≤ 122) = true := zF c13
           clear c13
           have H' := zA H
           clear H
           have p7 : 0 ≤ (x3_2 : Int) := zB qA
           have q7 : x3_2 < (a0.size : Int) := zB qA
           have hx7 := bt_at a0 x3_2
           replace p7 := eq_true p7
           replace q7 := eq_true q7
           have p9 : 0 ≤ (x3_2 : Int) := zB qA
           have q9 : x3_2 < (a0.size : Int) := zB qA
           have hx9 := bt_at a0 x3_2
           replace p9 := eq_true p9
           replace q9 := eq_true q9
           have p10 : 0 ≤ (x3_2 : Int) := zB qA
           have q10 : x3_2 < (a0.size : Int) := zB qA
           have hx10 := bt_at a0 x3_2
           replace p10 := eq_true p10
           replace q10 := eq_true q10
           have p12 : 0 ≤ (x3_2 : Int) := zB qA
           have q12 : x3_2 < (a0.size : Int) := zB qA
           have hx12 := bt_at a0 x3_2
           replace p12 := eq_true p12
           replace q12 := eq_true q12
           go_wp2
           go_roundg k2
           case measure => have := HJ1.out; have := HK2.out; omega
           case rel => exact ⟨(wrap64 (x3_2 + 1)), qT, H', ⟨by have := HJ1.out; have := HK2.out; omega⟩, qD⟩
          ·rw [zD c13] at H
           have c13b0 : decide ((bt a0 x3_2) ≤ 122) = false := zG c13
           clear c13
           by_cases c14 : ((bt a0 x3_2) ≤ 57)
           ·rw [zC c14] at H
            have c14b0 : decide ((bt a0 x3_2) ≤ 57) = true := zF c14
            clear c14
            by_cases c15 : x3_2 = 0
            ·rw [zC c15] at H
             obtain ⟨c15b0, c15b1⟩ := qe c15; clear c15
             obtain rfl := zI H
             have p7 : 0 ≤ (x3_2 : Int) := zB qA
             have q7 : x3_2 < (a0.size : Int) := zB qA
             have hx7 := bt_at a0 x3_2
             replace p7 := eq_true p7
             replace q7 := eq_true q7
             have p9 : 0 ≤ (x3_2 : Int) := zB qA
             have q9 : x3_2 < (a0.size : Int) := zB qA
             have hx9 := bt_at a0 x3_2
             replace p9 := eq_true p9
             replace q9 := eq_true q9
             have p10 : 0 ≤ (x3_2 : Int) := zB qA
             have q10 : x3_2 < (a0.size : Int) := zB qA
             have hx10 := bt_at a0 x3_2
             replace p10 := eq_true p10
             replace q10 := eq_true q10
             have p12 : 0 ≤ (x3_2 : Int) := zB qA
             have q12 : x3_2 < (a0.size : Int) := zB qA
             have hx12 := bt_at a0 x3_2
             replace p12 := eq_true p12
             replace q12 := eq_true q12
             go_wp2
             go_ret
             exact ⟨by first | rfl | (simp; done) | (simp [*]; done), qD⟩
            ·rw [zD c15] at H
             obtain ⟨c15b0, c15b1⟩ := qn c15
             have H' := zA H
             clear H
             have p7 : 0 ≤ (x3_2 : Int) := zB qA
             have q7 : x3_2 < (a0.size : Int) := zB qA
             have hx7 := bt_at a0 x3_2
             replace p7 := eq_true p7
             replace q7 := eq_true q7
             have p9 : 0 ≤ (x3_2 : Int) := zB qA
             have q9 : x3_2 < (a0.size : Int) := zB qA
             have hx9 := bt_at a0 x3_2
             replace p9 := eq_true p9
             replace q9 := eq_true q9
             have p10 : 0 ≤ (x3_2 : Int) := zB qA
             have q10 : x3_2 < (a0.size : Int) := zB qA
             have hx10 := bt_at a0 x3_2
             replace p10 := eq_true p10
             replace q10 := eq_true q10
             have p12 : 0 ≤ (x3_2 : Int) := zB qA
             have q12 : x3_2 < (a0.size : Int) := zB qA
             have hx12 := bt_at a0 x3_2
             replace p12 := eq_true p12
             replace q12 := eq_true q12
             go_wp2
             go_roundg k2
             case measure => have := HJ1.out; have := HK2.out; omega
             case rel => exact ⟨(wrap64 (x3_2 + 1)), qT, H', ⟨by have := HJ1.out; have := HK2.out; omega⟩, qD⟩
           ·rw [zD c14] at H
            have c14b0 : decide ((bt a0 x3_2) ≤ 57) = false := zG c14
            clear c14
            obtain rfl := zI H
            have p7 : 0 ≤ (x3_2 : Int) := zB qA
            have q7 : x3_2 < (a0.size : Int) := zB qA
            have hx7 := bt_at a0 x3_2
            replace p7 := eq_true p7
            replace q7 := eq_true q7
            have p9 : 0 ≤ (x3_2 : Int) := zB qA
            have q9 : x3_2 < (a0.size : Int) := zB qA
            have hx9 := bt_at a0 x3_2
            replace p9 := eq_true p9
            replace q9 := eq_true q9
            have p10 : 0 ≤ (x3_2 : Int) := zB qA
            have q10 : x3_2 < (a0.size : Int) := zB qA
            have hx10 := bt_at a0 x3_2
            replace p10 := eq_true p10
            replace q10 := eq_true q10
            have p12 : 0 ≤ (x3_2 : Int) := zB qA
            have q12 : x3_2 < (a0.size : Int) := zB qA
            have hx12 := bt_at a0 x3_2
            replace p12 := eq_true p12
            replace q12 := eq_true q12
            go_wp2
            go_ret
            exact ⟨by first | rfl | (simp; done) | (simp [*]; done), qD⟩
         ·rw [zD c11] at H
          have c11b0 : decide (48 ≤ (bt a0 x3_2)) = false := zG c11
          clear c11
          by_cases c16 : ((bt a0 x3_2) ≤ 122)
          ·rw [zC c16] at H
           have c16b0 : decide ((bt a0 x3_2) ≤ 122) = true := zF c16
           clear c16
           have H' := zA H
           clear H
           have p7 : 0 ≤ (x3_2 : Int) := zB qA
           have q7 : x3_2 < (a0.size : Int) := zB qA
           have hx7 := bt_at a0 x3_2
           replace p7 := eq_true p7
           replace q7 := eq_true q7
           have p9 : 0 ≤ (x3_2 : Int) := zB qA
           have q9 : x3_2 < (a0.size : Int) := zB qA
           have hx9 := bt_at a0 x3_2
           replace p9 := eq_true p9
           replace q9 := eq_true q9
           have p10 : 0 ≤ (x3_2 : Int) := zB qA
           have q10 : x3_2 < (a0.size : Int) := zB qA
           have hx10 := bt_at a0 x3_2
           replace p10 := eq_true p10
           replace q10 := eq_true q10
           go_wp2
           go_roundg k2
           case measure => have := HJ1.out; have := HK2.out; omega
           case rel => exact ⟨(wrap64 (x3_2 + 1)), qT, H', ⟨by have := HJ1.out; have := HK2.out; omega⟩, qD⟩
          ·rw [zD c16] at H
           have c16b0 : decide ((bt a0 x3_2) ≤ 122) = false := zG c16
           clear c16
           obtain rfl := zI H
           have p7 : 0 ≤ (x3_2 : Int) := zB qA
           have q7 : x3_2 < (a0.size : Int) := zB qA
           have hx7 := bt_at a0 x3_2
           replace p7 := eq_true p7
           replace q7 := eq_true q7
           have p9 : 0 ≤ (x3_2 : Int) := zB qA
           have q9 : x3_2 < (a0.size : Int) := zB qA
           have hx9 := bt_at a0 x3_2
           replace p9 := eq_true p9
           replace q9 := eq_true q9
           have p10 : 0 ≤ (x3_2 : Int) := zB qA
           have q10 : x3_2 < (a0.size : Int) := zB qA
           have hx10 := bt_at a0 x3_2
           replace p10 := eq_true p10
           replace q10 := eq_true q10
           go_wp2
           go_ret
           exact ⟨by first | rfl | (simp; done) | (simp [*]; done), qD⟩
        ·rw [zD c8] at H
         have c8b0 : decide (97 ≤ (bt a0 x3_2)) = false := zG c8
         clear c8
         by_cases c18 : (bt a0 x3_2) ≥ 48
         ·rw [zC c18] at H
          have c18b0 : decide (48 ≤ (bt a0 x3_2)) = true := zF c18
          clear c18
          by_cases c20 : ((bt a0 x3_2) ≤ 57)
          ·rw [zC c20] at H
           have c20b0 : decide ((bt a0 x3_2) ≤ 57) = true := zF c20
           clear c20
           by_cases c21 : x3_2 = 0
           ·rw [zC c21] at H
            obtain ⟨c21b0, c21b1⟩ := qe c21; clear c21
            obtain rfl := zI H
            have p7 : 0 ≤ (x3_2 : Int) := zB qA
            have q7 : x3_2 < (a0.size : Int) := zB qA
            have hx7 := bt_at a0 x3_2
            replace p7 := eq_true p7
            replace q7 := eq_true q7
            have p17 : 0 ≤ (x3_2 : Int) := zB qA
            have q17 : x3_2 < (a0.size : Int) := zB qA
            have hx17 := bt_at a0 x3_2
            replace p17 := eq_true p17
            replace q17 := eq_true q17
            have p19 : 0 ≤ (x3_2 : Int) := zB qA
            have q19 : x3_2 < (a0.size : Int) := zB qA
            have hx19 := bt_at a0 x3_2
            replace p19 := eq_true p19
            replace q19 := eq_true q19
            go_wp2
            go_ret
            exact ⟨by first | rfl | (simp; done) | (simp [*]; done), qD⟩
           ·rw [zD c21] at H
            obtain ⟨c21b0, c21b1⟩ := qn c21
            have H' := zA H
            clear H
            have p7 : 0 ≤ (x3_2 : Int) := zB qA
            have q7 : x3_2 < (a0.size : Int) := zB qA
            have hx7 := bt_at a0 x3_2
            replace p7 := eq_true p7
            replace q7 := eq_true q7
            have p17 : 0 ≤ (x3_2 : Int) := zB qA
            have q17 : x3_2 < (a0.size : Int) := zB qA
            have hx17 := bt_at a0 x3_2
            replace p17 := eq_true p17
            replace q17 := eq_true q17
            have p19 : 0 ≤ (x3_2 : Int) := zB qA
            have q19 : x3_2 < (a0.size : Int) := zB qA
            have hx19 := bt_at a0 x3_2
            replace p19 := eq_true p19
            replace q19 := eq_true q19
            go_wp2
            go_roundg k2
            case measure => have := HJ1.out; have := HK2.out; omega
            case rel => exact ⟨(wrap64 (x3_2 + 1)), qT, H', ⟨by have := HJ1.out; have := HK2.out; omega⟩, qD⟩
          ·rw [zD c20] at H
           have c20b0 : decide ((bt a0 x3_2) ≤ 57) = false := zG c20
           clear c20
           obtain rfl := zI H
           have p7 : 0 ≤ (x3_2 : Int) := zB qA
           have q7 : x3_2 < (a0.size : Int) := zB qA
           have hx7 := bt_at a0 x3_2
           replace p7 := eq_true p7
           replace q7 := eq_true q7
           have p17 : 0 ≤ (x3_2 : Int) := zB qA
           have q17 : x3_2 < (a0.size : Int) := zB qA
           have hx17 := bt_at a0 x3_2
           replace p17 := eq_true p17
           replace q17 := eq_true q17
           have p19 : 0 ≤ (x3_2 : Int) := zB qA
           have q19 : x3_2 < (a0.size : Int) := zB qA
           have hx19 := bt_at a0 x3_2
           replace p19 := eq_true p19
           replace q19 := eq_true q19
           go_wp2
           go_ret
           exact ⟨by first | rfl | (simp; done) | (simp [*]; done), qD⟩
         ·rw [zD c18] at H
          have c18b0 : decide (48 ≤ (bt a0 x3_2)) = false := zG c18
          clear c18
          obtain rfl := zI H
          have p7 : 0 ≤ (x3_2 : Int) := zB qA
          have q7 : x3_2 < (a0.size : Int) := zB qA
          have hx7 := bt_at a0 x3_2
          replace p7 := eq_true p7
          replace q7 := eq_true q7
          have p17 : 0 ≤ (x3_2 : Int) := zB qA
          have q17 : x3_2 < (a0.size : Int) := zB qA
          have hx17 := bt_at a0 x3_2
          replace p17 := eq_true p17
          replace q17 := eq_true q17
          go_wp2
          go_ret
          exact ⟨by first | rfl | (simp; done) | (simp [*]; done), qD⟩
       ·rw [zD c6] at H
        exact absurd H (by simp)
      ·rw [zD c5] at H
       have c5b0 := zG c5
       clear c5
       obtain rfl := zI H
       go_wp2
       go_ret
       exact ⟨by first | rfl | (simp; done) | (simp [*]; done), qD⟩

def cubbyref08_Digits.l0 : Nat → Int → ByteArray → Option (ByteArray)
 | 0, _, _ => none
 | k + 1, x0, x3 => if x0 > 9 then (if 0 ≤ (Int.tmod x0 10) then (if (Int.tmod x0 10) ≤ (wrap64 ((Int.tmod x0 10) + 1)) then (if (wrap64 ((Int.tmod x0 10) + 1)) ≤ 10 then (if ((⟨#[48, 49, 50, 51, 52, 53, 54, 55, 56, 57]⟩ : ByteArray).extract ((Int.tmod x0 10) : Int).toNat ((wrap64 ((Int.tmod x0 10) + 1)) : Int).toNat).size + x3.size ≤ 9223372036854775807 then (cubbyref08_Digits.l0 k (wrap64 (Int.tdiv x0 10)) (((⟨#[48, 49, 50, 51, 52, 53, 54, 55, 56, 57]⟩ : ByteArray).extract ((Int.tmod x0 10) : Int).toNat ((wrap64 ((Int.tmod x0 10) + 1)) : Int).toNat) ++ x3)) else (none)) else (none)) else (none)) else (none)) else (if 0 ≤ x0 then (if x0 ≤ (wrap64 (x0 + 1)) then (if (wrap64 (x0 + 1)) ≤ 10 then (if ((⟨#[48, 49, 50, 51, 52, 53, 54, 55, 56, 57]⟩ : ByteArray).extract (x0 : Int).toNat ((wrap64 (x0 + 1)) : Int).toNat).size + x3.size ≤ 9223372036854775807 then (some (((⟨#[48, 49, 50, 51, 52, 53, 54, 55, 56, 57]⟩ : ByteArray).extract (x0 : Int).toNat ((wrap64 (x0 + 1)) : Int).toNat) ++ x3)) else (none)) else (none)) else (none)) else (none))
def cubbyref08_Digits.f (k : Nat) (a0 : Int) : Option (ByteArray) := cubbyref08_Digits.l0 k a0 (⟨#[]⟩ : ByteArray)
set_option maxHeartbeats 8000000 in
set_option maxRecDepth 100000 in
theorem cubbyref08_Digits.calls (k : Nat) (a0 : Int) (r : ByteArray) (w : World) (h : cubbyref08_Digits.f k a0 = some r) :
 Calls Tryd.prog 35 #[.int .i64 a0] w fun e w' => e = .returned (.string r) ∧ Drawn0 w w' := by
 have H := h; clear h; unfold cubbyref08_Digits.f at H
 have H' := zA H
 clear H
 go_enter Tryd.func35, Tryd.ntmps35
 go_wp2
 go_loopg [0, 3] k (fun kq v0 v3 w' => ∃ (x0_1 : Int) (x3_1 : ByteArray), v0 = .int .i64 x0_1 ∧ v3 = .string x3_1 ∧ Aside0 (cubbyref08_Digits.l0 kq x0_1 x3_1 = some r) ∧ Aside0 (kq ≤ k) ∧ Drawn0 w w')
 case atStart => exact ⟨(a0), ((⟨#[]⟩ : ByteArray)), qT, qT, H', ⟨Nat.le_refl _⟩, qD⟩
 case round =>
  clear H'
  obtain ⟨x0_1, x3_1, rfl, rfl, HA, HK1, ⟨m1, rfl⟩⟩ := hrel
  cases gk with
  | zero => exact absurd HA.out (by simp [cubbyref08_Digits.l0])
  | succ k1 =>
   have H := HA.out
   clear HA
   simp only [cubbyref08_Digits.l0] at H
   by_cases c2 : x0_1 > 9
   ·rw [zC c2] at H
    have c2b0 : decide (9 < x0_1) = true := zF c2
    clear c2
    obtain ⟨ji3, hji3⟩ : ∃ j_ : Int, (Int.tmod x0_1 10) = j_ := ⟨_, rfl⟩
    replace H : (if 0 ≤ (ji3) then (if (ji3) ≤ (wrap64 ((ji3) + 1)) then (if (wrap64 ((ji3) + 1)) ≤ 10 then (if ((⟨#[48, 49, 50, 51, 52, 53, 54, 55, 56, 57]⟩ : ByteArray).extract ((ji3) : Int).toNat ((wrap64 ((ji3) + 1)) : Int).toNat).size + x3_1.size ≤ 9223372036854775807 then (cubbyref08_Digits.l0 k1 (wrap64 (Int.tdiv x0_1 10)) (((⟨#[48, 49, 50, 51, 52, 53, 54, 55, 56, 57]⟩ : ByteArray).extract ((ji3) : Int).toNat ((wrap64 ((ji3) + 1)) : Int).toNat) ++ x3_1)) else (none)) else (none)) else (none)) else (none)) = some r := by first | (rw [hji3] at H; exact H) | (simp only [hji3] at H ⊢; exact H)
    by_cases c4 : 0 ≤ (ji3)
    ·rw [zC c4] at H
     have c4b0 := eq_true c4
     have c4b1 := zF c4
     clear c4
     by_cases c5 : (ji3) ≤ (wrap64 ((ji3) + 1))
     ·rw [zC c5] at H
      have c5b0 := eq_true c5
      have c5b1 := zF c5
      by_cases c6 : (wrap64 ((ji3) + 1)) ≤ 10
      ·rw [zC c6] at H
       have c6b0 := eq_true c6
       have c6b1 := zF c6
       by_cases c7 : ((⟨#[48, 49, 50, 51, 52, 53, 54, 55, 56, 57]⟩ : ByteArray).extract ((ji3) : Int).toNat ((wrap64 ((ji3) + 1)) : Int).toNat).size + x3_1.size ≤ 9223372036854775807
       ·rw [zC c7] at H
        have c7b0 := eq_true c7
        have c7b1 := zF c7
        try have c7b2 : (9223372036854775807 < ((⟨#[48, 49, 50, 51, 52, 53, 54, 55, 56, 57]⟩ : ByteArray).extract ((ji3) : Int).toNat ((wrap64 ((ji3) + 1)) : Int).toNat).size + x3_1.size) = False := eq_false (Nat.not_lt.2 c7)
        have H' := zA H
        clear H
        go_wp2
        go_roundg k1
        case measure => have := HK1.out; omega
        case rel => exact ⟨(wrap64 (Int.tdiv x0_1 10)), (((⟨#[48, 49, 50, 51, 52, 53, 54, 55, 56, 57]⟩ : ByteArray).extract ((ji3) : Int).toNat ((wrap64 ((ji3) + 1)) : Int).toNat) ++ x3_1), qT, (by first | rfl | (simp; done) | (simp only [← hji3] <;> (first | rfl | simp)) | (simp [*]; done)), H', ⟨by have := HK1.out; omega⟩, qD⟩
       ·rw [zD c7] at H
        exact absurd H (by simp)
      ·rw [zD c6] at H
       exact absurd H (by simp)
     ·rw [zD c5] at H
      exact absurd H (by simp)
    ·rw [zD c4] at H
     exact absurd H (by simp)
   ·rw [zD c2] at H
    have c2b0 : decide (9 < x0_1) = false := zG c2
    clear c2
    by_cases c8 : 0 ≤ x0_1
    ·rw [zC c8] at H
     have c8b0 := eq_true c8
     have c8b1 := zF c8
     clear c8
     by_cases c9 : x0_1 ≤ (wrap64 (x0_1 + 1))
     ·rw [zC c9] at H
      have c9b0 := eq_true c9
      have c9b1 := zF c9
      by_cases c10 : (wrap64 (x0_1 + 1)) ≤ 10
      ·rw [zC c10] at H
       have c10b0 := eq_true c10
       have c10b1 := zF c10
       by_cases c11 : ((⟨#[48, 49, 50, 51, 52, 53, 54, 55, 56, 57]⟩ : ByteArray).extract (x0_1 : Int).toNat ((wrap64 (x0_1 + 1)) : Int).toNat).size + x3_1.size ≤ 9223372036854775807
       ·rw [zC c11] at H
        have c11b0 := eq_true c11
        have c11b1 := zF c11
        try have c11b2 : (9223372036854775807 < ((⟨#[48, 49, 50, 51, 52, 53, 54, 55, 56, 57]⟩ : ByteArray).extract (x0_1 : Int).toNat ((wrap64 (x0_1 + 1)) : Int).toNat).size + x3_1.size) = False := eq_false (Nat.not_lt.2 c11)
        obtain rfl := zI H
        go_wp2
        go_ret
        exact ⟨by first | rfl | (simp; done) | (simp [*]; done), qD⟩
       ·rw [zD c11] at H
        exact absurd H (by simp)
      ·rw [zD c10] at H
       exact absurd H (by simp)
     ·rw [zD c9] at H
      exact absurd H (by simp)
    ·rw [zD c8] at H
     exact absurd H (by simp)

mutual
def cubbyref08_line.j0 : Nat → ByteArray → ByteArray → Bool → Int → List Int → Bool → Option (ByteArray × Int)
 | 0, _, _, _, _, _, _ => none
 | k + 1, x0, x1, x2, x3, x4, x23 => if x23 = true then (some ((⟨#[]⟩ : ByteArray), 80)) else (cubbyref08_line.l0 k x1 x2 x3 x4 x0 0)
def cubbyref08_line.l0 : Nat → ByteArray → Bool → Int → List Int → ByteArray → Int → Option (ByteArray × Int)
 | 0, _, _, _, _, _, _ => none
 | k + 1, x1, x2, x3, x4, x12, x13 => if x13 ≤ (x4.length : Int) then (if x2 = true then (cubbyref08_line.j2 k x1 x2 x3 x4 x12 x13 (x13 == x3)) else (cubbyref08_line.j2 k x1 x2 x3 x4 x12 x13 false)) else (if x12.size + 1 ≤ 9223372036854775807 then (some (x12 ++ (⟨#[10]⟩ : ByteArray), 0)) else (none))
def cubbyref08_line.j2 : Nat → ByteArray → Bool → Int → List Int → ByteArray → Int → Bool → Option (ByteArray × Int)
 | 0, _, _, _, _, _, _, _ => none
 | k + 1, x1, x2, x3, x4, x12, x13, x36 => if x36 = true then (if x12.size + 1 ≤ 9223372036854775807 then (if (x12 ++ (⟨#[32]⟩ : ByteArray)).size + x1.size ≤ 9223372036854775807 then (cubbyref08_line.j3 k x1 x2 x3 x4 ((x12 ++ (⟨#[32]⟩ : ByteArray)) ++ x1) x13) else (none)) else (none)) else (cubbyref08_line.j3 k x1 x2 x3 x4 x12 x13)
def cubbyref08_line.j3 : Nat → ByteArray → Bool → Int → List Int → ByteArray → Int → Option (ByteArray × Int)
 | 0, _, _, _, _, _, _ => none
 | k + 1, x1, x2, x3, x4, x12, x13 => if x13 < (x4.length : Int) then (if 0 ≤ x13 then (if (rd x4 x13) < 0 then (some ((⟨#[]⟩ : ByteArray), 81)) else (if (rd x4 x13) > 2147483647 then (some ((⟨#[]⟩ : ByteArray), 81)) else (if x12.size + 1 ≤ 9223372036854775807 then ((cubbyref08_Digits.f k (rd x4 x13)).bind fun t360 => (if (x12 ++ (⟨#[32]⟩ : ByteArray)).size + t360.size ≤ 9223372036854775807 then (cubbyref08_line.l0 k x1 x2 x3 x4 ((x12 ++ (⟨#[32]⟩ : ByteArray)) ++ t360) (wrap64 (x13 + 1))) else (none))) else (none)))) else (none)) else (cubbyref08_line.l0 k x1 x2 x3 x4 x12 (wrap64 (x13 + 1)))
end
def cubbyref08_line.f (k : Nat) (a0 : ByteArray) (a1 : ByteArray) (a2 : Bool) (a3 : Int) (l4 : List Int) : Option (ByteArray × Int) := if a0.toList = ([] : List UInt8) then (cubbyref08_line.j0 k a0 a1 a2 a3 l4 true) else (if a2 = true then ((cubbyref07_Name.f k a1).bind fun t356 => (cubbyref08_line.j0 k a0 a1 a2 a3 l4 (!t356))) else (cubbyref08_line.j0 k a0 a1 a2 a3 l4 false))
set_option maxHeartbeats 8000000 in
set_option maxRecDepth 100000 in
theorem cubbyref08_line.calls (k : Nat) (a0 : ByteArray) (a1 : ByteArray) (a2 : Bool) (a3 : Int) (A4 : Option Addr) (c4 : Nat) (l4 : List Int) (r1 : ByteArray) (r2 : Int) (w : World) (hr4 : Kd.C (Kd.int .i64) w A4 l4.length l4) (hc4 : l4.length ≤ c4) (h : cubbyref08_line.f k a0 a1 a2 a3 l4 = some (r1, r2)) :
 Calls Tryd.prog 20 #[.string a0, .string a1, .bool a2, .int .i64 a3, .slice A4 l4.length c4] w fun e w' => e = .returned (.tuple #[.string r1, .int .i64 r2]) ∧ Drawn0 w w' := by
 have HR4 := zA hr4
 have HC4 := zA hc4
 clear hr4 hc4
 have H := h; clear h; unfold cubbyref08_line.f at H
 have HC6 := zA H
 clear H
 go_enter Tryd.func20, Tryd.ntmps20
 go_upto_region 1 with (fail)
 go_cut [23] (fun v23 wc => ∃ (kq : Nat) (x23_5 : Bool), v23 = .bool x23_5 ∧ Aside0 (cubbyref08_line.j0 kq a0 a1 a2 a3 l4 x23_5 = some (r1, r2)) ∧ Aside0 (kq ≤ k) ∧ Drawn0 w wc)
 case first =>
  have H := HC6.out
  clear HC6
  by_cases c7 : a0.toList = ([] : List UInt8)
  ·rw [zC c7] at H
   obtain ⟨c7b0, c7b1⟩ := qe c7; clear c7
   (first | rw [c7b0] | (simp only [i64_w, i32_w]; rw [c7b0]) | skip)
   have H' := zA H
   clear H
   go_wp2
   go_meet
   case rel => exact ⟨_, (true), qT, H', ⟨qO⟩, qD⟩
  ·rw [zD c7] at H
   obtain ⟨c7b0, c7b1⟩ := qn c7
   (first | rw [c7b0] | (simp only [i64_w, i32_w]; rw [c7b0]) | skip)
   by_cases c8 : a2 = true
   ·subst c8
    have H1 : ((cubbyref07_Name.f k a1).bind fun t356 => (cubbyref08_line.j0 k a0 a1 true a3 l4 (!t356))) = some (r1, r2) := by rw [zC rfl] at H; exact H
    clear H
    have H := H1
    clear H1
    replace H := qb H; obtain ⟨t356, A9, H⟩ := H
    have H' := zA H
    clear H
    go_wp2_with (first | (go_at_call 34; (with_reducible refine (cubbyref07_Name.calls k a1 t356 _ A9.out).mono ?_); (try clear A9); rintro e w' ⟨rfl, ⟨nd, rfl⟩⟩))
    go_meet
    case rel => exact ⟨_, (!t356), qT, H', ⟨qO⟩, qD⟩
   ·replace c8 := Bool.eq_false_iff.mpr c8
    subst c8
    have H1 : (cubbyref08_line.j0 k a0 a1 false a3 l4 false) = some (r1, r2) := by rw [zD (show ¬ (false = true) by decide)] at H; exact H
    clear H
    have H := H1
    clear H1
    have H' := zA H
    clear H
    go_wp2
    go_meet
    case rel => exact ⟨_, (false), qT, H', ⟨qO⟩, qD⟩
 case rest =>
  clear HC6
  try clear c2; try clear p2; try clear c4; try clear c7; try clear c7b0 c7b1; try clear c8
  obtain ⟨kq, x23_5, rfl, HA, HJ5, ⟨mc5, rfl⟩⟩ := hcut
  cases kq with
  | zero => exact absurd HA.out (by simp [cubbyref08_line.j0])
  | succ kj5 =>
   have H := HA.out
   clear HA
   simp only [cubbyref08_line.j0] at H
   by_cases c10 : x23_5 = true
   ·subst c10
    have H1 : (some ((⟨#[]⟩ : ByteArray), 80)) = some (r1, r2) := by rw [zC rfl] at H; exact H
    clear H
    have H := H1
    clear H1
    simp only [Option.some.injEq, Prod.mk.injEq] at H
    obtain ⟨rfl, rfl⟩ := H
    go_wp2
    go_ret2
    exact ⟨by first | rfl | (simp; done) | (simp [*]; done), qD⟩
   ·replace c10 := Bool.eq_false_iff.mpr c10
    subst c10
    have H1 : (cubbyref08_line.l0 kj5 a1 a2 a3 l4 a0 0) = some (r1, r2) := by rw [zD (show ¬ (false = true) by decide)] at H; exact H
    clear H
    have H := H1
    clear H1
    have H' := zA H
    clear H
    go_wp2
    go_loopg [12, 13] kj5 (fun kq v12 v13 w' => ∃ (x12_2 : ByteArray) (x13_2 : Int), v12 = .string x12_2 ∧ v13 = .int .i64 x13_2 ∧ Aside0 (cubbyref08_line.l0 kq a1 a2 a3 l4 x12_2 x13_2 = some (r1, r2)) ∧ Aside0 (kq ≤ kj5) ∧ Drawn0 w w')
    case atStart => exact ⟨(a0), (0), qT, qT, H', ⟨Nat.le_refl _⟩, qD⟩
    case round =>
     clear H'
     try clear c1; try clear c2; try clear p2; try clear c4; try clear c5; try clear c7; try clear c7b0 c7b1; try clear c8; try clear c10
     obtain ⟨x12_2, x13_2, rfl, rfl, HA, HK2, ⟨m2, rfl⟩⟩ := hrel
     cases gk with
     | zero => exact absurd HA.out (by simp [cubbyref08_line.l0])
     | succ k2 =>
      have H := HA.out
      clear HA
      simp only [cubbyref08_line.l0] at H
      by_cases c11 : x13_2 ≤ (l4.length : Int)
      ·rw [zC c11] at H
       have c11b0 := zF c11
       clear c11
       have HC12 := zA H
       clear H
       go_upto_region 7 with (fail)
       go_cut [36] (fun v36 wc => ∃ (kq : Nat) (x36_11 : Bool), v36 = .bool x36_11 ∧ Aside0 (cubbyref08_line.j2 kq a1 a2 a3 l4 x12_2 x13_2 x36_11 = some (r1, r2)) ∧ Aside0 (kq ≤ k2) ∧ Drawn0 w wc)
       case first =>
        have H := HC12.out
        clear HC12
        by_cases c13 : a2 = true
        ·subst c13
         have H1 : (cubbyref08_line.j2 k2 a1 true a3 l4 x12_2 x13_2 (x13_2 == a3)) = some (r1, r2) := by rw [zC rfl] at H; exact H
         clear H
         have H := H1
         clear H1
         have H' := zA H
         clear H
         go_wp2
         go_meet
         case rel => exact ⟨_, ((x13_2 == a3)), qT, H', ⟨by have := HJ5.out; have := HK2.out; first | omega | exact Nat.le_refl _⟩, qD⟩
        ·replace c13 := Bool.eq_false_iff.mpr c13
         subst c13
         have H1 : (cubbyref08_line.j2 k2 a1 false a3 l4 x12_2 x13_2 false) = some (r1, r2) := by rw [zD (show ¬ (false = true) by decide)] at H; exact H
         clear H
         have H := H1
         clear H1
         have H' := zA H
         clear H
         go_wp2
         go_meet
         case rel => exact ⟨_, (false), qT, H', ⟨by have := HJ5.out; have := HK2.out; first | omega | exact Nat.le_refl _⟩, qD⟩
       case rest =>
        clear HC12
        try clear c1; try clear c2; try clear p2; try clear c4; try clear c5; try clear c7; try clear c7b0 c7b1; try clear c8; try clear c10; try clear c11b0; try clear c13
        obtain ⟨kq, x36_11, rfl, HA, HJ11, ⟨mc11, rfl⟩⟩ := hcut
        cases kq with
        | zero => exact absurd HA.out (by simp [cubbyref08_line.j2])
        | succ kj11 =>
         have H := HA.out
         clear HA
         simp only [cubbyref08_line.j2] at H
         have HC14 := zA H
         clear H
         go_upto_if 36 with (fail)
         go_cut [12] (fun v12 wc => ∃ (kq : Nat) (x12_13 : ByteArray), v12 = .string x12_13 ∧ Aside0 (cubbyref08_line.j3 kq a1 a2 a3 l4 x12_13 x13_2 = some (r1, r2)) ∧ Aside0 (kq ≤ kj11) ∧ Drawn0 w wc)
         case first =>
          have H := HC14.out
          clear HC14
          by_cases c15 : x36_11 = true
          ·subst c15
           have H1 : (if x12_2.size + 1 ≤ 9223372036854775807 then (if (x12_2 ++ (⟨#[32]⟩ : ByteArray)).size + a1.size ≤ 9223372036854775807 then (cubbyref08_line.j3 kj11 a1 a2 a3 l4 ((x12_2 ++ (⟨#[32]⟩ : ByteArray)) ++ a1) x13_2) else (none)) else (none)) = some (r1, r2) := by rw [zC rfl] at H; exact H
           clear H
           have H := H1
           clear H1
           by_cases c16 : x12_2.size + 1 ≤ 9223372036854775807
           ·rw [zC c16] at H
            have c16b0 := eq_true c16
            have c16b1 := zF c16
            try have c16b2 : (9223372036854775807 < x12_2.size + 1) = False := eq_false (Nat.not_lt.2 c16)
            by_cases c17 : (x12_2 ++ (⟨#[32]⟩ : ByteArray)).size + a1.size ≤ 9223372036854775807
            ·rw [zC c17] at H
             have c17b0 := eq_true c17
             have c17z : (9223372036854775807 < x12_2.size + 1 + a1.size) = False := eq_false (by have h_ := c17; simp only [ByteArray.size_append] at h_; exact Nat.not_lt.2 h_)
             have c17b1 := zF c17
             try have c17b2 : (9223372036854775807 < (x12_2 ++ (⟨#[32]⟩ : ByteArray)).size + a1.size) = False := eq_false (Nat.not_lt.2 c17)
             have H' := zA H
             clear H
             go_wp2
             go_meet
             case rel => exact ⟨_, ((x12_2 ++ (⟨#[32]⟩ : ByteArray)) ++ a1), qT, H', ⟨by have := HJ5.out; have := HK2.out; have := HJ11.out; first | omega | exact Nat.le_refl _⟩, qD⟩
            ·rw [zD c17] at H
             exact absurd H (by simp)
           ·rw [zD c16] at H
            exact absurd H (by simp)
          ·replace c15 := Bool.eq_false_iff.mpr c15
           subst c15
           have H1 : (cubbyref08_line.j3 kj11 a1 a2 a3 l4 x12_2 x13_2) = some (r1, r2) := by rw [zD (show ¬ (false = true) by decide)] at H; exact H
           clear H
           have H := H1
           clear H1
           have H' := zA H
           clear H
           go_wp2
           go_meet
           case rel => exact ⟨_, (x12_2), qT, H', ⟨by have := HJ5.out; have := HK2.out; have := HJ11.out; first | omega | exact Nat.le_refl _⟩, qD⟩
         case rest =>
          clear HC14
          try clear c1; try clear c2; try clear p2; try clear c4; try clear c5; try clear c7; try clear c7b0 c7b1; try clear c8; try clear c10; try clear c11b0; try clear c13; try clear c15; try clear c16; try clear c16b0 c16b1 c16b2; try clear c17; try clear c17b0 c17b1 c17b2
          obtain ⟨kq, x12_13, rfl, HA, HJ13, ⟨mc13, rfl⟩⟩ := hcut
          cases kq with
          | zero => exact absurd HA.out (by simp [cubbyref08_line.j3])
          | succ kj13 =>
           have H := HA.out
           clear HA
           simp only [cubbyref08_line.j3] at H
           by_cases c18 : x13_2 < (l4.length : Int)
           ·rw [zC c18] at H
            have c18b0 := zF c18
            clear c18
            by_cases c19 : 0 ≤ x13_2
            ·rw [zC c19] at H
             have c19b0 := zF c19
             clear c19
             by_cases c20 : (rd l4 x13_2) < 0
             ·rw [zC c20] at H
              have c20b0 := zF c20
              clear c20
              simp only [Option.some.injEq, Prod.mk.injEq] at H
              obtain ⟨rfl, rfl⟩ := H
              have p357 : 0 ≤ (x13_2 : Int) := zB qA
              have q357 : x13_2 < (l4.length : Int) := zB qA
              obtain ⟨ad357, e357, hx357_0⟩ := Kd.at_int HR4.out x13_2 p357 q357
              cases e357
              replace p357 := eq_true p357
              replace q357 := eq_true q357
              go_wp2
              go_ret2
              exact ⟨by first | rfl | (simp; done) | (simp [*]; done), qD⟩
             ·rw [zD c20] at H
              have c20b0 := zG c20
              clear c20
              by_cases c21 : (rd l4 x13_2) > 2147483647
              ·rw [zC c21] at H
               have c21b0 : decide (2147483647 < (rd l4 x13_2)) = true := zF c21
               clear c21
               simp only [Option.some.injEq, Prod.mk.injEq] at H
               obtain ⟨rfl, rfl⟩ := H
               have p357 : 0 ≤ (x13_2 : Int) := zB qA
               have q357 : x13_2 < (l4.length : Int) := zB qA
               obtain ⟨ad357, e357, hx357_0⟩ := Kd.at_int HR4.out x13_2 p357 q357
               cases e357
               replace p357 := eq_true p357
               replace q357 := eq_true q357
               have p358 : 0 ≤ (x13_2 : Int) := zB qA
               have q358 : x13_2 < (l4.length : Int) := zB qA
               obtain ⟨ad358, e358, hx358_0⟩ := Kd.at_int HR4.out x13_2 p358 q358
               obtain rfl : ad357 = ad358 := (by injection e358)
               replace p358 := eq_true p358
               replace q358 := eq_true q358
               go_wp2
               go_ret2
               exact ⟨by first | rfl | (simp; done) | (simp [*]; done), qD⟩
              ·rw [zD c21] at H
               have c21b0 : decide (2147483647 < (rd l4 x13_2)) = false := zG c21
               clear c21
               by_cases c22 : x12_13.size + 1 ≤ 9223372036854775807
               ·rw [zC c22] at H
                have c22b0 := eq_true c22
                have c22b1 := zF c22
                try have c22b2 : (9223372036854775807 < x12_13.size + 1) = False := eq_false (Nat.not_lt.2 c22)
                replace H := qb H; obtain ⟨t360, A23, H⟩ := H
                by_cases c24 : (x12_13 ++ (⟨#[32]⟩ : ByteArray)).size + t360.size ≤ 9223372036854775807
                ·rw [zC c24] at H
                 have c24b0 := eq_true c24
                 have c24z : (9223372036854775807 < x12_13.size + 1 + t360.size) = False := eq_false (by have h_ := c24; simp only [ByteArray.size_append] at h_; exact Nat.not_lt.2 h_)
                 have c24b1 := zF c24
                 try have c24b2 : (9223372036854775807 < (x12_13 ++ (⟨#[32]⟩ : ByteArray)).size + t360.size) = False := eq_false (Nat.not_lt.2 c24)
                 have H' := zA H
                 clear H
                 have p357 : 0 ≤ (x13_2 : Int) := zB qA
                 have q357 : x13_2 < (l4.length : Int) := zB qA
                 obtain ⟨ad357, e357, hx357_0⟩ := Kd.at_int HR4.out x13_2 p357 q357
                 cases e357
                 replace p357 := eq_true p357
                 replace q357 := eq_true q357
                 have p358 : 0 ≤ (x13_2 : Int) := zB qA
                 have q358 : x13_2 < (l4.length : Int) := zB qA
                 obtain ⟨ad358, e358, hx358_0⟩ := Kd.at_int HR4.out x13_2 p358 q358
                 obtain rfl : ad357 = ad358 := (by injection e358)
                 replace p358 := eq_true p358
                 replace q358 := eq_true q358
                 have p359 : 0 ≤ (x13_2 : Int) := zB qA
                 have q359 : x13_2 < (l4.length : Int) := zB qA
                 obtain ⟨ad359, e359, hx359_0⟩ := Kd.at_int HR4.out x13_2 p359 q359
                 obtain rfl : ad357 = ad359 := (by injection e359)
                 replace p359 := eq_true p359
                 replace q359 := eq_true q359
                 go_wp2_with (first | ((with_reducible refine gate_callee (f := 35) rfl ?_); refine goesL_ (some 63) rfl rfl Tryd.func35 (by kernel_rfl) rfl #[.int .i64 (rd l4 x13_2)] rfl qL ?_; (with_reducible refine (cubbyref08_Digits.calls kj13 (rd l4 x13_2) t360 _ A23.out).mono ?_); rintro e w' ⟨rfl, ⟨nd, rfl⟩⟩; refine ⟨_, rfl, ?_⟩))
                 go_roundg kj13
                 case measure => have := HJ5.out; have := HK2.out; have := HJ11.out; have := HJ13.out; omega
                 case rel => exact ⟨((x12_13 ++ (⟨#[32]⟩ : ByteArray)) ++ t360), (wrap64 (x13_2 + 1)), qT, qT, H', ⟨by have := HJ5.out; have := HK2.out; have := HJ11.out; have := HJ13.out; omega⟩, qD⟩
                ·rw [zD c24] at H
                 exact absurd H (by simp)
               ·rw [zD c22] at H
                exact absurd H (by simp)
            ·rw [zD c19] at H
             exact absurd H (by simp)
           ·rw [zD c18] at H
            have c18b0 := zG c18
            clear c18
            have H' := zA H
            clear H
            go_wp2
            go_roundg kj13
            case measure => have := HJ5.out; have := HK2.out; have := HJ11.out; have := HJ13.out; omega
            case rel => exact ⟨(x12_13), (wrap64 (x13_2 + 1)), qT, qT, H', ⟨by have := HJ5.out; have := HK2.out; have := HJ11.out; have := HJ13.out; omega⟩, qD⟩
      ·rw [zD c11] at H
       have c11b0 := zG c11
       clear c11
       by_cases c25 : x12_2.size + 1 ≤ 9223372036854775807
       ·rw [zC c25] at H
        have c25b0 := eq_true c25
        have c25b1 := zF c25
        try have c25b2 : (9223372036854775807 < x12_2.size + 1) = False := eq_false (Nat.not_lt.2 c25)
        simp only [Option.some.injEq, Prod.mk.injEq] at H
        obtain ⟨rfl, rfl⟩ := H
        go_wp2
        go_ret2
        exact ⟨by first | rfl | (simp; done) | (simp [*]; done), qD⟩
       ·rw [zD c25] at H
        exact absurd H (by simp)

mutual
def cubbyref08_numbers.j0 : Nat → Bool → List Int → Int → Bool → Int → Int → Int → Int → ByteArray → List Int → Option (List Int)
 | 0, _, _, _, _, _, _, _, _, _, _ => none
 | k + 1, x1, x5, x8, x9, x187000, x187001, x187002, x187003, x187004, x187005 => if x9 = true then ((some (([x187001, x187002, x187003] : List Int) : List Int)).bind fun y190 => (if x5.length + y190.length < 17592186044416 then (some (x5 ++ y190)) else (none))) else (if x8 = 9 then ((some (([x187002, x187003] : List Int) : List Int)).bind fun y196 => (if x5.length + y196.length < 17592186044416 then (some (x5 ++ y196)) else (none))) else (if x8 = 10 then (cubbyref08_numbers.j1 k x1 x5 x8 (x8 == 10) x187000 x187001 x187002 x187003 x187004 x187005) else (if x8 = 12 then (cubbyref08_numbers.j1 k x1 x5 x8 (x8 == 12) x187000 x187001 x187002 x187003 x187004 x187005) else (cubbyref08_numbers.j1 k x1 x5 x8 (x8 == 14) x187000 x187001 x187002 x187003 x187004 x187005))))
def cubbyref08_numbers.j1 : Nat → Bool → List Int → Int → Bool → Int → Int → Int → Int → ByteArray → List Int → Option (List Int)
 | 0, _, _, _, _, _, _, _, _, _, _ => none
 | k + 1, x1, x5, x8, x33, x187000, x187001, x187002, x187003, x187004, x187005 => if x33 = true then (if x5.length < 17592186044416 then (some (x5 ++ [x187002])) else (none)) else (if x8 = 13 then ((some (([x187002, x187003, x187001] : List Int) : List Int)).bind fun y205 => (if x5.length + y205.length < 17592186044416 then (some (x5 ++ y205)) else (none))) else (if x8 = 11 then (if x5.length < 17592186044416 then ((some (x5 ++ [x187001] : List Int)).bind fun y211 => (if x1 = true then (if y211.length < 17592186044416 then (some (y211 ++ [x187002])) else (none)) else (if y211.length + x187005.length < 17592186044416 then (some (y211 ++ x187005)) else (none)))) else (none)) else ((some (([x187001, x187002] : List Int) : List Int)).bind fun y220 => (if x5.length + y220.length < 17592186044416 then (some (x5 ++ y220)) else (none)))))
end
def cubbyref08_numbers.f (k : Nat) (a0_0 : Int) (a0_1 : Int) (a0_2 : Int) (a0_3 : Int) (a0_4 : ByteArray) (l0_5 : List Int) (a1 : Bool) : Option (List Int) := (some (([] : List Int) : List Int)).bind fun y187 => (if a0_0 = 3 then (cubbyref08_numbers.j0 k a1 y187 a0_0 (a0_0 == 3) a0_0 a0_1 a0_2 a0_3 a0_4 l0_5) else (if a0_0 = 4 then (cubbyref08_numbers.j0 k a1 y187 a0_0 (a0_0 == 4) a0_0 a0_1 a0_2 a0_3 a0_4 l0_5) else (if a0_0 = 5 then (cubbyref08_numbers.j0 k a1 y187 a0_0 (a0_0 == 5) a0_0 a0_1 a0_2 a0_3 a0_4 l0_5) else (if a0_0 = 6 then (cubbyref08_numbers.j0 k a1 y187 a0_0 (a0_0 == 6) a0_0 a0_1 a0_2 a0_3 a0_4 l0_5) else (cubbyref08_numbers.j0 k a1 y187 a0_0 (a0_0 == 7) a0_0 a0_1 a0_2 a0_3 a0_4 l0_5)))))
set_option maxHeartbeats 8000000 in
set_option maxRecDepth 100000 in
theorem cubbyref08_numbers.calls (k : Nat) (a0_0 : Int) (a0_1 : Int) (a0_2 : Int) (a0_3 : Int) (a0_4 : ByteArray) (A0_5 : Option Addr) (c0_5 : Nat) (l0_5 : List Int) (a1 : Bool) (r : List Int) (w : World) (hr0_5 : Kd.C (Kd.int .i64) w A0_5 l0_5.length l0_5) (hc0_5 : l0_5.length ≤ c0_5) (h : cubbyref08_numbers.f k a0_0 a0_1 a0_2 a0_3 a0_4 l0_5 a1 = some r) :
 Calls Tryd.prog 37 #[.agg #[.int .i64 a0_0, .int .i64 a0_1, .int .i64 a0_2, .int .i64 a0_3, .string a0_4, .slice A0_5 l0_5.length c0_5], .bool a1] w fun e w' => ∃ v0_ : Value, e = .returned (v0_) ∧ Kd.R (Kd.int .i64) 3 w' w.heap.size (fun _ => True) v0_ r ∧ Below w.heap.size w w' := by
 have hu43 := Tryd.underlying43
 have HR0_5 := zA hr0_5
 have HC0_5 := zA hc0_5
 clear hr0_5 hc0_5
 have HB := zA (Below.refl w.heap.size w)
 have H := h; clear h; unfold cubbyref08_numbers.f at H
 obtain ⟨y187, hy187⟩ : ∃ y_ : List Int, y_ = (([] : List Int)) := ⟨_, rfl⟩
 replace H : (if a0_0 = 3 then (cubbyref08_numbers.j0 k a1 y187 a0_0 (a0_0 == 3) a0_0 a0_1 a0_2 a0_3 a0_4 l0_5) else (if a0_0 = 4 then (cubbyref08_numbers.j0 k a1 y187 a0_0 (a0_0 == 4) a0_0 a0_1 a0_2 a0_3 a0_4 l0_5) else (if a0_0 = 5 then (cubbyref08_numbers.j0 k a1 y187 a0_0 (a0_0 == 5) a0_0 a0_1 a0_2 a0_3 a0_4 l0_5) else (if a0_0 = 6 then (cubbyref08_numbers.j0 k a1 y187 a0_0 (a0_0 == 6) a0_0 a0_1 a0_2 a0_3 a0_4 l0_5) else (cubbyref08_numbers.j0 k a1 y187 a0_0 (a0_0 == 7) a0_0 a0_1 a0_2 a0_3 a0_4 l0_5))))) = some r := by (try rw [hy187]); first | with_reducible exact H | exact (zJ _ _).symm.trans H | exact H
 have Ny187 := zA hy187
 clear hy187
 have HC3 := zA H
 clear H
 go_enter Tryd.func37, Tryd.ntmps37
 go_upto_if 9 with (first | ((with_reducible refine gate_dst (N := 2) rfl ?_); refine box_event (by rfl) (N := 2) (by rfl) (cs := #[.int .i64 a0_0, .int .i64 a0_1, .int .i64 a0_2, .int .i64 a0_3, .string a0_4, .slice A0_5 l0_5.length c0_5]) (t := 43) ?hr ?_; (case hr => go_simp <;> rfl); intro gb186 hg w4 hbox hb; have BK186 := zA (hbox); have GW186 := qG hg; have GE186 := GW186; replace HB := qH hb; clear hb hbox hg) | ((with_reducible refine gate_dst (N := 6) rfl ?_); refine Kd.R_lit (Kd.int .i64) _ 3 (by rfl) (N := 6) (by rfl) (xs := ([] : List Int)) (inner := []) (ok := fun _ => True) (okp := fun _ => True) ?hr ?hp (fun _ hk => hk) trivial (Below.refl _ _) (Nat.le_refl _) (by simp) ?_; (case hr => go_simp <;> rfl); (case hp => exact (Reps.none _ _)); intro v188 w5 ho6 hb hg_ hnew_; clear hg_ hnew_; (first | rw [← Ny187.out] at ho6 | (simp only [Int.reduceToNat] at ho6; rw [← Ny187.out] at ho6)); have HO189 := zA (Kd.R_lower ho6 (below_size qB)); replace BK186 := qW BK186 hb; replace HB := qH hb; clear hb ho6; have z7_0 := bk6 BK186.out))
 (try simp only [Act.put, List.setIfInBounds_toArray, List.set_cons_zero, List.set_cons_succ])
 go_cut [9] (fun v9 wc => ∃ (kq : Nat) (x9_2 : Bool), v9 = .bool x9_2 ∧ Aside0 (cubbyref08_numbers.j0 kq a1 y187 a0_0 x9_2 a0_0 a0_1 a0_2 a0_3 a0_4 l0_5 = some r) ∧ Aside0 (kq ≤ k) ∧ Aside0 (Kd.R (Kd.int .i64) 3 wc w.heap.size (fun _ => True) v188 y187) ∧ Aside0 (wc.heap[gb186]? = some (.cells #[.int .i64 a0_0, .int .i64 a0_1, .int .i64 a0_2, .int .i64 a0_3, .string a0_4, (.slice A0_5 l0_5.length c0_5)] 43 (0, 0))) ∧ Aside0 (Below w.heap.size w wc))
 case first =>
  have H := HC3.out
  clear HC3
  by_cases c8 : a0_0 = 3
  ·rw [zC c8] at H
   obtain ⟨c8b0, c8b1⟩ := qe c8; clear c8
   (first | rw [c8b0] | (simp only [i64_w, i32_w]; rw [c8b0]) | skip)
   have H' := zA H
   clear H
   go_wp2
   go_meet
   case rel => exact ⟨_, ((a0_0 == 3)), qT, H', ⟨qO⟩, ⟨qR HO189.out⟩, ⟨qK BK186.out⟩, ⟨qB⟩⟩
  ·rw [zD c8] at H
   obtain ⟨c8b0, c8b1⟩ := qn c8
   (first | rw [c8b0] | (simp only [i64_w, i32_w]; rw [c8b0]) | skip)
   by_cases c9 : a0_0 = 4
   ·rw [zC c9] at H
    obtain ⟨c9b0, c9b1⟩ := qe c9; clear c9
    have H' := zA H
    clear H
    go_wp2
    go_meet
    case rel => exact ⟨_, ((a0_0 == 4)), qT, H', ⟨qO⟩, ⟨qR HO189.out⟩, ⟨qK BK186.out⟩, ⟨qB⟩⟩
   ·rw [zD c9] at H
    obtain ⟨c9b0, c9b1⟩ := qn c9
    by_cases c10 : a0_0 = 5
    ·rw [zC c10] at H
     obtain ⟨c10b0, c10b1⟩ := qe c10; clear c10
     have H' := zA H
     clear H
     go_wp2
     go_meet
     case rel => exact ⟨_, ((a0_0 == 5)), qT, H', ⟨qO⟩, ⟨qR HO189.out⟩, ⟨qK BK186.out⟩, ⟨qB⟩⟩
    ·rw [zD c10] at H
     obtain ⟨c10b0, c10b1⟩ := qn c10
     by_cases c11 : a0_0 = 6
     ·rw [zC c11] at H
      obtain ⟨c11b0, c11b1⟩ := qe c11; clear c11
      have H' := zA H
      clear H
      go_wp2
      go_meet
      case rel => exact ⟨_, ((a0_0 == 6)), qT, H', ⟨qO⟩, ⟨qR HO189.out⟩, ⟨qK BK186.out⟩, ⟨qB⟩⟩
     ·rw [zD c11] at H
      obtain ⟨c11b0, c11b1⟩ := qn c11
      have H' := zA H
      clear H
      go_wp2
      go_meet
      case rel => exact ⟨_, ((a0_0 == 7)), qT, H', ⟨qO⟩, ⟨qR HO189.out⟩, ⟨qK BK186.out⟩, ⟨qB⟩⟩
 case rest =>
  clear HC3
  try clear c1; try clear p2; try clear c3; try clear c8; try clear c8b0 c8b1; try clear c9; try clear c9b0 c9b1; try clear c10; try clear c10b0 c10b1; try clear c11; try clear c11b0 c11b1; try clear z7_0
  obtain ⟨kq, x9_2, rfl, HA, HJ2, HO_5, BK186, HB⟩ := hcut
  cases kq with
  | zero => exact absurd HA.out (by simp [cubbyref08_numbers.j0])
  | succ kj2 =>
   have H := HA.out
   clear HA
   simp only [cubbyref08_numbers.j0] at H
   by_cases c12 : x9_2 = true
   ·subst c12
    have H1 : ((some (([a0_1, a0_2, a0_3] : List Int) : List Int)).bind fun y190 => (if y187.length + y190.length < 17592186044416 then (some (y187 ++ y190)) else (none))) = some r := by rw [zC rfl] at H; exact H
    clear H
    have H := H1
    clear H1
    obtain ⟨y190, hy190⟩ : ∃ y_ : List Int, y_ = (([a0_1, a0_2, a0_3] : List Int)) := ⟨_, rfl⟩
    replace H : (if y187.length + y190.length < 17592186044416 then (some (y187 ++ y190)) else (none)) = some r := by (try rw [hy190]); first | with_reducible exact H | exact (zJ _ _).symm.trans H | exact H
    have Ny190 := zA hy190
    clear hy190
    by_cases c13 : y187.length + y190.length < 17592186044416
    ·rw [zC c13] at H
     have LMc13 := zA c13
     clear c13
     obtain ⟨y193, hy193⟩ : ∃ y_ : List Int, y_ = (y187 ++ y190) := ⟨_, rfl⟩
     replace H : (some y193) = some r := by (try rw [hy193]); first | with_reducible exact H | exact (zJ _ _).symm.trans H | exact H
     have Ny193 := zA hy193
     clear hy193
     obtain rfl := zI H
     have z14_0 := bk6 BK186.out
     go_wp2_with (first | ((with_reducible refine gate_dst (N := 22) rfl ?_); refine Kd.R_lit (Kd.int .i64) _ 3 (by rfl) (N := 22) (by rfl) (xs := ([a0_1, a0_2, a0_3] : List Int)) (inner := [.int .i64 a0_1, .int .i64 a0_2, .int .i64 a0_3]) (ok := fun _ => True) (okp := fun _ => True) ?hr ?hp (fun _ hk => hk) trivial (Below.refl _ _) (Nat.le_refl _) (by simp) ?_; (case hr => go_simp <;> rfl); (case hp => exact (Reps.one (show Kd.M (Kd.int .i64) _ _ _ a0_1 [.int .i64 a0_1] from rfl) (Reps.one (show Kd.M (Kd.int .i64) _ _ _ a0_2 [.int .i64 a0_2] from rfl) (Reps.one (show Kd.M (Kd.int .i64) _ _ _ a0_3 [.int .i64 a0_3] from rfl) (Reps.none _ _))))); intro v191 w15 ho16 hb hg_ hnew_; clear hg_ hnew_; (first | rw [← Ny190.out] at ho16 | (simp only [Int.reduceToNat] at ho16; rw [← Ny190.out] at ho16)); have HO192 := zA (Kd.R_lower (Kd.R_new' ho16 (Kd.R_lt (qR HO_5.out))) (below_size qB)); replace HO_5 := zA (Kd.R_elder' (qR HO_5.out) (Kd.R_base ho16) hb); replace BK186 := qW BK186 hb; replace HB := qH hb; clear hb ho16; obtain ⟨Ao18, co18, eo18⟩ := Kd.R_slice HO192.out; subst eo18) | ((with_reducible refine gate_builtin (b := .append) (xs := #[.tmp 15, .tmp 22]) rfl ?_); at_builtin; refine Kd.R_append_rows (Kd.int .i64) (w0 := w) w.heap.size rfl (.tmp 15) (.tmp 22) 41 3 (.int .i64 0) 8 rfl Tryd.underlying41 info3 rfl (by decide) (by omega) v188 y187 y190 _ _ _ (fun k_ => some k_ ≠ (.slice Ao18 y190.length co18 : Value).ownBlock) (fun _ => False) rfl rfl ?aO ?aR (fun _ _ h => h) (fun _ h => h.elim) ?aF ?aB ?aS ?aL ?_; (case aR => repeat (first | exact (Kd.R_reads' HO192.out).2.2 | (with_reducible refine Kd.C_alloc ?_ _) | (with_reducible refine Kd.C_drewN ?_ _) | (with_reducible refine Kd.C_drew ?_))); (case aB => exact qB); (case aF => exact (fun k_ hk => Kd.fresh' (Kd.R_lt (qR HO192.out)) k_ hk)); (case aO => exact (by (with_reducible repeat (first | apply Kd.R_alloc | apply Kd.R_drewN | apply Kd.R_drew)); exact Kd.R_mono HO_5.out (fun _ hk => hk.2))); (case aS => exact (below_size qB)); (case aL => have := LMc13.out; omega); intro v194 w17 ho hb hg hat; rw [← Ny193.out] at ho; replace BK186 := zA (blk_grown (qK BK186.out) hg (Kd.R_ne HO_5.out BK186.out (by decide))); replace HO192 := zA (Kd.R_after (ok := (fun _ => True)) (qR HO192.out) hg hat); replace HB := zA (hb); have HO195 := zA (ho); clear HO_5; clear ho hb hg hat))
     go_ret
     exact ⟨_, qE, by (with_reducible repeat (first | apply Kd.R_alloc | apply Kd.R_drewN | apply Kd.R_drew)); exact Kd.R_mono HO195.out (fun _ hk => trivial), qB⟩
    ·rw [zD c13] at H
     exact absurd H (by simp)
   ·replace c12 := Bool.eq_false_iff.mpr c12
    subst c12
    have H1 : (if a0_0 = 9 then ((some (([a0_2, a0_3] : List Int) : List Int)).bind fun y196 => (if y187.length + y196.length < 17592186044416 then (some (y187 ++ y196)) else (none))) else (if a0_0 = 10 then (cubbyref08_numbers.j1 kj2 a1 y187 a0_0 (a0_0 == 10) a0_0 a0_1 a0_2 a0_3 a0_4 l0_5) else (if a0_0 = 12 then (cubbyref08_numbers.j1 kj2 a1 y187 a0_0 (a0_0 == 12) a0_0 a0_1 a0_2 a0_3 a0_4 l0_5) else (cubbyref08_numbers.j1 kj2 a1 y187 a0_0 (a0_0 == 14) a0_0 a0_1 a0_2 a0_3 a0_4 l0_5)))) = some r := by rw [zD (show ¬ (false = true) by decide)] at H; exact H
    clear H
    have H := H1
    clear H1
    by_cases c19 : a0_0 = 9
    ·rw [zC c19] at H
     obtain ⟨c19b0, c19b1⟩ := qe c19; clear c19
     obtain ⟨y196, hy196⟩ : ∃ y_ : List Int, y_ = (([a0_2, a0_3] : List Int)) := ⟨_, rfl⟩
     replace H : (if y187.length + y196.length < 17592186044416 then (some (y187 ++ y196)) else (none)) = some r := by (try rw [hy196]); first | with_reducible exact H | exact (zJ _ _).symm.trans H | exact H
     have Ny196 := zA hy196
     clear hy196
     by_cases c20 : y187.length + y196.length < 17592186044416
     ·rw [zC c20] at H
      have LMc20 := zA c20
      clear c20
      obtain ⟨y199, hy199⟩ : ∃ y_ : List Int, y_ = (y187 ++ y196) := ⟨_, rfl⟩
      replace H : (some y199) = some r := by (try rw [hy199]); first | with_reducible exact H | exact (zJ _ _).symm.trans H | exact H
      have Ny199 := zA hy199
      clear hy199
      obtain rfl := zI H
      have z21_0 := bk6 BK186.out
      go_wp2_with (first | ((with_reducible refine gate_dst (N := 31) rfl ?_); refine Kd.R_lit (Kd.int .i64) _ 3 (by rfl) (N := 31) (by rfl) (xs := ([a0_2, a0_3] : List Int)) (inner := [.int .i64 a0_2, .int .i64 a0_3]) (ok := fun _ => True) (okp := fun _ => True) ?hr ?hp (fun _ hk => hk) trivial (Below.refl _ _) (Nat.le_refl _) (by simp) ?_; (case hr => go_simp <;> rfl); (case hp => exact (Reps.one (show Kd.M (Kd.int .i64) _ _ _ a0_2 [.int .i64 a0_2] from rfl) (Reps.one (show Kd.M (Kd.int .i64) _ _ _ a0_3 [.int .i64 a0_3] from rfl) (Reps.none _ _)))); intro v197 w22 ho23 hb hg_ hnew_; clear hg_ hnew_; (first | rw [← Ny196.out] at ho23 | (simp only [Int.reduceToNat] at ho23; rw [← Ny196.out] at ho23)); have HO198 := zA (Kd.R_lower (Kd.R_new' ho23 (Kd.R_lt (qR HO_5.out))) (below_size qB)); replace HO_5 := zA (Kd.R_elder' (qR HO_5.out) (Kd.R_base ho23) hb); replace BK186 := qW BK186 hb; replace HB := qH hb; clear hb ho23; obtain ⟨Ao25, co25, eo25⟩ := Kd.R_slice HO198.out; subst eo25) | ((with_reducible refine gate_builtin (b := .append) (xs := #[.tmp 26, .tmp 31]) rfl ?_); at_builtin; refine Kd.R_append_rows (Kd.int .i64) (w0 := w) w.heap.size rfl (.tmp 26) (.tmp 31) 41 3 (.int .i64 0) 8 rfl Tryd.underlying41 info3 rfl (by decide) (by omega) v188 y187 y196 _ _ _ (fun k_ => some k_ ≠ (.slice Ao25 y196.length co25 : Value).ownBlock) (fun _ => False) rfl rfl ?aO ?aR (fun _ _ h => h) (fun _ h => h.elim) ?aF ?aB ?aS ?aL ?_; (case aR => repeat (first | exact (Kd.R_reads' HO198.out).2.2 | (with_reducible refine Kd.C_alloc ?_ _) | (with_reducible refine Kd.C_drewN ?_ _) | (with_reducible refine Kd.C_drew ?_))); (case aB => exact qB); (case aF => exact (fun k_ hk => Kd.fresh' (Kd.R_lt (qR HO198.out)) k_ hk)); (case aO => exact (by (with_reducible repeat (first | apply Kd.R_alloc | apply Kd.R_drewN | apply Kd.R_drew)); exact Kd.R_mono HO_5.out (fun _ hk => hk.2))); (case aS => exact (below_size qB)); (case aL => have := LMc20.out; omega); intro v200 w24 ho hb hg hat; rw [← Ny199.out] at ho; replace BK186 := zA (blk_grown (qK BK186.out) hg (Kd.R_ne HO_5.out BK186.out (by decide))); replace HO198 := zA (Kd.R_after (ok := (fun _ => True)) (qR HO198.out) hg hat); replace HB := zA (hb); have HO201 := zA (ho); clear HO_5; clear ho hb hg hat))
      go_ret
      exact ⟨_, qE, by (with_reducible repeat (first | apply Kd.R_alloc | apply Kd.R_drewN | apply Kd.R_drew)); exact Kd.R_mono HO201.out (fun _ hk => trivial), qB⟩
     ·rw [zD c20] at H
      exact absurd H (by simp)
    ·rw [zD c19] at H
     obtain ⟨c19b0, c19b1⟩ := qn c19
     have HC26 := zA H
     clear H
     go_upto_if 33 with (fail)
     go_cut [33] (fun v33 wc => ∃ (kq : Nat) (x33_25 : Bool), v33 = .bool x33_25 ∧ Aside0 (cubbyref08_numbers.j1 kq a1 y187 a0_0 x33_25 a0_0 a0_1 a0_2 a0_3 a0_4 l0_5 = some r) ∧ Aside0 (kq ≤ kj2) ∧ Aside0 (Kd.R (Kd.int .i64) 3 wc w.heap.size (fun _ => True) v188 y187) ∧ Aside0 (wc.heap[gb186]? = some (.cells #[.int .i64 a0_0, .int .i64 a0_1, .int .i64 a0_2, .int .i64 a0_3, .string a0_4, (.slice A0_5 l0_5.length c0_5)] 43 (0, 0))) ∧ Aside0 (Below w.heap.size w wc))
     case first =>
      have H := HC26.out
      clear HC26
      by_cases c27 : a0_0 = 10
      ·rw [zC c27] at H
       obtain ⟨c27b0, c27b1⟩ := qe c27; clear c27
       (first | rw [c27b0] | (simp only [i64_w, i32_w]; rw [c27b0]) | skip)
       have H' := zA H
       clear H
       go_wp2
       go_meet
       case rel => exact ⟨_, ((a0_0 == 10)), qT, H', ⟨by have := HJ2.out; first | omega | exact Nat.le_refl _⟩, ⟨qR HO_5.out⟩, ⟨qK BK186.out⟩, ⟨qB⟩⟩
      ·rw [zD c27] at H
       obtain ⟨c27b0, c27b1⟩ := qn c27
       (first | rw [c27b0] | (simp only [i64_w, i32_w]; rw [c27b0]) | skip)
       by_cases c28 : a0_0 = 12
       ·rw [zC c28] at H
        obtain ⟨c28b0, c28b1⟩ := qe c28; clear c28
        have H' := zA H
        clear H
        go_wp2
        go_meet
        case rel => exact ⟨_, ((a0_0 == 12)), qT, H', ⟨by have := HJ2.out; first | omega | exact Nat.le_refl _⟩, ⟨qR HO_5.out⟩, ⟨qK BK186.out⟩, ⟨qB⟩⟩
       ·rw [zD c28] at H
        obtain ⟨c28b0, c28b1⟩ := qn c28
        have H' := zA H
        clear H
        go_wp2
        go_meet
        case rel => exact ⟨_, ((a0_0 == 14)), qT, H', ⟨by have := HJ2.out; first | omega | exact Nat.le_refl _⟩, ⟨qR HO_5.out⟩, ⟨qK BK186.out⟩, ⟨qB⟩⟩
     case rest =>
      clear HC26
      try clear c1; try clear c2; try clear p2; try clear c3; try clear c8; try clear c8b0 c8b1; try clear c9; try clear c9b0 c9b1; try clear c10; try clear c10b0 c10b1; try clear c11; try clear c11b0 c11b1; try clear c12; try clear c13; try clear c19; try clear c19b0 c19b1; try clear c20; try clear c27; try clear c27b0 c27b1; try clear c28; try clear c28b0 c28b1; try clear z14_0; try clear z21_0; try clear z7_0
      obtain ⟨kq, x33_25, rfl, HA, HJ25, HO_5, BK186, HB⟩ := hcut
      cases kq with
      | zero => exact absurd HA.out (by simp [cubbyref08_numbers.j1])
      | succ kj25 =>
       have H := HA.out
       clear HA
       simp only [cubbyref08_numbers.j1] at H
       by_cases c29 : x33_25 = true
       ·subst c29
        have H1 : (if y187.length < 17592186044416 then (some (y187 ++ [a0_2])) else (none)) = some r := by rw [zC rfl] at H; exact H
        clear H
        have H := H1
        clear H1
        by_cases c30 : y187.length < 17592186044416
        ·rw [zC c30] at H
         have LMc30 := zA c30
         clear c30
         obtain ⟨y202, hy202⟩ : ∃ y_ : List Int, y_ = (y187 ++ [a0_2]) := ⟨_, rfl⟩
         replace H : (some y202) = some r := by (try rw [hy202]); first | with_reducible exact H | exact (zJ _ _).symm.trans H | exact H
         have Ny202 := zA hy202
         clear hy202
         obtain rfl := zI H
         have z31_0 := bk6 BK186.out
         go_wp2_with (first | ((with_reducible refine gate_builtin (b := .append) (xs := #[.tmp 37, .tmp 40]) rfl ?_); at_builtin; refine Kd.R_append (Kd.int .i64) (w0 := w) w.heap.size rfl (.tmp 37) (.tmp 40) 41 3 (.int .i64 0) 8 rfl Tryd.underlying41 info3 rfl (by decide) (by omega) v188 y187 a0_2 [.int .i64 a0_2] (fun _ => True) (fun _ => False) rfl rfl ?aP (fun _ hk => hk.elim) ?aF ?aO ?aB ?aS ?aL ?_; (case aP => exact rfl); (case aB => exact qB); (case aF => exact (fun _ _ => trivial)); (case aO => exact (qR HO_5.out)); (case aS => exact (below_size qB)); (case aL => have := LMc30.out; omega); intro v203 w32 ho hb hg hat; rw [← Ny202.out] at ho; replace BK186 := zA (blk_grown (qK BK186.out) hg (Kd.R_ne HO_5.out BK186.out (by decide))); replace HB := zA (hb); have HO204 := zA (ho); clear HO_5; clear ho hb hg hat))
         go_ret
         exact ⟨_, qE, qR HO204.out, qB⟩
        ·rw [zD c30] at H
         exact absurd H (by simp)
       ·replace c29 := Bool.eq_false_iff.mpr c29
        subst c29
        have H1 : (if a0_0 = 13 then ((some (([a0_2, a0_3, a0_1] : List Int) : List Int)).bind fun y205 => (if y187.length + y205.length < 17592186044416 then (some (y187 ++ y205)) else (none))) else (if a0_0 = 11 then (if y187.length < 17592186044416 then ((some (y187 ++ [a0_1] : List Int)).bind fun y211 => (if a1 = true then (if y211.length < 17592186044416 then (some (y211 ++ [a0_2])) else (none)) else (if y211.length + l0_5.length < 17592186044416 then (some (y211 ++ l0_5)) else (none)))) else (none)) else ((some (([a0_1, a0_2] : List Int) : List Int)).bind fun y220 => (if y187.length + y220.length < 17592186044416 then (some (y187 ++ y220)) else (none))))) = some r := by rw [zD (show ¬ (false = true) by decide)] at H; exact H
        clear H
        have H := H1
        clear H1
        by_cases c33 : a0_0 = 13
        ·rw [zC c33] at H
         obtain ⟨c33b0, c33b1⟩ := qe c33; clear c33
         obtain ⟨y205, hy205⟩ : ∃ y_ : List Int, y_ = (([a0_2, a0_3, a0_1] : List Int)) := ⟨_, rfl⟩
         replace H : (if y187.length + y205.length < 17592186044416 then (some (y187 ++ y205)) else (none)) = some r := by (try rw [hy205]); first | with_reducible exact H | exact (zJ _ _).symm.trans H | exact H
         have Ny205 := zA hy205
         clear hy205
         by_cases c34 : y187.length + y205.length < 17592186044416
         ·rw [zC c34] at H
          have LMc34 := zA c34
          clear c34
          obtain ⟨y208, hy208⟩ : ∃ y_ : List Int, y_ = (y187 ++ y205) := ⟨_, rfl⟩
          replace H : (some y208) = some r := by (try rw [hy208]); first | with_reducible exact H | exact (zJ _ _).symm.trans H | exact H
          have Ny208 := zA hy208
          clear hy208
          obtain rfl := zI H
          have z35_0 := bk6 BK186.out
          go_wp2_with (first | ((with_reducible refine gate_dst (N := 51) rfl ?_); refine Kd.R_lit (Kd.int .i64) _ 3 (by rfl) (N := 51) (by rfl) (xs := ([a0_2, a0_3, a0_1] : List Int)) (inner := [.int .i64 a0_2, .int .i64 a0_3, .int .i64 a0_1]) (ok := fun _ => True) (okp := fun _ => True) ?hr ?hp (fun _ hk => hk) trivial (Below.refl _ _) (Nat.le_refl _) (by simp) ?_; (case hr => go_simp <;> rfl); (case hp => exact (Reps.one (show Kd.M (Kd.int .i64) _ _ _ a0_2 [.int .i64 a0_2] from rfl) (Reps.one (show Kd.M (Kd.int .i64) _ _ _ a0_3 [.int .i64 a0_3] from rfl) (Reps.one (show Kd.M (Kd.int .i64) _ _ _ a0_1 [.int .i64 a0_1] from rfl) (Reps.none _ _))))); intro v206 w36 ho37 hb hg_ hnew_; clear hg_ hnew_; (first | rw [← Ny205.out] at ho37 | (simp only [Int.reduceToNat] at ho37; rw [← Ny205.out] at ho37)); have HO207 := zA (Kd.R_lower (Kd.R_new' ho37 (Kd.R_lt (qR HO_5.out))) (below_size qB)); replace HO_5 := zA (Kd.R_elder' (qR HO_5.out) (Kd.R_base ho37) hb); replace BK186 := qW BK186 hb; replace HB := qH hb; clear hb ho37; obtain ⟨Ao39, co39, eo39⟩ := Kd.R_slice HO207.out; subst eo39) | ((with_reducible refine gate_builtin (b := .append) (xs := #[.tmp 44, .tmp 51]) rfl ?_); at_builtin; refine Kd.R_append_rows (Kd.int .i64) (w0 := w) w.heap.size rfl (.tmp 44) (.tmp 51) 41 3 (.int .i64 0) 8 rfl Tryd.underlying41 info3 rfl (by decide) (by omega) v188 y187 y205 _ _ _ (fun k_ => some k_ ≠ (.slice Ao39 y205.length co39 : Value).ownBlock) (fun _ => False) rfl rfl ?aO ?aR (fun _ _ h => h) (fun _ h => h.elim) ?aF ?aB ?aS ?aL ?_; (case aR => repeat (first | exact (Kd.R_reads' HO207.out).2.2 | (with_reducible refine Kd.C_alloc ?_ _) | (with_reducible refine Kd.C_drewN ?_ _) | (with_reducible refine Kd.C_drew ?_))); (case aB => exact qB); (case aF => exact (fun k_ hk => Kd.fresh' (Kd.R_lt (qR HO207.out)) k_ hk)); (case aO => exact (by (with_reducible repeat (first | apply Kd.R_alloc | apply Kd.R_drewN | apply Kd.R_drew)); exact Kd.R_mono HO_5.out (fun _ hk => hk.2))); (case aS => exact (below_size qB)); (case aL => have := LMc34.out; omega); intro v209 w38 ho hb hg hat; rw [← Ny208.out] at ho; replace BK186 := zA (blk_grown (qK BK186.out) hg (Kd.R_ne HO_5.out BK186.out (by decide))); replace HO207 := zA (Kd.R_after (ok := (fun _ => True)) (qR HO207.out) hg hat); replace HB := zA (hb); have HO210 := zA (ho); clear HO_5; clear ho hb hg hat))
          go_ret
          exact ⟨_, qE, by (with_reducible repeat (first | apply Kd.R_alloc | apply Kd.R_drewN | apply Kd.R_drew)); exact Kd.R_mono HO210.out (fun _ hk => trivial), qB⟩
         ·rw [zD c34] at H
          exact absurd H (by simp)
        ·rw [zD c33] at H
         obtain ⟨c33b0, c33b1⟩ := qn c33
         by_cases c40 : a0_0 = 11
         ·rw [zC c40] at H
          obtain ⟨c40b0, c40b1⟩ := qe c40; clear c40
          by_cases c41 : y187.length < 17592186044416
          ·rw [zC c41] at H
           have LMc41 := zA c41
           clear c41
           obtain ⟨y211, hy211⟩ : ∃ y_ : List Int, y_ = (y187 ++ [a0_1]) := ⟨_, rfl⟩
           replace H : (if a1 = true then (if y211.length < 17592186044416 then (some (y211 ++ [a0_2])) else (none)) else (if y211.length + l0_5.length < 17592186044416 then (some (y211 ++ l0_5)) else (none))) = some r := by (try rw [hy211]); first | with_reducible exact H | exact (zJ _ _).symm.trans H | exact H
           have Ny211 := zA hy211
           clear hy211
           by_cases c42 : a1 = true
           ·subst c42
            have H1 : (if y211.length < 17592186044416 then (some (y211 ++ [a0_2])) else (none)) = some r := by rw [zC rfl] at H; exact H
            clear H
            have H := H1
            clear H1
            by_cases c43 : y211.length < 17592186044416
            ·rw [zC c43] at H
             have LMc43 := zA c43
             clear c43
             obtain ⟨y214, hy214⟩ : ∃ y_ : List Int, y_ = (y211 ++ [a0_2]) := ⟨_, rfl⟩
             replace H : (some y214) = some r := by (try rw [hy214]); first | with_reducible exact H | exact (zJ _ _).symm.trans H | exact H
             have Ny214 := zA hy214
             clear hy214
             obtain rfl := zI H
             have z44_0 := bk6 BK186.out
             go_wp2_with (first | ((with_reducible refine gate_builtin (b := .append) (xs := #[.tmp 55, .tmp 58]) rfl ?_); at_builtin; refine Kd.R_append (Kd.int .i64) (w0 := w) w.heap.size rfl (.tmp 55) (.tmp 58) 41 3 (.int .i64 0) 8 rfl Tryd.underlying41 info3 rfl (by decide) (by omega) v188 y187 a0_1 [.int .i64 a0_1] (fun _ => True) (fun _ => False) rfl rfl ?aP (fun _ hk => hk.elim) ?aF ?aO ?aB ?aS ?aL ?_; (case aP => exact rfl); (case aB => exact qB); (case aF => exact (fun _ _ => trivial)); (case aO => exact (qR HO_5.out)); (case aS => exact (below_size qB)); (case aL => have := LMc41.out; omega); intro v212 w45 ho hb hg hat; rw [← Ny211.out] at ho; replace BK186 := zA (blk_grown (qK BK186.out) hg (Kd.R_ne HO_5.out BK186.out (by decide))); replace HB := zA (hb); have HO213 := zA (ho); clear HO_5; clear ho hb hg hat; have z46_0 := bk6 BK186.out) | ((with_reducible refine gate_builtin (b := .append) (xs := #[.tmp 61, .tmp 64]) rfl ?_); at_builtin; refine Kd.R_append (Kd.int .i64) (w0 := w) w.heap.size rfl (.tmp 61) (.tmp 64) 41 3 (.int .i64 0) 8 rfl Tryd.underlying41 info3 rfl (by decide) (by omega) v212 y211 a0_2 [.int .i64 a0_2] (fun _ => True) (fun _ => False) rfl rfl ?aP (fun _ hk => hk.elim) ?aF ?aO ?aB ?aS ?aL ?_; (case aP => exact rfl); (case aB => exact qB); (case aF => exact (fun _ _ => trivial)); (case aO => exact (qR HO213.out)); (case aS => exact (below_size qB)); (case aL => have := LMc43.out; omega); intro v215 w47 ho hb hg hat; rw [← Ny214.out] at ho; replace BK186 := zA (blk_grown (qK BK186.out) hg (Kd.R_ne HO213.out BK186.out (by decide))); replace HB := zA (hb); have HO216 := zA (ho); clear HO213; clear ho hb hg hat))
             go_ret
             exact ⟨_, qE, qR HO216.out, qB⟩
            ·rw [zD c43] at H
             exact absurd H (by simp)
           ·replace c42 := Bool.eq_false_iff.mpr c42
            subst c42
            have H1 : (if y211.length + l0_5.length < 17592186044416 then (some (y211 ++ l0_5)) else (none)) = some r := by rw [zD (show ¬ (false = true) by decide)] at H; exact H
            clear H
            have H := H1
            clear H1
            by_cases c48 : y211.length + l0_5.length < 17592186044416
            ·rw [zC c48] at H
             have LMc48 := zA c48
             clear c48
             obtain ⟨y217, hy217⟩ : ∃ y_ : List Int, y_ = (y211 ++ l0_5) := ⟨_, rfl⟩
             replace H : (some y217) = some r := by (try rw [hy217]); first | with_reducible exact H | exact (zJ _ _).symm.trans H | exact H
             have Ny217 := zA hy217
             clear hy217
             obtain rfl := zI H
             have z49_0 := bk6 BK186.out
             go_wp2_with (first | ((with_reducible refine gate_builtin (b := .append) (xs := #[.tmp 55, .tmp 58]) rfl ?_); at_builtin; refine Kd.R_append (Kd.int .i64) (w0 := w) w.heap.size rfl (.tmp 55) (.tmp 58) 41 3 (.int .i64 0) 8 rfl Tryd.underlying41 info3 rfl (by decide) (by omega) v188 y187 a0_1 [.int .i64 a0_1] (fun _ => True) (fun _ => False) rfl rfl ?aP (fun _ hk => hk.elim) ?aF ?aO ?aB ?aS ?aL ?_; (case aP => exact rfl); (case aB => exact qB); (case aF => exact (fun _ _ => trivial)); (case aO => exact (qR HO_5.out)); (case aS => exact (below_size qB)); (case aL => have := LMc41.out; omega); intro v212 w50 ho hb hg hat; rw [← Ny211.out] at ho; replace BK186 := zA (blk_grown (qK BK186.out) hg (Kd.R_ne HO_5.out BK186.out (by decide))); replace HB := zA (hb); have HO213 := zA (ho); clear HO_5; clear ho hb hg hat; have z51_0 := bk6 BK186.out) | ((with_reducible refine gate_builtin (b := .append) (xs := #[.tmp 66, .tmp 68]) rfl ?_); at_builtin; refine Kd.R_append_rows (Kd.int .i64) (w0 := w) w.heap.size rfl (.tmp 66) (.tmp 68) 41 3 (.int .i64 0) 8 rfl Tryd.underlying41 info3 rfl (by decide) (by omega) v212 y211 l0_5 _ _ _ (fun _ => True) (fun _ => False) rfl rfl ?aO ?aR (fun _ _ h => h) (fun _ h => h.elim) ?aF ?aB ?aS ?aL ?_; (case aR => exact qCB HR0_5.out); (case aB => exact qB); (case aF => exact (fun _ _ => trivial)); (case aO => exact (qR HO213.out)); (case aS => exact (below_size qB)); (case aL => have := LMc48.out; omega); intro v218 w52 ho hb hg hat; rw [← Ny217.out] at ho; replace BK186 := zA (blk_grown (qK BK186.out) hg (Kd.R_ne HO213.out BK186.out (by decide))); replace HB := zA (hb); have HO219 := zA (ho); clear HO213; clear ho hb hg hat))
             go_ret
             exact ⟨_, qE, qR HO219.out, qB⟩
            ·rw [zD c48] at H
             exact absurd H (by simp)
          ·rw [zD c41] at H
           exact absurd H (by simp)
         ·rw [zD c40] at H
          obtain ⟨c40b0, c40b1⟩ := qn c40
          obtain ⟨y220, hy220⟩ : ∃ y_ : List Int, y_ = (([a0_1, a0_2] : List Int)) := ⟨_, rfl⟩
          replace H : (if y187.length + y220.length < 17592186044416 then (some (y187 ++ y220)) else (none)) = some r := by (try rw [hy220]); first | with_reducible exact H | exact (zJ _ _).symm.trans H | exact H
          have Ny220 := zA hy220
          clear hy220
          by_cases c53 : y187.length + y220.length < 17592186044416
          ·rw [zC c53] at H
           have LMc53 := zA c53
           clear c53
           obtain ⟨y223, hy223⟩ : ∃ y_ : List Int, y_ = (y187 ++ y220) := ⟨_, rfl⟩
           replace H : (some y223) = some r := by (try rw [hy223]); first | with_reducible exact H | exact (zJ _ _).symm.trans H | exact H
           have Ny223 := zA hy223
           clear hy223
           obtain rfl := zI H
           have z54_0 := bk6 BK186.out
           go_wp2_with (first | ((with_reducible refine gate_dst (N := 75) rfl ?_); refine Kd.R_lit (Kd.int .i64) _ 3 (by rfl) (N := 75) (by rfl) (xs := ([a0_1, a0_2] : List Int)) (inner := [.int .i64 a0_1, .int .i64 a0_2]) (ok := fun _ => True) (okp := fun _ => True) ?hr ?hp (fun _ hk => hk) trivial (Below.refl _ _) (Nat.le_refl _) (by simp) ?_; (case hr => go_simp <;> rfl); (case hp => exact (Reps.one (show Kd.M (Kd.int .i64) _ _ _ a0_1 [.int .i64 a0_1] from rfl) (Reps.one (show Kd.M (Kd.int .i64) _ _ _ a0_2 [.int .i64 a0_2] from rfl) (Reps.none _ _)))); intro v221 w55 ho56 hb hg_ hnew_; clear hg_ hnew_; (first | rw [← Ny220.out] at ho56 | (simp only [Int.reduceToNat] at ho56; rw [← Ny220.out] at ho56)); have HO222 := zA (Kd.R_lower (Kd.R_new' ho56 (Kd.R_lt (qR HO_5.out))) (below_size qB)); replace HO_5 := zA (Kd.R_elder' (qR HO_5.out) (Kd.R_base ho56) hb); replace BK186 := qW BK186 hb; replace HB := qH hb; clear hb ho56; obtain ⟨Ao58, co58, eo58⟩ := Kd.R_slice HO222.out; subst eo58) | ((with_reducible refine gate_builtin (b := .append) (xs := #[.tmp 70, .tmp 75]) rfl ?_); at_builtin; refine Kd.R_append_rows (Kd.int .i64) (w0 := w) w.heap.size rfl (.tmp 70) (.tmp 75) 41 3 (.int .i64 0) 8 rfl Tryd.underlying41 info3 rfl (by decide) (by omega) v188 y187 y220 _ _ _ (fun k_ => some k_ ≠ (.slice Ao58 y220.length co58 : Value).ownBlock) (fun _ => False) rfl rfl ?aO ?aR (fun _ _ h => h) (fun _ h => h.elim) ?aF ?aB ?aS ?aL ?_; (case aR => repeat (first | exact (Kd.R_reads' HO222.out).2.2 | (with_reducible refine Kd.C_alloc ?_ _) | (with_reducible refine Kd.C_drewN ?_ _) | (with_reducible refine Kd.C_drew ?_))); (case aB => exact qB); (case aF => exact (fun k_ hk => Kd.fresh' (Kd.R_lt (qR HO222.out)) k_ hk)); (case aO => exact (by (with_reducible repeat (first | apply Kd.R_alloc | apply Kd.R_drewN | apply Kd.R_drew)); exact Kd.R_mono HO_5.out (fun _ hk => hk.2))); (case aS => exact (below_size qB)); (case aL => have := LMc53.out; omega); intro v224 w57 ho hb hg hat; rw [← Ny223.out] at ho; replace BK186 := zA (blk_grown (qK BK186.out) hg (Kd.R_ne HO_5.out BK186.out (by decide))); replace HO222 := zA (Kd.R_after (ok := (fun _ => True)) (qR HO222.out) hg hat); replace HB := zA (hb); have HO225 := zA (ho); clear HO_5; clear ho hb hg hat))
           go_ret
           exact ⟨_, qE, by (with_reducible repeat (first | apply Kd.R_alloc | apply Kd.R_drewN | apply Kd.R_drew)); exact Kd.R_mono HO225.out (fun _ hk => trivial), qB⟩
          ·rw [zD c53] at H
           exact absurd H (by simp)

mutual
def cubbyref08_word.j0 : Nat → Int → Bool → List ByteArray → Bool → Option (ByteArray)
 | 0, _, _, _, _ => none
 | k + 1, x0, x1, x5, x14 => if x14 = true then (if 0 ≤ x0 then (if x0 < (x5.length : Int) then (some (rdOf ByteArray.empty x5 x0)) else (none)) else (none)) else (if x1 = true then (cubbyref08_word.j1 k x0 x1 (x0 == 21)) else (cubbyref08_word.j1 k x0 x1 false))
def cubbyref08_word.j1 : Nat → Int → Bool → Bool → Option (ByteArray)
 | 0, _, _, _ => none
 | k + 1, x0, x1, x23 => if x23 = true then (some (⟨#[102, 101, 116, 99, 104]⟩ : ByteArray)) else (if x1 = true then (if x0 = 22 then (some (⟨#[115, 97, 118, 101]⟩ : ByteArray)) else (some (⟨#[]⟩ : ByteArray))) else (some (⟨#[]⟩ : ByteArray)))
end
def cubbyref08_word.f (k : Nat) (a0 : Int) (a1 : Bool) : Option (ByteArray) := (some (([(⟨#[]⟩ : ByteArray), (⟨#[99, 111, 110, 115, 116]⟩ : ByteArray), (⟨#[99, 111, 112, 121]⟩ : ByteArray), (⟨#[97, 100, 100]⟩ : ByteArray), (⟨#[115, 117, 98]⟩ : ByteArray), (⟨#[109, 117, 108]⟩ : ByteArray), (⟨#[108, 101, 115, 115]⟩ : ByteArray), (⟨#[100, 105, 118]⟩ : ByteArray), (⟨#[108, 111, 97, 100]⟩ : ByteArray), (⟨#[115, 116, 111, 114, 101]⟩ : ByteArray), (⟨#[111, 117, 116]⟩ : ByteArray), (⟨#[99, 97, 108, 108]⟩ : ByteArray), (⟨#[106, 117, 109, 112]⟩ : ByteArray), (⟨#[98, 114, 97, 110, 99, 104]⟩ : ByteArray), (⟨#[114, 101, 116]⟩ : ByteArray)] : List ByteArray) : List ByteArray)).bind fun y182 => (if a0 ≥ 0 then (cubbyref08_word.j0 k a0 a1 y182 (decide (a0 < (y182.length : Int)))) else (cubbyref08_word.j0 k a0 a1 y182 false))
set_option maxHeartbeats 8000000 in
set_option maxRecDepth 100000 in
theorem cubbyref08_word.calls (k : Nat) (a0 : Int) (a1 : Bool) (r : ByteArray) (w : World) (h : cubbyref08_word.f k a0 a1 = some r) :
 Calls Tryd.prog 36 #[.int .i64 a0, .bool a1] w fun e w' => e = .returned (.string r) ∧ Below w.heap.size w w' := by
 have HB := zA (Below.refl w.heap.size w)
 have H := h; clear h; unfold cubbyref08_word.f at H
 obtain ⟨y182, hy182⟩ : ∃ y_ : List ByteArray, y_ = (([(⟨#[]⟩ : ByteArray), (⟨#[99, 111, 110, 115, 116]⟩ : ByteArray), (⟨#[99, 111, 112, 121]⟩ : ByteArray), (⟨#[97, 100, 100]⟩ : ByteArray), (⟨#[115, 117, 98]⟩ : ByteArray), (⟨#[109, 117, 108]⟩ : ByteArray), (⟨#[108, 101, 115, 115]⟩ : ByteArray), (⟨#[100, 105, 118]⟩ : ByteArray), (⟨#[108, 111, 97, 100]⟩ : ByteArray), (⟨#[115, 116, 111, 114, 101]⟩ : ByteArray), (⟨#[111, 117, 116]⟩ : ByteArray), (⟨#[99, 97, 108, 108]⟩ : ByteArray), (⟨#[106, 117, 109, 112]⟩ : ByteArray), (⟨#[98, 114, 97, 110, 99, 104]⟩ : ByteArray), (⟨#[114, 101, 116]⟩ : ByteArray)] : List ByteArray)) := ⟨_, rfl⟩
 replace H : (if a0 ≥ 0 then (cubbyref08_word.j0 k a0 a1 y182 (decide (a0 < (y182.length : Int)))) else (cubbyref08_word.j0 k a0 a1 y182 false)) = some r := by (try rw [hy182]); first | with_reducible exact H | exact (zJ _ _).symm.trans H | exact H
 have Ny182 := zA hy182
 clear hy182
 have HC3 := zA H
 clear H
 go_enter Tryd.func36, Tryd.ntmps36
 go_upto_region 2 with (first | ((with_reducible refine gate_dst (N := 6) rfl ?_); (try (refine gate_guard (by rfl) ?_; dsimp only)); refine Kd.R_lit Kd.string _ 9 (by rfl) (N := 6) (by rfl) (xs := ([(⟨#[]⟩ : ByteArray), (⟨#[99, 111, 110, 115, 116]⟩ : ByteArray), (⟨#[99, 111, 112, 121]⟩ : ByteArray), (⟨#[97, 100, 100]⟩ : ByteArray), (⟨#[115, 117, 98]⟩ : ByteArray), (⟨#[109, 117, 108]⟩ : ByteArray), (⟨#[108, 101, 115, 115]⟩ : ByteArray), (⟨#[100, 105, 118]⟩ : ByteArray), (⟨#[108, 111, 97, 100]⟩ : ByteArray), (⟨#[115, 116, 111, 114, 101]⟩ : ByteArray), (⟨#[111, 117, 116]⟩ : ByteArray), (⟨#[99, 97, 108, 108]⟩ : ByteArray), (⟨#[106, 117, 109, 112]⟩ : ByteArray), (⟨#[98, 114, 97, 110, 99, 104]⟩ : ByteArray), (⟨#[114, 101, 116]⟩ : ByteArray)] : List ByteArray)) (inner := [.string (⟨#[]⟩ : ByteArray), .string (⟨#[99, 111, 110, 115, 116]⟩ : ByteArray), .string (⟨#[99, 111, 112, 121]⟩ : ByteArray), .string (⟨#[97, 100, 100]⟩ : ByteArray), .string (⟨#[115, 117, 98]⟩ : ByteArray), .string (⟨#[109, 117, 108]⟩ : ByteArray), .string (⟨#[108, 101, 115, 115]⟩ : ByteArray), .string (⟨#[100, 105, 118]⟩ : ByteArray), .string (⟨#[108, 111, 97, 100]⟩ : ByteArray), .string (⟨#[115, 116, 111, 114, 101]⟩ : ByteArray), .string (⟨#[111, 117, 116]⟩ : ByteArray), .string (⟨#[99, 97, 108, 108]⟩ : ByteArray), .string (⟨#[106, 117, 109, 112]⟩ : ByteArray), .string (⟨#[98, 114, 97, 110, 99, 104]⟩ : ByteArray), .string (⟨#[114, 101, 116]⟩ : ByteArray)]) (ok := fun _ => True) (okp := fun _ => True) ?hr ?hp (fun _ hk => hk) trivial (Below.refl _ _) (Nat.le_refl _) (by simp) ?_; (case hr => go_simp <;> rfl); (case hp => exact (Reps.one (show Kd.M Kd.string _ _ _ (⟨#[]⟩ : ByteArray) [.string (⟨#[]⟩ : ByteArray)] from rfl) (Reps.one (show Kd.M Kd.string _ _ _ (⟨#[99, 111, 110, 115, 116]⟩ : ByteArray) [.string (⟨#[99, 111, 110, 115, 116]⟩ : ByteArray)] from rfl) (Reps.one (show Kd.M Kd.string _ _ _ (⟨#[99, 111, 112, 121]⟩ : ByteArray) [.string (⟨#[99, 111, 112, 121]⟩ : ByteArray)] from rfl) (Reps.one (show Kd.M Kd.string _ _ _ (⟨#[97, 100, 100]⟩ : ByteArray) [.string (⟨#[97, 100, 100]⟩ : ByteArray)] from rfl) (Reps.one (show Kd.M Kd.string _ _ _ (⟨#[115, 117, 98]⟩ : ByteArray) [.string (⟨#[115, 117, 98]⟩ : ByteArray)] from rfl) (Reps.one (show Kd.M Kd.string _ _ _ (⟨#[109, 117, 108]⟩ : ByteArray) [.string (⟨#[109, 117, 108]⟩ : ByteArray)] from rfl) (Reps.one (show Kd.M Kd.string _ _ _ (⟨#[108, 101, 115, 115]⟩ : ByteArray) [.string (⟨#[108, 101, 115, 115]⟩ : ByteArray)] from rfl) (Reps.one (show Kd.M Kd.string _ _ _ (⟨#[100, 105, 118]⟩ : ByteArray) [.string (⟨#[100, 105, 118]⟩ : ByteArray)] from rfl) (Reps.one (show Kd.M Kd.string _ _ _ (⟨#[108, 111, 97, 100]⟩ : ByteArray) [.string (⟨#[108, 111, 97, 100]⟩ : ByteArray)] from rfl) (Reps.one (show Kd.M Kd.string _ _ _ (⟨#[115, 116, 111, 114, 101]⟩ : ByteArray) [.string (⟨#[115, 116, 111, 114, 101]⟩ : ByteArray)] from rfl) (Reps.one (show Kd.M Kd.string _ _ _ (⟨#[111, 117, 116]⟩ : ByteArray) [.string (⟨#[111, 117, 116]⟩ : ByteArray)] from rfl) (Reps.one (show Kd.M Kd.string _ _ _ (⟨#[99, 97, 108, 108]⟩ : ByteArray) [.string (⟨#[99, 97, 108, 108]⟩ : ByteArray)] from rfl) (Reps.one (show Kd.M Kd.string _ _ _ (⟨#[106, 117, 109, 112]⟩ : ByteArray) [.string (⟨#[106, 117, 109, 112]⟩ : ByteArray)] from rfl) (Reps.one (show Kd.M Kd.string _ _ _ (⟨#[98, 114, 97, 110, 99, 104]⟩ : ByteArray) [.string (⟨#[98, 114, 97, 110, 99, 104]⟩ : ByteArray)] from rfl) (Reps.one (show Kd.M Kd.string _ _ _ (⟨#[114, 101, 116]⟩ : ByteArray) [.string (⟨#[114, 101, 116]⟩ : ByteArray)] from rfl) (Reps.none _ _))))))))))))))))); intro v183 w4 ho5 hb hg_ hnew_; clear hg_ hnew_; (first | rw [← Ny182.out] at ho5 | (simp only [Int.reduceToNat] at ho5; rw [← Ny182.out] at ho5)); have HO184 := zA (Kd.R_lower ho5 (below_size qB)); replace HB := qH hb; clear hb ho5))
 (try simp only [Act.put, List.setIfInBounds_toArray, List.set_cons_zero, List.set_cons_succ])
 go_cut [14] (fun v14 wc => ∃ (kq : Nat) (x14_2 : Bool), v14 = .bool x14_2 ∧ Aside0 (cubbyref08_word.j0 kq a0 a1 y182 x14_2 = some r) ∧ Aside0 (kq ≤ k) ∧ Aside0 (Kd.R Kd.string 9 wc w.heap.size (fun _ => True) v183 y182) ∧ Aside0 (Below w.heap.size w wc))
 case first =>
  have H := HC3.out
  clear HC3
  by_cases c6 : a0 ≥ 0
  ·rw [zC c6] at H
   have c6b0 : decide (0 ≤ a0) = true := zF c6
   clear c6
   (first | rw [c6b0] | (simp only [i64_w, i32_w]; rw [c6b0]) | skip)
   have H' := zA H
   clear H
   obtain ⟨Ao7, co7, eo7⟩ := Kd.R_slice HO184.out
   subst eo7
   go_wp2
   go_meet
   case rel => exact ⟨_, (decide (a0 < (y182.length : Int))), qT, H', ⟨qO⟩, ⟨qR HO184.out⟩, ⟨qB⟩⟩
  ·rw [zD c6] at H
   have c6b0 : decide (0 ≤ a0) = false := zG c6
   clear c6
   (first | rw [c6b0] | (simp only [i64_w, i32_w]; rw [c6b0]) | skip)
   have H' := zA H
   clear H
   go_wp2
   go_meet
   case rel => exact ⟨_, (false), qT, H', ⟨qO⟩, ⟨qR HO184.out⟩, ⟨qB⟩⟩
 case rest =>
  clear HC3
  try clear p2; try clear c3; try clear c6; try clear c6b0
  obtain ⟨kq, x14_2, rfl, HA, HJ2, HO_5, HB⟩ := hcut
  cases kq with
  | zero => exact absurd HA.out (by simp [cubbyref08_word.j0])
  | succ kj2 =>
   have H := HA.out
   clear HA
   simp only [cubbyref08_word.j0] at H
   by_cases c8 : x14_2 = true
   ·subst c8
    have H1 : (if 0 ≤ a0 then (if a0 < (y182.length : Int) then (some (rdOf ByteArray.empty y182 a0)) else (none)) else (none)) = some r := by rw [zC rfl] at H; exact H
    clear H
    have H := H1
    clear H1
    by_cases c9 : 0 ≤ a0
    ·rw [zC c9] at H
     have c9b0 := zF c9
     clear c9
     by_cases c10 : a0 < (y182.length : Int)
     ·rw [zC c10] at H
      have c10b0 := zF c10
      clear c10
      obtain rfl := zI H
      obtain ⟨Ao11, co11, eo11⟩ := Kd.R_slice HO_5.out
      subst eo11
      have p185 : 0 ≤ (a0 : Int) := zB qA
      have q185 : a0 < (y182.length : Int) := zB qA
      obtain ⟨ad185, e185, hx185_0⟩ := Kd.at_string (Kd.R_reads' HO_5.out).2.2 a0 p185 q185
      cases e185
      replace p185 := eq_true p185
      replace q185 := eq_true q185
      go_wp2
      go_ret
      exact ⟨qE, qB⟩
     ·rw [zD c10] at H
      exact absurd H (by simp)
    ·rw [zD c9] at H
     exact absurd H (by simp)
   ·replace c8 := Bool.eq_false_iff.mpr c8
    subst c8
    have H1 : (if a1 = true then (cubbyref08_word.j1 kj2 a0 a1 (a0 == 21)) else (cubbyref08_word.j1 kj2 a0 a1 false)) = some r := by rw [zD (show ¬ (false = true) by decide)] at H; exact H
    clear H
    have H := H1
    clear H1
    have HC12 := zA H
    clear H
    go_upto_region 4 with (fail)
    go_cut [23] (fun v23 wc => ∃ (kq : Nat) (x23_11 : Bool), v23 = .bool x23_11 ∧ Aside0 (cubbyref08_word.j1 kq a0 a1 x23_11 = some r) ∧ Aside0 (kq ≤ kj2) ∧ Aside0 (Below w.heap.size w wc))
    case first =>
     have H := HC12.out
     clear HC12
     by_cases c13 : a1 = true
     ·subst c13
      have H1 : (cubbyref08_word.j1 kj2 a0 true (a0 == 21)) = some r := by rw [zC rfl] at H; exact H
      clear H
      have H := H1
      clear H1
      have H' := zA H
      clear H
      go_wp2
      go_meet
      case rel => exact ⟨_, ((a0 == 21)), qT, H', ⟨by have := HJ2.out; first | omega | exact Nat.le_refl _⟩, ⟨qB⟩⟩
     ·replace c13 := Bool.eq_false_iff.mpr c13
      subst c13
      have H1 : (cubbyref08_word.j1 kj2 a0 false false) = some r := by rw [zD (show ¬ (false = true) by decide)] at H; exact H
      clear H
      have H := H1
      clear H1
      have H' := zA H
      clear H
      go_wp2
      go_meet
      case rel => exact ⟨_, (false), qT, H', ⟨by have := HJ2.out; first | omega | exact Nat.le_refl _⟩, ⟨qB⟩⟩
    case rest =>
     clear HC12
     try clear c1; try clear p1; try clear q1; try clear hx1; try clear p2; try clear c3; try clear c6; try clear c6b0; try clear c8; try clear c9; try clear c9b0; try clear c10; try clear c10b0; try clear c13; try clear hx185_0; try clear p185; try clear q185
     obtain ⟨kq, x23_11, rfl, HA, HJ11, HB⟩ := hcut
     cases kq with
     | zero => exact absurd HA.out (by simp [cubbyref08_word.j1])
     | succ kj11 =>
      have H := HA.out
      clear HA
      simp only [cubbyref08_word.j1] at H
      by_cases c14 : x23_11 = true
      ·subst c14
       have H1 : (some (⟨#[102, 101, 116, 99, 104]⟩ : ByteArray)) = some r := by rw [zC rfl] at H; exact H
       clear H
       have H := H1
       clear H1
       obtain rfl := zI H
       go_wp2
       go_ret
       exact ⟨qE, qB⟩
      ·replace c14 := Bool.eq_false_iff.mpr c14
       subst c14
       have H1 : (if a1 = true then (if a0 = 22 then (some (⟨#[115, 97, 118, 101]⟩ : ByteArray)) else (some (⟨#[]⟩ : ByteArray))) else (some (⟨#[]⟩ : ByteArray))) = some r := by rw [zD (show ¬ (false = true) by decide)] at H; exact H
       clear H
       have H := H1
       clear H1
       by_cases c15 : a1 = true
       ·subst c15
        have H1 : (if a0 = 22 then (some (⟨#[115, 97, 118, 101]⟩ : ByteArray)) else (some (⟨#[]⟩ : ByteArray))) = some r := by rw [zC rfl] at H; exact H
        clear H
        have H := H1
        clear H1
        by_cases c16 : a0 = 22
        ·rw [zC c16] at H
         obtain ⟨c16b0, c16b1⟩ := qe c16; clear c16
         obtain rfl := zI H
         go_wp2
         go_ret
         exact ⟨qE, qB⟩
        ·rw [zD c16] at H
         obtain ⟨c16b0, c16b1⟩ := qn c16
         obtain rfl := zI H
         go_wp2
         go_ret
         exact ⟨qE, qB⟩
       ·replace c15 := Bool.eq_false_iff.mpr c15
        subst c15
        have H1 : (some (⟨#[]⟩ : ByteArray)) = some r := by rw [zD (show ¬ (false = true) by decide)] at H; exact H
        clear H
        have H := H1
        clear H1
        obtain rfl := zI H
        go_wp2
        go_ret
        exact ⟨qE, qB⟩

mutual
def cubbyref08_print.l0 : Nat → List (List (SIns)) → Bool → ByteArray → Int → Option (ByteArray × Int)
 | 0, _, _, _, _ => none
 | k + 1, x1, x2, x8, x9 => if x9 < (x1.length : Int) then (if x8.size + 6 ≤ 9223372036854775807 then (cubbyref08_print.l1 k x1 x2 (x8 ++ (⟨#[98, 108, 111, 99, 107, 10]⟩ : ByteArray)) x9 0) else (none)) else (some (x8, 0))
def cubbyref08_print.l1 : Nat → List (List (SIns)) → Bool → ByteArray → Int → Int → Option (ByteArray × Int)
 | 0, _, _, _, _, _ => none
 | k + 1, x1, x2, x8, x9, x10 => if 0 ≤ x9 then (if x9 < (x1.length : Int) then (if x10 < ((rd_LIns x1 x9).length : Int) then (if 0 ≤ x10 then ((cubbyref08_word.f k ((rd_TIns (rd_LIns x1 x9) x10).f0) x2).bind fun t365 => ((cubbyref08_numbers.f k ((rd_TIns (rd_LIns x1 x9) x10).f0) ((rd_TIns (rd_LIns x1 x9) x10).f1) ((rd_TIns (rd_LIns x1 x9) x10).f2) ((rd_TIns (rd_LIns x1 x9) x10).f3) ((rd_TIns (rd_LIns x1 x9) x10).f4) ((rd_TIns (rd_LIns x1 x9) x10).f5) x2).bind fun t366 => ((cubbyref08_line.f k t365 ((rd_TIns (rd_LIns x1 x9) x10).f4) (((rd_TIns (rd_LIns x1 x9) x10).f0) == 11) 1 t366).bind fun bt369 => (if bt369.2 = 0 then (if x8.size + bt369.1.size ≤ 9223372036854775807 then (cubbyref08_print.l1 k x1 x2 (x8 ++ bt369.1) x9 (wrap64 (x10 + 1))) else (none)) else (some ((⟨#[]⟩ : ByteArray), bt369.2)))))) else (none)) else (cubbyref08_print.l0 k x1 x2 x8 (wrap64 (x9 + 1)))) else (none)) else (none)
end
def cubbyref08_print.f (k : Nat) (a0 : ByteArray) (l1 : List (List (SIns))) (a2 : Bool) : Option (ByteArray × Int) := cubbyref08_print.l0 k l1 a2 a0 0
def cubbyref08_print.T10 : Bool × List (List Nat × List Nat) := (true, [([], []), ([0], [0]), ([], []), ([1, 2], [1, 2]), ([], []), ([4], [4]), ([], []), ([6], [6]), ([7], [7]), ([], []), ([], []), ([9, 10, 3], [9, 10]), ([3, 5, 8, 11, 11], [3, 5, 8, 11]), ([12], [12]), ([13], [13]), ([13], [13]), ([14, 12, 0, 1, 2, 3, 4, 5, 6, 7, 8, 9, 10, 11, 12, 13, 14], [14]), ([15, 16, 0, 1, 2, 3, 4, 5, 6, 7, 8, 9, 10, 11, 12, 13, 14, 15, 16], [15])])
def cubbyref08_print.B10 : List Nat := [0, 1, 0, 7, 0, 16, 0, 64, 192, 0, 0, 1551, 4095, 8191, 16383, 16383, 32767, 131071]
theorem cubbyref08_print.tab10 : rtab .any (opsOf Tryd.f21 10) = cubbyref08_print.T10 := by kernel_rfl
theorem cubbyref08_print.bits10 : waitsOk cubbyref08_print.T10.2 cubbyref08_print.B10 = true := by kernel_rfl
set_option maxHeartbeats 8000000 in
set_option maxRecDepth 100000 in
theorem cubbyref08_print.calls (k : Nat) (a0 : ByteArray) (A1 : Option Addr) (c1 : Nat) (l1 : List (List (SIns))) (a2 : Bool) (r1 : ByteArray) (r2 : Int) (w : World) (hr1 : Kd.C (Kd.slice 43 kIns) w A1 l1.length l1) (hc1 : l1.length ≤ c1) (h : cubbyref08_print.f k a0 l1 a2 = some (r1, r2)) :
 Calls Tryd.prog 21 #[.string a0, .slice A1 l1.length c1, .bool a2] w fun e w' => e = .returned (.tuple #[.string r1, .int .i64 r2]) ∧ Below w.heap.size w w' := by
 have hu43 := Tryd.underlying43
 have HR1 := zA hr1
 have HC1 := zA hc1
 clear hr1 hc1
 have HB := zA (Below.refl w.heap.size w)
 have H := h; clear h; unfold cubbyref08_print.f at H
 have H' := zA H
 clear H
 go_enter Tryd.func21, Tryd.ntmps21
 go_wp2
 go_loopg [8, 9] k (fun kq v8 v9 w' => ∃ (x8_1 : ByteArray) (x9_1 : Int), v8 = .string x8_1 ∧ v9 = .int .i64 x9_1 ∧ Aside0 (cubbyref08_print.l0 kq l1 a2 x8_1 x9_1 = some (r1, r2)) ∧ Aside0 (kq ≤ k) ∧ Aside0 (Below w.heap.size w w'))
 case atStart => exact ⟨(a0), (0), qT, qT, H', ⟨Nat.le_refl _⟩, ⟨qB⟩⟩
 case round =>
  clear H'
  try clear c1; try clear c2; try clear p2
  obtain ⟨x8_1, x9_1, rfl, rfl, HA, HK1, HB⟩ := hrel
  cases gk with
  | zero => exact absurd HA.out (by simp [cubbyref08_print.l0])
  | succ k1 =>
   have H := HA.out
   clear HA
   simp only [cubbyref08_print.l0] at H
   by_cases c4 : x9_1 < (l1.length : Int)
   ·rw [zC c4] at H
    have c4b0 := zF c4
    clear c4
    by_cases c5 : x8_1.size + 6 ≤ 9223372036854775807
    ·rw [zC c5] at H
     have c5b0 := eq_true c5
     have c5b1 := zF c5
     try have c5b2 : (9223372036854775807 < x8_1.size + 6) = False := eq_false (Nat.not_lt.2 c5)
     have H' := zA H
     clear H
     go_wp2
     go_loopg [8, 10] k1 (fun kq v8 v10 w' => ∃ (x8_2 : ByteArray) (x10_2 : Int), v8 = .string x8_2 ∧ v10 = .int .i64 x10_2 ∧ Aside0 (cubbyref08_print.l1 kq l1 a2 x8_2 x9_1 x10_2 = some (r1, r2)) ∧ Aside0 (kq ≤ k1) ∧ Aside0 (Below w.heap.size w w'))
     case atStart => exact ⟨(x8_1 ++ (⟨#[98, 108, 111, 99, 107, 10]⟩ : ByteArray)), (0), qT, qT, H', ⟨Nat.le_refl _⟩, ⟨qB⟩⟩
     case round =>
      clear H'
      try clear c1; try clear c2; try clear p2; try clear c4b0; try clear c5; try clear c5b0 c5b1 c5b2
      obtain ⟨x8_2, x10_2, rfl, rfl, HA, HK2, HB⟩ := hrel
      cases gk with
      | zero => exact absurd HA.out (by simp [cubbyref08_print.l1])
      | succ k2 =>
       have H := HA.out
       clear HA
       simp only [cubbyref08_print.l1] at H
       by_cases c6 : 0 ≤ x9_1
       ·rw [zC c6] at H
        have c6b0 := zF c6
        clear c6
        by_cases c7 : x9_1 < (l1.length : Int)
        ·rw [zC c7] at H
         have c7b0 := zF c7
         clear c7
         by_cases c8 : x10_2 < ((rd_LIns l1 x9_1).length : Int)
         ·rw [zC c8] at H
          have c8b0 := zF c8
          clear c8
          by_cases c9 : 0 ≤ x10_2
          ·rw [zC c9] at H
           have c9b0 := zF c9
           clear c9
           replace H := qb H; obtain ⟨t365, A10, H⟩ := H
           replace H := qb H; obtain ⟨t366, A11, H⟩ := H
           replace H := Option.bind_eq_some_iff.mp H
           obtain ⟨⟨t369, t370⟩, A120, H⟩ := H
           replace H : (if t370 = 0 then (if x8_2.size + t369.size ≤ 9223372036854775807 then (cubbyref08_print.l1 k2 l1 a2 (x8_2 ++ t369) x9_1 (wrap64 (x10_2 + 1))) else (none)) else (some ((⟨#[]⟩ : ByteArray), t370))) = some (r1, r2) := H
           have A12 := zA A120
           clear A120
           by_cases c13 : t370 = 0
           ·rw [zC c13] at H
            obtain ⟨c13b0, c13b1⟩ := qe c13; clear c13
            by_cases c14 : x8_2.size + t369.size ≤ 9223372036854775807
            ·rw [zC c14] at H
             have c14b0 := eq_true c14
             have c14b1 := zF c14
             try have c14b2 : (9223372036854775807 < x8_2.size + t369.size) = False := eq_false (Nat.not_lt.2 c14)
             have H' := zA H
             clear H
             have p361 : 0 ≤ (x9_1 : Int) := zB qA
             have q361 : x9_1 < (l1.length : Int) := zB qA
             obtain ⟨ad361, A361_0, c361_0, e361, hx361_0, hl361_0, hi361_0⟩ := at_LIns HR1.out x9_1 p361 q361
             cases e361
             replace hx361_0 := (HB.out.cell (zE w _ hx361_0)).trans hx361_0
             have HR361_0 := zA hi361_0
             have HC361_0 := zA hl361_0
             clear hi361_0 hl361_0
             replace p361 := eq_true p361
             replace q361 := eq_true q361
             have p362 : 0 ≤ (x9_1 : Int) := zB qA
             have q362 : x9_1 < (l1.length : Int) := zB qA
             obtain ⟨ad362, A362_0, c362_0, e362, hx362_0, hl362_0, hi362_0⟩ := at_LIns HR1.out x9_1 p362 q362
             obtain rfl : ad361 = ad362 := (by injection e362)
             replace hx362_0 := (HB.out.cell (zE w _ hx362_0)).trans hx362_0
             have HR362_0 := zA hi362_0
             have HC362_0 := zA hl362_0
             clear hi362_0 hl362_0
             replace p362 := eq_true p362
             replace q362 := eq_true q362
             have ea_ := zI (hx361_0.symm.trans hx362_0)
             injection ea_ with ea_ en_ ec_
             subst ea_
             subst ec_
             clear en_
             have p363 : 0 ≤ (x10_2 : Int) := zB qA
             have q363 : x10_2 < ((rd_LIns l1 x9_1).length : Int) := zB qA
             obtain ⟨ad363, A363_5, c363_5, e363, hx363_0, hx363_1, hx363_2, hx363_3, hx363_4, hx363_5, hl363_5, hi363_5⟩ := at_TIns HR362_0.out x10_2 p363 q363
             cases e363
             replace hx363_0 := (HB.out.cell (zE w _ hx363_0)).trans hx363_0
             replace hx363_1 := (HB.out.cell (zE w _ hx363_1)).trans hx363_1
             replace hx363_2 := (HB.out.cell (zE w _ hx363_2)).trans hx363_2
             replace hx363_3 := (HB.out.cell (zE w _ hx363_3)).trans hx363_3
             replace hx363_4 := (HB.out.cell (zE w _ hx363_4)).trans hx363_4
             replace hx363_5 := (HB.out.cell (zE w _ hx363_5)).trans hx363_5
             have HR363_5 := zA hi363_5
             have HC363_5 := zA hl363_5
             clear hi363_5 hl363_5
             replace p363 := eq_true p363
             replace q363 := eq_true q363
             try go_wp2_with (first | ((with_reducible refine gate_dst (N := 11) rfl ?_); refine box_event (by rfl) (N := 11) (by rfl) (cs := #[.int .i64 0, .int .i64 0, .int .i64 0, .int .i64 0, .string (⟨#[]⟩ : ByteArray), .slice none 0 0]) (t := 43) ?hr ?_; (case hr => go_simp <;> rfl); intro gb364 hg w15 hbox hb; have BK364 := zA (hbox); have GW364 := qG hg; have GE364 := GW364; replace HB := qH hb; clear hb hbox hg; have z16_0 := bk6 BK364.out))
             have n0_ : Aside0 (((((((w15.setCell ⟨gb364, 0, none⟩ (.int .i64 ((rd_TIns (rd_LIns l1 x9_1) x10_2).f0))).setCell ⟨gb364, 1, none⟩ (.int .i64 ((rd_TIns (rd_LIns l1 x9_1) x10_2).f1))).setCell ⟨gb364, 2, none⟩ (.int .i64 ((rd_TIns (rd_LIns l1 x9_1) x10_2).f2))).setCell ⟨gb364, 3, none⟩ (.int .i64 ((rd_TIns (rd_LIns l1 x9_1) x10_2).f3))).setCell ⟨gb364, 4, none⟩ (.string ((rd_TIns (rd_LIns l1 x9_1) x10_2).f4))).setCell ⟨gb364, 5, none⟩ (.slice A363_5 ((rd_TIns (rd_LIns l1 x9_1) x10_2).f5).length c363_5)).heap[gb364]? = some (.cells #[.int .i64 ((rd_TIns (rd_LIns l1 x9_1) x10_2).f0), .int .i64 ((rd_TIns (rd_LIns l1 x9_1) x10_2).f1), .int .i64 ((rd_TIns (rd_LIns l1 x9_1) x10_2).f2), .int .i64 ((rd_TIns (rd_LIns l1 x9_1) x10_2).f3), .string ((rd_TIns (rd_LIns l1 x9_1) x10_2).f4), .slice A363_5 ((rd_TIns (rd_LIns l1 x9_1) x10_2).f5).length c363_5] 43 (0, 0))) := ⟨by (with_reducible repeat (first | refine blk_drewN ?_ _ | refine blk_drew ?_ | refine blk_alloc ?_ _)); refine blk_put (cs := #[.int .i64 ((rd_TIns (rd_LIns l1 x9_1) x10_2).f0), .int .i64 ((rd_TIns (rd_LIns l1 x9_1) x10_2).f1), .int .i64 ((rd_TIns (rd_LIns l1 x9_1) x10_2).f2), .int .i64 ((rd_TIns (rd_LIns l1 x9_1) x10_2).f3), .string ((rd_TIns (rd_LIns l1 x9_1) x10_2).f4), .slice none 0 0]) ?_ 5 _ rfl; (with_reducible repeat (first | refine blk_drewN ?_ _ | refine blk_drew ?_ | refine blk_alloc ?_ _)); refine blk_put (cs := #[.int .i64 ((rd_TIns (rd_LIns l1 x9_1) x10_2).f0), .int .i64 ((rd_TIns (rd_LIns l1 x9_1) x10_2).f1), .int .i64 ((rd_TIns (rd_LIns l1 x9_1) x10_2).f2), .int .i64 ((rd_TIns (rd_LIns l1 x9_1) x10_2).f3), .string (⟨#[]⟩ : ByteArray), .slice none 0 0]) ?_ 4 _ rfl; (with_reducible repeat (first | refine blk_drewN ?_ _ | refine blk_drew ?_ | refine blk_alloc ?_ _)); refine blk_put (cs := #[.int .i64 ((rd_TIns (rd_LIns l1 x9_1) x10_2).f0), .int .i64 ((rd_TIns (rd_LIns l1 x9_1) x10_2).f1), .int .i64 ((rd_TIns (rd_LIns l1 x9_1) x10_2).f2), .int .i64 0, .string (⟨#[]⟩ : ByteArray), .slice none 0 0]) ?_ 3 _ rfl; (with_reducible repeat (first | refine blk_drewN ?_ _ | refine blk_drew ?_ | refine blk_alloc ?_ _)); refine blk_put (cs := #[.int .i64 ((rd_TIns (rd_LIns l1 x9_1) x10_2).f0), .int .i64 ((rd_TIns (rd_LIns l1 x9_1) x10_2).f1), .int .i64 0, .int .i64 0, .string (⟨#[]⟩ : ByteArray), .slice none 0 0]) ?_ 2 _ rfl; (with_reducible repeat (first | refine blk_drewN ?_ _ | refine blk_drew ?_ | refine blk_alloc ?_ _)); refine blk_put (cs := #[.int .i64 ((rd_TIns (rd_LIns l1 x9_1) x10_2).f0), .int .i64 0, .int .i64 0, .int .i64 0, .string (⟨#[]⟩ : ByteArray), .slice none 0 0]) ?_ 1 _ rfl; (with_reducible repeat (first | refine blk_drewN ?_ _ | refine blk_drew ?_ | refine blk_alloc ?_ _)); refine blk_put (cs := #[.int .i64 0, .int .i64 0, .int .i64 0, .int .i64 0, .string (⟨#[]⟩ : ByteArray), .slice none 0 0]) ?_ 0 _ rfl; (with_reducible repeat (first | refine blk_drewN ?_ _ | refine blk_drew ?_ | refine blk_alloc ?_ _)); exact BK364.out⟩
             have n1_ : Aside0 (Below w.heap.size w ((((((w15.setCell ⟨gb364, 0, none⟩ (.int .i64 ((rd_TIns (rd_LIns l1 x9_1) x10_2).f0))).setCell ⟨gb364, 1, none⟩ (.int .i64 ((rd_TIns (rd_LIns l1 x9_1) x10_2).f1))).setCell ⟨gb364, 2, none⟩ (.int .i64 ((rd_TIns (rd_LIns l1 x9_1) x10_2).f2))).setCell ⟨gb364, 3, none⟩ (.int .i64 ((rd_TIns (rd_LIns l1 x9_1) x10_2).f3))).setCell ⟨gb364, 4, none⟩ (.string ((rd_TIns (rd_LIns l1 x9_1) x10_2).f4))).setCell ⟨gb364, 5, none⟩ (.slice A363_5 ((rd_TIns (rd_LIns l1 x9_1) x10_2).f5).length c363_5))) := ⟨qB⟩
             (try clear BK364)
             (try clear HB)
             generalize ((((((w15.setCell ⟨gb364, 0, none⟩ (.int .i64 ((rd_TIns (rd_LIns l1 x9_1) x10_2).f0))).setCell ⟨gb364, 1, none⟩ (.int .i64 ((rd_TIns (rd_LIns l1 x9_1) x10_2).f1))).setCell ⟨gb364, 2, none⟩ (.int .i64 ((rd_TIns (rd_LIns l1 x9_1) x10_2).f2))).setCell ⟨gb364, 3, none⟩ (.int .i64 ((rd_TIns (rd_LIns l1 x9_1) x10_2).f3))).setCell ⟨gb364, 4, none⟩ (.string ((rd_TIns (rd_LIns l1 x9_1) x10_2).f4))).setCell ⟨gb364, 5, none⟩ (.slice A363_5 ((rd_TIns (rd_LIns l1 x9_1) x10_2).f5).length c363_5)) = w17 at n0_ n1_ ⊢
             have BK364 := n0_
             have HB := n1_
             clear n0_ n1_
             have n0_ := zA (blk_drew BK364.out)
             have n1_ := zA (below_drew1 HB.out)
             clear BK364
             clear HB
             have BK364 := n0_
             have HB := n1_
             clear n0_ n1_
             refine start_ (n := 18) (S := fun w' => w'.cell? ⟨gb364, 0, none⟩ = some (.int .i64 ((rd_TIns (rd_LIns l1 x9_1) x10_2).f0)) ∧ w'.cell? ⟨gb364, 1, none⟩ = some (.int .i64 ((rd_TIns (rd_LIns l1 x9_1) x10_2).f1)) ∧ w'.cell? ⟨gb364, 2, none⟩ = some (.int .i64 ((rd_TIns (rd_LIns l1 x9_1) x10_2).f2)) ∧ w'.cell? ⟨gb364, 3, none⟩ = some (.int .i64 ((rd_TIns (rd_LIns l1 x9_1) x10_2).f3)) ∧ w'.cell? ⟨gb364, 4, none⟩ = some (.string ((rd_TIns (rd_LIns l1 x9_1) x10_2).f4)) ∧ w'.cell? ⟨gb364, 5, none⟩ = some (.slice A363_5 ((rd_TIns (rd_LIns l1 x9_1) x10_2).f5).length c363_5)) (ds := []) (bA 18 0) (by kernel_rfl) rfl rfl ⟨(blk_cell BK364.out 0).trans rfl, (blk_cell BK364.out 1).trans rfl, (blk_cell BK364.out 2).trans rfl, (blk_cell BK364.out 3).trans rfl, (blk_cell BK364.out 4).trans rfl, (blk_cell BK364.out 5).trans rfl⟩ (fun hHeld => ?_); refine with_tabW cubbyref08_print.tab10 cubbyref08_print.bits10 (fun HT_ HW_ => ?_)
             generalize w17.drew = w18 at BK364 HB hHeld ⊢
             refine pu_ (i := 0) (N := some 40) (bA 18 1) ?_
             refine pu_ (i := 2) (N := some 42) (bA 18 5) ?_
             refine pu_ (i := 4) (N := some 44) (bA 18 21) ?_
             refine pu_ (i := 6) (N := some 46) (bA 18 85) ?_
             refine pu_ (i := 10) (N := some 50) (bA 18 1109) ?_
             refine tk_ (i := 1) (N := some 41) (bA 18 1111) ?_
             refine tk_ (i := 5) (N := some 45) (bA 18 1143) ?_
             refine tk_ (i := 7) (N := some 47) (bA 18 1271) ?_
             refine pu_ (i := 8) (N := some 48) (bA 18 1527) ?_
             refine tk_ (i := 9) (N := some 49) (bA 18 2039) ?_
             refine one_ (i := 3) (N := some 43) (bA 18 2047) rfl rfl (one_of HT_.out (by kernel_rfl)) (by decide) (fun K hK => ?_)
             refine goes_ Tryd.func36 (by kernel_rfl) rfl #[.int .i64 ((rd_TIns (rd_LIns l1 x9_1) x10_2).f0), .bool a2] (by rfl) rfl rfl qL ?_
             with_reducible refine (cubbyref08_word.calls k2 ((rd_TIns (rd_LIns l1 x9_1) x10_2).f0) a2 t365 _ A10.out).mono ?_
             rintro e w19 ⟨rfl, hb⟩
             refine ⟨_, rfl, ?_⟩
             have n0_ := qW BK364 hb
             have n1_ := qH hb
             clear BK364
             clear HB
             have BK364 := n0_
             have HB := n1_
             clear n0_ n1_
             (try clear hb)
             (try clear hb2)
             (try clear hk)
             (try clear hi)
             refine hK.out _ _ ⟨(blk_cell BK364.out 0).trans rfl, (blk_cell BK364.out 1).trans rfl, (blk_cell BK364.out 2).trans rfl, (blk_cell BK364.out 3).trans rfl, (blk_cell BK364.out 4).trans rfl, (blk_cell BK364.out 5).trans rfl⟩ (fun hHeld => ?_)
             clear hK K
             refine norm_ (a' := ?_) ?_ ?_
             rotate_left
             ·show Act.put _ (some 43) _ = _
              simp only [Act.put, List.setIfInBounds_toArray, List.set_cons_zero, List.set_cons_succ, i64_w, i32_w]
              rfl
             refine one_ (i := 11) (N := some 51) (bA 18 4095) rfl rfl (one_of HT_.out (by kernel_rfl)) (by decide) (fun K hK => ?_)
             refine goes_ Tryd.func37 (by kernel_rfl) rfl #[.agg #[.int .i64 ((rd_TIns (rd_LIns l1 x9_1) x10_2).f0), .int .i64 ((rd_TIns (rd_LIns l1 x9_1) x10_2).f1), .int .i64 ((rd_TIns (rd_LIns l1 x9_1) x10_2).f2), .int .i64 ((rd_TIns (rd_LIns l1 x9_1) x10_2).f3), .string ((rd_TIns (rd_LIns l1 x9_1) x10_2).f4), .slice A363_5 ((rd_TIns (rd_LIns l1 x9_1) x10_2).f5).length c363_5], .bool a2] (by rfl) rfl rfl qL ?_
             with_reducible refine (cubbyref08_numbers.calls k2 ((rd_TIns (rd_LIns l1 x9_1) x10_2).f0) ((rd_TIns (rd_LIns l1 x9_1) x10_2).f1) ((rd_TIns (rd_LIns l1 x9_1) x10_2).f2) ((rd_TIns (rd_LIns l1 x9_1) x10_2).f3) ((rd_TIns (rd_LIns l1 x9_1) x10_2).f4) _ _ ((rd_TIns (rd_LIns l1 x9_1) x10_2).f5) a2 t366 _ ?side1 ?side2 A11.out).mono ?_
             (case side1 => exact qCB HR363_5.out)
             (case side2 => exact HC363_5.out)
             rintro e w20 ⟨v367, rfl, ho0, hb⟩
             refine ⟨_, rfl, ?_⟩
             have n0_ := zA (Kd.R_lower ho0 (below_size qB))
             have n1_ := qW BK364 hb
             have n2_ := qH hb
             clear BK364
             clear HB
             have HO368 := n0_
             have BK364 := n1_
             have HB := n2_
             clear n0_ n1_ n2_
             (try clear hb)
             (try clear hb2)
             (try clear hk)
             (try clear hi)
             (try clear ho0)
             obtain ⟨Ao21, co21, eo21⟩ := Kd.R_slice HO368.out
             (first | subst eo21 | (injection eo21 with f1_ f2_ f3_; have f4_ := f1_.symm; have f5_ := f3_.symm; clear f1_ f2_ f3_; subst f4_; subst f5_))
             refine hK.out _ _ ⟨(blk_cell BK364.out 0).trans rfl, (blk_cell BK364.out 1).trans rfl, (blk_cell BK364.out 2).trans rfl, (blk_cell BK364.out 3).trans rfl, (blk_cell BK364.out 4).trans rfl, (blk_cell BK364.out 5).trans rfl⟩ (fun hHeld => ?_)
             clear hK K
             refine norm_ (a' := ?_) ?_ ?_
             rotate_left
             ·show Act.put _ (some 51) _ = _
              simp only [Act.put, List.setIfInBounds_toArray, List.set_cons_zero, List.set_cons_succ, i64_w, i32_w]
              rfl
             refine one_ (i := 12) (N := some 52) (bA 18 8191) rfl rfl (one_of HT_.out (by kernel_rfl)) (by decide) (fun K hK => ?_)
             refine goes_ Tryd.func20 (by kernel_rfl) rfl #[.string t365, .string ((rd_TIns (rd_LIns l1 x9_1) x10_2).f4), .bool (((rd_TIns (rd_LIns l1 x9_1) x10_2).f0) == 11), .int .i64 1, .slice Ao21 t366.length co21] (by rfl) rfl rfl qL ?_
             with_reducible refine (cubbyref08_line.calls k2 t365 ((rd_TIns (rd_LIns l1 x9_1) x10_2).f4) (((rd_TIns (rd_LIns l1 x9_1) x10_2).f0) == 11) 1 _ _ t366 t369 t370 _ ?side1 ?side2 A12.out).mono ?_
             (case side1 => repeat (first | exact (Kd.R_reads' HO368.out).2.2 | (with_reducible refine Kd.C_alloc ?_ _) | (with_reducible refine Kd.C_drewN ?_ _) | (with_reducible refine Kd.C_drew ?_)))
             (case side2 => exact (Kd.R_reads' HO368.out).2.1)
             rintro e w' ⟨rfl, ⟨nd, rfl⟩⟩
             refine ⟨_, rfl, ?_⟩
             refine hK.out _ _ ⟨(blk_cell BK364.out 0).trans rfl, (blk_cell BK364.out 1).trans rfl, (blk_cell BK364.out 2).trans rfl, (blk_cell BK364.out 3).trans rfl, (blk_cell BK364.out 4).trans rfl, (blk_cell BK364.out 5).trans rfl⟩ (fun hHeld => ?_)
             clear hK K
             refine norm_ (a' := ?_) ?_ ?_
             rotate_left
             ·show Act.put _ (some 52) _ = _
              simp only [Act.put, List.setIfInBounds_toArray, List.set_cons_zero, List.set_cons_succ, i64_w, i32_w]
              rfl
             refine pu_ (i := 13) (N := some 39) (bA 18 16383) ?_
             refine pu_ (i := 14) (N := some 53) (bA 18 32767) ?_
             refine pu_ (i := 15) (N := some 54) (bA 18 65535) ?_
             refine pu_ (i := 16) (N := some 12) (bA 18 131071) ?_
             refine pu_ (i := 17) (N := some 13) (bA 18 262143) ?_
             refine done_ (done_of HT_.out (by kernel_rfl)) ?_
             try go_wp2
             go_roundg k2
             case measure => have := HK1.out; have := HK2.out; omega
             case rel => exact ⟨(x8_2 ++ t369), (wrap64 (x10_2 + 1)), qT, qT, H', ⟨by have := HK1.out; have := HK2.out; omega⟩, ⟨qB⟩⟩
            ·rw [zD c14] at H
             exact absurd H (by simp)
           ·rw [zD c13] at H
            obtain ⟨c13b0, c13b1⟩ := qn c13
            simp only [Option.some.injEq, Prod.mk.injEq] at H
            obtain ⟨rfl, rfl⟩ := H
            have p361 : 0 ≤ (x9_1 : Int) := zB qA
            have q361 : x9_1 < (l1.length : Int) := zB qA
            obtain ⟨ad361, A361_0, c361_0, e361, hx361_0, hl361_0, hi361_0⟩ := at_LIns HR1.out x9_1 p361 q361
            cases e361
            replace hx361_0 := (HB.out.cell (zE w _ hx361_0)).trans hx361_0
            have HR361_0 := zA hi361_0
            have HC361_0 := zA hl361_0
            clear hi361_0 hl361_0
            replace p361 := eq_true p361
            replace q361 := eq_true q361
            have p362 : 0 ≤ (x9_1 : Int) := zB qA
            have q362 : x9_1 < (l1.length : Int) := zB qA
            obtain ⟨ad362, A362_0, c362_0, e362, hx362_0, hl362_0, hi362_0⟩ := at_LIns HR1.out x9_1 p362 q362
            obtain rfl : ad361 = ad362 := (by injection e362)
            replace hx362_0 := (HB.out.cell (zE w _ hx362_0)).trans hx362_0
            have HR362_0 := zA hi362_0
            have HC362_0 := zA hl362_0
            clear hi362_0 hl362_0
            replace p362 := eq_true p362
            replace q362 := eq_true q362
            have ea_ := zI (hx361_0.symm.trans hx362_0)
            injection ea_ with ea_ en_ ec_
            subst ea_
            subst ec_
            clear en_
            have p363 : 0 ≤ (x10_2 : Int) := zB qA
            have q363 : x10_2 < ((rd_LIns l1 x9_1).length : Int) := zB qA
            obtain ⟨ad363, A363_5, c363_5, e363, hx363_0, hx363_1, hx363_2, hx363_3, hx363_4, hx363_5, hl363_5, hi363_5⟩ := at_TIns HR362_0.out x10_2 p363 q363
            cases e363
            replace hx363_0 := (HB.out.cell (zE w _ hx363_0)).trans hx363_0
            replace hx363_1 := (HB.out.cell (zE w _ hx363_1)).trans hx363_1
            replace hx363_2 := (HB.out.cell (zE w _ hx363_2)).trans hx363_2
            replace hx363_3 := (HB.out.cell (zE w _ hx363_3)).trans hx363_3
            replace hx363_4 := (HB.out.cell (zE w _ hx363_4)).trans hx363_4
            replace hx363_5 := (HB.out.cell (zE w _ hx363_5)).trans hx363_5
            have HR363_5 := zA hi363_5
            have HC363_5 := zA hl363_5
            clear hi363_5 hl363_5
            replace p363 := eq_true p363
            replace q363 := eq_true q363
            try go_wp2_with (first | ((with_reducible refine gate_dst (N := 11) rfl ?_); refine box_event (by rfl) (N := 11) (by rfl) (cs := #[.int .i64 0, .int .i64 0, .int .i64 0, .int .i64 0, .string (⟨#[]⟩ : ByteArray), .slice none 0 0]) (t := 43) ?hr ?_; (case hr => go_simp <;> rfl); intro gb364 hg w22 hbox hb; have BK364 := zA (hbox); have GW364 := qG hg; have GE364 := GW364; replace HB := qH hb; clear hb hbox hg; have z23_0 := bk6 BK364.out))
            have n0_ : Aside0 (((((((w22.setCell ⟨gb364, 0, none⟩ (.int .i64 ((rd_TIns (rd_LIns l1 x9_1) x10_2).f0))).setCell ⟨gb364, 1, none⟩ (.int .i64 ((rd_TIns (rd_LIns l1 x9_1) x10_2).f1))).setCell ⟨gb364, 2, none⟩ (.int .i64 ((rd_TIns (rd_LIns l1 x9_1) x10_2).f2))).setCell ⟨gb364, 3, none⟩ (.int .i64 ((rd_TIns (rd_LIns l1 x9_1) x10_2).f3))).setCell ⟨gb364, 4, none⟩ (.string ((rd_TIns (rd_LIns l1 x9_1) x10_2).f4))).setCell ⟨gb364, 5, none⟩ (.slice A363_5 ((rd_TIns (rd_LIns l1 x9_1) x10_2).f5).length c363_5)).heap[gb364]? = some (.cells #[.int .i64 ((rd_TIns (rd_LIns l1 x9_1) x10_2).f0), .int .i64 ((rd_TIns (rd_LIns l1 x9_1) x10_2).f1), .int .i64 ((rd_TIns (rd_LIns l1 x9_1) x10_2).f2), .int .i64 ((rd_TIns (rd_LIns l1 x9_1) x10_2).f3), .string ((rd_TIns (rd_LIns l1 x9_1) x10_2).f4), .slice A363_5 ((rd_TIns (rd_LIns l1 x9_1) x10_2).f5).length c363_5] 43 (0, 0))) := ⟨by (with_reducible repeat (first | refine blk_drewN ?_ _ | refine blk_drew ?_ | refine blk_alloc ?_ _)); refine blk_put (cs := #[.int .i64 ((rd_TIns (rd_LIns l1 x9_1) x10_2).f0), .int .i64 ((rd_TIns (rd_LIns l1 x9_1) x10_2).f1), .int .i64 ((rd_TIns (rd_LIns l1 x9_1) x10_2).f2), .int .i64 ((rd_TIns (rd_LIns l1 x9_1) x10_2).f3), .string ((rd_TIns (rd_LIns l1 x9_1) x10_2).f4), .slice none 0 0]) ?_ 5 _ rfl; (with_reducible repeat (first | refine blk_drewN ?_ _ | refine blk_drew ?_ | refine blk_alloc ?_ _)); refine blk_put (cs := #[.int .i64 ((rd_TIns (rd_LIns l1 x9_1) x10_2).f0), .int .i64 ((rd_TIns (rd_LIns l1 x9_1) x10_2).f1), .int .i64 ((rd_TIns (rd_LIns l1 x9_1) x10_2).f2), .int .i64 ((rd_TIns (rd_LIns l1 x9_1) x10_2).f3), .string (⟨#[]⟩ : ByteArray), .slice none 0 0]) ?_ 4 _ rfl; (with_reducible repeat (first | refine blk_drewN ?_ _ | refine blk_drew ?_ | refine blk_alloc ?_ _)); refine blk_put (cs := #[.int .i64 ((rd_TIns (rd_LIns l1 x9_1) x10_2).f0), .int .i64 ((rd_TIns (rd_LIns l1 x9_1) x10_2).f1), .int .i64 ((rd_TIns (rd_LIns l1 x9_1) x10_2).f2), .int .i64 0, .string (⟨#[]⟩ : ByteArray), .slice none 0 0]) ?_ 3 _ rfl; (with_reducible repeat (first | refine blk_drewN ?_ _ | refine blk_drew ?_ | refine blk_alloc ?_ _)); refine blk_put (cs := #[.int .i64 ((rd_TIns (rd_LIns l1 x9_1) x10_2).f0), .int .i64 ((rd_TIns (rd_LIns l1 x9_1) x10_2).f1), .int .i64 0, .int .i64 0, .string (⟨#[]⟩ : ByteArray), .slice none 0 0]) ?_ 2 _ rfl; (with_reducible repeat (first | refine blk_drewN ?_ _ | refine blk_drew ?_ | refine blk_alloc ?_ _)); refine blk_put (cs := #[.int .i64 ((rd_TIns (rd_LIns l1 x9_1) x10_2).f0), .int .i64 0, .int .i64 0, .int .i64 0, .string (⟨#[]⟩ : ByteArray), .slice none 0 0]) ?_ 1 _ rfl; (with_reducible repeat (first | refine blk_drewN ?_ _ | refine blk_drew ?_ | refine blk_alloc ?_ _)); refine blk_put (cs := #[.int .i64 0, .int .i64 0, .int .i64 0, .int .i64 0, .string (⟨#[]⟩ : ByteArray), .slice none 0 0]) ?_ 0 _ rfl; (with_reducible repeat (first | refine blk_drewN ?_ _ | refine blk_drew ?_ | refine blk_alloc ?_ _)); exact BK364.out⟩
            have n1_ : Aside0 (Below w.heap.size w ((((((w22.setCell ⟨gb364, 0, none⟩ (.int .i64 ((rd_TIns (rd_LIns l1 x9_1) x10_2).f0))).setCell ⟨gb364, 1, none⟩ (.int .i64 ((rd_TIns (rd_LIns l1 x9_1) x10_2).f1))).setCell ⟨gb364, 2, none⟩ (.int .i64 ((rd_TIns (rd_LIns l1 x9_1) x10_2).f2))).setCell ⟨gb364, 3, none⟩ (.int .i64 ((rd_TIns (rd_LIns l1 x9_1) x10_2).f3))).setCell ⟨gb364, 4, none⟩ (.string ((rd_TIns (rd_LIns l1 x9_1) x10_2).f4))).setCell ⟨gb364, 5, none⟩ (.slice A363_5 ((rd_TIns (rd_LIns l1 x9_1) x10_2).f5).length c363_5))) := ⟨qB⟩
            (try clear BK364)
            (try clear HB)
            generalize ((((((w22.setCell ⟨gb364, 0, none⟩ (.int .i64 ((rd_TIns (rd_LIns l1 x9_1) x10_2).f0))).setCell ⟨gb364, 1, none⟩ (.int .i64 ((rd_TIns (rd_LIns l1 x9_1) x10_2).f1))).setCell ⟨gb364, 2, none⟩ (.int .i64 ((rd_TIns (rd_LIns l1 x9_1) x10_2).f2))).setCell ⟨gb364, 3, none⟩ (.int .i64 ((rd_TIns (rd_LIns l1 x9_1) x10_2).f3))).setCell ⟨gb364, 4, none⟩ (.string ((rd_TIns (rd_LIns l1 x9_1) x10_2).f4))).setCell ⟨gb364, 5, none⟩ (.slice A363_5 ((rd_TIns (rd_LIns l1 x9_1) x10_2).f5).length c363_5)) = w24 at n0_ n1_ ⊢
            have BK364 := n0_
            have HB := n1_
            clear n0_ n1_
            have n0_ := zA (blk_drew BK364.out)
            have n1_ := zA (below_drew1 HB.out)
            clear BK364
            clear HB
            have BK364 := n0_
            have HB := n1_
            clear n0_ n1_
            refine start_ (n := 18) (S := fun w' => w'.cell? ⟨gb364, 0, none⟩ = some (.int .i64 ((rd_TIns (rd_LIns l1 x9_1) x10_2).f0)) ∧ w'.cell? ⟨gb364, 1, none⟩ = some (.int .i64 ((rd_TIns (rd_LIns l1 x9_1) x10_2).f1)) ∧ w'.cell? ⟨gb364, 2, none⟩ = some (.int .i64 ((rd_TIns (rd_LIns l1 x9_1) x10_2).f2)) ∧ w'.cell? ⟨gb364, 3, none⟩ = some (.int .i64 ((rd_TIns (rd_LIns l1 x9_1) x10_2).f3)) ∧ w'.cell? ⟨gb364, 4, none⟩ = some (.string ((rd_TIns (rd_LIns l1 x9_1) x10_2).f4)) ∧ w'.cell? ⟨gb364, 5, none⟩ = some (.slice A363_5 ((rd_TIns (rd_LIns l1 x9_1) x10_2).f5).length c363_5)) (ds := []) (bA 18 0) (by kernel_rfl) rfl rfl ⟨(blk_cell BK364.out 0).trans rfl, (blk_cell BK364.out 1).trans rfl, (blk_cell BK364.out 2).trans rfl, (blk_cell BK364.out 3).trans rfl, (blk_cell BK364.out 4).trans rfl, (blk_cell BK364.out 5).trans rfl⟩ (fun hHeld => ?_); refine with_tabW cubbyref08_print.tab10 cubbyref08_print.bits10 (fun HT_ HW_ => ?_)
            generalize w24.drew = w25 at BK364 HB hHeld ⊢
            refine pu_ (i := 0) (N := some 40) (bA 18 1) ?_
            refine pu_ (i := 2) (N := some 42) (bA 18 5) ?_
            refine pu_ (i := 4) (N := some 44) (bA 18 21) ?_
            refine pu_ (i := 6) (N := some 46) (bA 18 85) ?_
            refine pu_ (i := 10) (N := some 50) (bA 18 1109) ?_
            refine tk_ (i := 1) (N := some 41) (bA 18 1111) ?_
            refine tk_ (i := 5) (N := some 45) (bA 18 1143) ?_
            refine tk_ (i := 7) (N := some 47) (bA 18 1271) ?_
            refine pu_ (i := 8) (N := some 48) (bA 18 1527) ?_
            refine tk_ (i := 9) (N := some 49) (bA 18 2039) ?_
            refine one_ (i := 3) (N := some 43) (bA 18 2047) rfl rfl (one_of HT_.out (by kernel_rfl)) (by decide) (fun K hK => ?_)
            refine goes_ Tryd.func36 (by kernel_rfl) rfl #[.int .i64 ((rd_TIns (rd_LIns l1 x9_1) x10_2).f0), .bool a2] (by rfl) rfl rfl qL ?_
            with_reducible refine (cubbyref08_word.calls k2 ((rd_TIns (rd_LIns l1 x9_1) x10_2).f0) a2 t365 _ A10.out).mono ?_
            rintro e w26 ⟨rfl, hb⟩
            refine ⟨_, rfl, ?_⟩
            have n0_ := qW BK364 hb
            have n1_ := qH hb
            clear BK364
            clear HB
            have BK364 := n0_
            have HB := n1_
            clear n0_ n1_
            (try clear hb)
            (try clear hb2)
            (try clear hk)
            (try clear hi)
            refine hK.out _ _ ⟨(blk_cell BK364.out 0).trans rfl, (blk_cell BK364.out 1).trans rfl, (blk_cell BK364.out 2).trans rfl, (blk_cell BK364.out 3).trans rfl, (blk_cell BK364.out 4).trans rfl, (blk_cell BK364.out 5).trans rfl⟩ (fun hHeld => ?_)
            clear hK K
            refine norm_ (a' := ?_) ?_ ?_
            rotate_left
            ·show Act.put _ (some 43) _ = _
             simp only [Act.put, List.setIfInBounds_toArray, List.set_cons_zero, List.set_cons_succ, i64_w, i32_w]
             rfl
            refine one_ (i := 11) (N := some 51) (bA 18 4095) rfl rfl (one_of HT_.out (by kernel_rfl)) (by decide) (fun K hK => ?_)
            refine goes_ Tryd.func37 (by kernel_rfl) rfl #[.agg #[.int .i64 ((rd_TIns (rd_LIns l1 x9_1) x10_2).f0), .int .i64 ((rd_TIns (rd_LIns l1 x9_1) x10_2).f1), .int .i64 ((rd_TIns (rd_LIns l1 x9_1) x10_2).f2), .int .i64 ((rd_TIns (rd_LIns l1 x9_1) x10_2).f3), .string ((rd_TIns (rd_LIns l1 x9_1) x10_2).f4), .slice A363_5 ((rd_TIns (rd_LIns l1 x9_1) x10_2).f5).length c363_5], .bool a2] (by rfl) rfl rfl qL ?_
            with_reducible refine (cubbyref08_numbers.calls k2 ((rd_TIns (rd_LIns l1 x9_1) x10_2).f0) ((rd_TIns (rd_LIns l1 x9_1) x10_2).f1) ((rd_TIns (rd_LIns l1 x9_1) x10_2).f2) ((rd_TIns (rd_LIns l1 x9_1) x10_2).f3) ((rd_TIns (rd_LIns l1 x9_1) x10_2).f4) _ _ ((rd_TIns (rd_LIns l1 x9_1) x10_2).f5) a2 t366 _ ?side1 ?side2 A11.out).mono ?_
            (case side1 => exact qCB HR363_5.out)
            (case side2 => exact HC363_5.out)
            rintro e w27 ⟨v367, rfl, ho0, hb⟩
            refine ⟨_, rfl, ?_⟩
            have n0_ := zA (Kd.R_lower ho0 (below_size qB))
            have n1_ := qW BK364 hb
            have n2_ := qH hb
            clear BK364
            clear HB
            have HO368 := n0_
            have BK364 := n1_
            have HB := n2_
            clear n0_ n1_ n2_
            (try clear hb)
            (try clear hb2)
            (try clear hk)
            (try clear hi)
            (try clear ho0)
            obtain ⟨Ao28, co28, eo28⟩ := Kd.R_slice HO368.out
            (first | subst eo28 | (injection eo28 with f1_ f2_ f3_; have f4_ := f1_.symm; have f5_ := f3_.symm; clear f1_ f2_ f3_; subst f4_; subst f5_))
            refine hK.out _ _ ⟨(blk_cell BK364.out 0).trans rfl, (blk_cell BK364.out 1).trans rfl, (blk_cell BK364.out 2).trans rfl, (blk_cell BK364.out 3).trans rfl, (blk_cell BK364.out 4).trans rfl, (blk_cell BK364.out 5).trans rfl⟩ (fun hHeld => ?_)
            clear hK K
            refine norm_ (a' := ?_) ?_ ?_
            rotate_left
            ·show Act.put _ (some 51) _ = _
             simp only [Act.put, List.setIfInBounds_toArray, List.set_cons_zero, List.set_cons_succ, i64_w, i32_w]
             rfl
            refine one_ (i := 12) (N := some 52) (bA 18 8191) rfl rfl (one_of HT_.out (by kernel_rfl)) (by decide) (fun K hK => ?_)
            refine goes_ Tryd.func20 (by kernel_rfl) rfl #[.string t365, .string ((rd_TIns (rd_LIns l1 x9_1) x10_2).f4), .bool (((rd_TIns (rd_LIns l1 x9_1) x10_2).f0) == 11), .int .i64 1, .slice Ao28 t366.length co28] (by rfl) rfl rfl qL ?_
            with_reducible refine (cubbyref08_line.calls k2 t365 ((rd_TIns (rd_LIns l1 x9_1) x10_2).f4) (((rd_TIns (rd_LIns l1 x9_1) x10_2).f0) == 11) 1 _ _ t366 t369 t370 _ ?side1 ?side2 A12.out).mono ?_
            (case side1 => repeat (first | exact (Kd.R_reads' HO368.out).2.2 | (with_reducible refine Kd.C_alloc ?_ _) | (with_reducible refine Kd.C_drewN ?_ _) | (with_reducible refine Kd.C_drew ?_)))
            (case side2 => exact (Kd.R_reads' HO368.out).2.1)
            rintro e w' ⟨rfl, ⟨nd, rfl⟩⟩
            refine ⟨_, rfl, ?_⟩
            refine hK.out _ _ ⟨(blk_cell BK364.out 0).trans rfl, (blk_cell BK364.out 1).trans rfl, (blk_cell BK364.out 2).trans rfl, (blk_cell BK364.out 3).trans rfl, (blk_cell BK364.out 4).trans rfl, (blk_cell BK364.out 5).trans rfl⟩ (fun hHeld => ?_)
            clear hK K
            refine norm_ (a' := ?_) ?_ ?_
            rotate_left
            ·show Act.put _ (some 52) _ = _
             simp only [Act.put, List.setIfInBounds_toArray, List.set_cons_zero, List.set_cons_succ, i64_w, i32_w]
             rfl
            refine pu_ (i := 13) (N := some 39) (bA 18 16383) ?_
            refine pu_ (i := 14) (N := some 53) (bA 18 32767) ?_
            refine pu_ (i := 15) (N := some 54) (bA 18 65535) ?_
            refine pu_ (i := 16) (N := some 12) (bA 18 131071) ?_
            refine pu_ (i := 17) (N := some 13) (bA 18 262143) ?_
            refine done_ (done_of HT_.out (by kernel_rfl)) ?_
            try go_wp2
            go_ret2
            exact ⟨qE, qB⟩
          ·rw [zD c9] at H
           exact absurd H (by simp)
         ·rw [zD c8] at H
          have c8b0 := zG c8
          clear c8
          have H' := zA H
          clear H
          have p361 : 0 ≤ (x9_1 : Int) := zB qA
          have q361 : x9_1 < (l1.length : Int) := zB qA
          obtain ⟨ad361, A361_0, c361_0, e361, hx361_0, hl361_0, hi361_0⟩ := at_LIns HR1.out x9_1 p361 q361
          cases e361
          replace hx361_0 := (HB.out.cell (zE w _ hx361_0)).trans hx361_0
          have HR361_0 := zA hi361_0
          have HC361_0 := zA hl361_0
          clear hi361_0 hl361_0
          replace p361 := eq_true p361
          replace q361 := eq_true q361
          go_wp2
          go_roundg k2
          case measure => have := HK1.out; have := HK2.out; omega
          case rel => exact ⟨(x8_2), (wrap64 (x9_1 + 1)), qT, qT, H', ⟨by have := HK1.out; have := HK2.out; omega⟩, ⟨qB⟩⟩
        ·rw [zD c7] at H
         exact absurd H (by simp)
       ·rw [zD c6] at H
        exact absurd H (by simp)
    ·rw [zD c5] at H
     exact absurd H (by simp)
   ·rw [zD c4] at H
    have c4b0 := zG c4
    clear c4
    simp only [Option.some.injEq, Prod.mk.injEq] at H
    obtain ⟨rfl, rfl⟩ := H
    go_wp2
    go_ret2
    exact ⟨qE, qB⟩

def cubbyref08_Print.f (k : Nat) (a0_0 : ByteArray) (a0_1 : Int) (a0_2 : Int) (l0_3 : List (List (SIns))) : Option (ByteArray × Int) := (cubbyref08_line.f k (⟨#[102, 117, 110, 99]⟩ : ByteArray) a0_0 true 0 (([a0_1, a0_2] : List Int))).bind fun bt375 => (if bt375.2 = 0 then ((cubbyref08_print.f k bt375.1 l0_3 false).bind fun bt377 => (some (bt377.1, bt377.2))) else (some ((⟨#[]⟩ : ByteArray), bt375.2)))
set_option maxHeartbeats 8000000 in
set_option maxRecDepth 100000 in
theorem cubbyref08_Print.calls (k : Nat) (a0_0 : ByteArray) (a0_1 : Int) (a0_2 : Int) (A0_3 : Option Addr) (c0_3 : Nat) (l0_3 : List (List (SIns))) (r1 : ByteArray) (r2 : Int) (w : World) (hr0_3 : Kd.C (Kd.slice 43 kIns) w A0_3 l0_3.length l0_3) (hc0_3 : l0_3.length ≤ c0_3) (h : cubbyref08_Print.f k a0_0 a0_1 a0_2 l0_3 = some (r1, r2)) :
 Calls Tryd.prog 9 #[.agg #[.string a0_0, .int .i64 a0_1, .int .i64 a0_2, .slice A0_3 l0_3.length c0_3]] w fun e w' => e = .returned (.tuple #[.string r1, .int .i64 r2]) ∧ Below w.heap.size w w' := by
 have hu24 := Tryd.underlying24
 have HR0_3 := zA hr0_3
 have HC0_3 := zA hc0_3
 clear hr0_3 hc0_3
 have HB := zA (Below.refl w.heap.size w)
 have H := h; clear h; unfold cubbyref08_Print.f at H
 obtain ⟨y372, hy372⟩ : ∃ y_ : List Int, y_ = (([a0_1, a0_2] : List Int)) := ⟨_, rfl⟩
 replace H : ((cubbyref08_line.f k (⟨#[102, 117, 110, 99]⟩ : ByteArray) a0_0 true 0 y372).bind fun bt375 => (if bt375.2 = 0 then ((cubbyref08_print.f k bt375.1 l0_3 false).bind fun bt377 => (some (bt377.1, bt377.2))) else (some ((⟨#[]⟩ : ByteArray), bt375.2)))) = some (r1, r2) := by (try rw [hy372]); first | with_reducible exact H | exact (zJ _ _).symm.trans H | exact H
 have Ny372 := zA hy372
 clear hy372
 replace H := Option.bind_eq_some_iff.mp H
 obtain ⟨⟨t375, t376⟩, A20, H⟩ := H
 replace H : (if t376 = 0 then ((cubbyref08_print.f k t375 l0_3 false).bind fun bt377 => (some (bt377.1, bt377.2))) else (some ((⟨#[]⟩ : ByteArray), t376))) = some (r1, r2) := H
 have A2 := zA A20
 clear A20
 by_cases c3 : t376 = 0
 ·rw [zC c3] at H
  obtain ⟨c3b0, c3b1⟩ := qe c3; clear c3
  replace H := Option.bind_eq_some_iff.mp H
  obtain ⟨⟨t377, t378⟩, A40, H⟩ := H
  replace H : (some (t377, t378)) = some (r1, r2) := H
  have A4 := zA A40
  clear A40
  simp only [Option.some.injEq, Prod.mk.injEq] at H
  obtain ⟨rfl, rfl⟩ := H
  go_enter Tryd.func9, Tryd.ntmps9
  go_wp2_with (first | ((with_reducible refine gate_dst (N := 1) rfl ?_); refine box_event (by rfl) (N := 1) (by rfl) (cs := #[.string a0_0, .int .i64 a0_1, .int .i64 a0_2, .slice A0_3 l0_3.length c0_3]) (t := 24) ?hr ?_; (case hr => go_simp <;> rfl); intro gb371 hg w5 hbox hb; have BK371 := zA (hbox); have GW371 := qG hg; have GE371 := GW371; replace HB := qH hb; clear hb hbox hg; have z6_0 := bk4 BK371.out) | ((with_reducible refine gate_dst (N := 11) rfl ?_); refine Kd.R_lit (Kd.int .i64) _ 3 (by rfl) (N := 11) (by rfl) (xs := ([a0_1, a0_2] : List Int)) (inner := [.int .i64 a0_1, .int .i64 a0_2]) (ok := fun _ => True) (okp := fun _ => True) ?hr ?hp (fun _ hk => hk) trivial (Below.refl _ _) (Nat.le_refl _) (by simp) ?_; (case hr => go_simp <;> rfl); (case hp => exact (Reps.one (show Kd.M (Kd.int .i64) _ _ _ a0_1 [.int .i64 a0_1] from rfl) (Reps.one (show Kd.M (Kd.int .i64) _ _ _ a0_2 [.int .i64 a0_2] from rfl) (Reps.none _ _)))); intro v373 w7 ho8 hb hg_ hnew_; clear hg_ hnew_; (first | rw [← Ny372.out] at ho8 | (simp only [Int.reduceToNat] at ho8; rw [← Ny372.out] at ho8)); have HO374 := zA (Kd.R_lower ho8 (below_size qB)); replace BK371 := qW BK371 hb; replace HB := qH hb; clear hb ho8; have z9_0 := bk4 BK371.out; obtain ⟨Ao10, co10, eo10⟩ := Kd.R_slice HO374.out; subst eo10) | ((with_reducible refine gate_callee (f := 20) rfl ?_); refine goesL_ (some 16) rfl rfl Tryd.func20 (by kernel_rfl) rfl #[.string (⟨#[102, 117, 110, 99]⟩ : ByteArray), .string a0_0, .bool true, .int .i64 0, .slice Ao10 y372.length co10] rfl qL ?_; (with_reducible refine (cubbyref08_line.calls k (⟨#[102, 117, 110, 99]⟩ : ByteArray) a0_0 true 0 _ _ y372 t375 t376 _ ?side1 ?side2 A2.out).mono ?_); (case side1 => repeat (first | exact (Kd.R_reads' HO374.out).2.2 | (with_reducible refine Kd.C_alloc ?_ _) | (with_reducible refine Kd.C_drewN ?_ _) | (with_reducible refine Kd.C_drew ?_))); (case side2 => exact (Kd.R_reads' HO374.out).2.1); rintro e w' ⟨rfl, ⟨nd, rfl⟩⟩; refine ⟨_, rfl, ?_⟩) | ((with_reducible refine gate_callee (f := 21) rfl ?_); refine goesL_ (some 25) rfl rfl Tryd.func21 (by kernel_rfl) rfl #[.string t375, .slice A0_3 l0_3.length c0_3, .bool false] rfl qL ?_; (with_reducible refine (cubbyref08_print.calls k t375 _ _ l0_3 false t377 t378 _ ?side1 ?side2 A4.out).mono ?_); (case side1 => repeat (first | exact (Kd.C_below HR0_3.out qB) | (with_reducible refine Kd.C_alloc ?_ _) | (with_reducible refine Kd.C_drewN ?_ _) | (with_reducible refine Kd.C_drew ?_))); (case side2 => exact HC0_3.out); rintro e w11 ⟨rfl, hb⟩; refine ⟨_, rfl, ?_⟩; replace HO374 := zA (Kd.R_below (qR HO374.out) hb); replace BK371 := qW BK371 hb; replace HB := qH hb; (try clear hb)))
  go_ret2
  exact ⟨qE, qB⟩
 ·rw [zD c3] at H
  obtain ⟨c3b0, c3b1⟩ := qn c3
  simp only [Option.some.injEq, Prod.mk.injEq] at H
  obtain ⟨rfl, rfl⟩ := H
  go_enter Tryd.func9, Tryd.ntmps9
  go_wp2_with (first | ((with_reducible refine gate_dst (N := 1) rfl ?_); refine box_event (by rfl) (N := 1) (by rfl) (cs := #[.string a0_0, .int .i64 a0_1, .int .i64 a0_2, .slice A0_3 l0_3.length c0_3]) (t := 24) ?hr ?_; (case hr => go_simp <;> rfl); intro gb371 hg w12 hbox hb; have BK371 := zA (hbox); have GW371 := qG hg; have GE371 := GW371; replace HB := qH hb; clear hb hbox hg; have z13_0 := bk4 BK371.out) | ((with_reducible refine gate_dst (N := 11) rfl ?_); refine Kd.R_lit (Kd.int .i64) _ 3 (by rfl) (N := 11) (by rfl) (xs := ([a0_1, a0_2] : List Int)) (inner := [.int .i64 a0_1, .int .i64 a0_2]) (ok := fun _ => True) (okp := fun _ => True) ?hr ?hp (fun _ hk => hk) trivial (Below.refl _ _) (Nat.le_refl _) (by simp) ?_; (case hr => go_simp <;> rfl); (case hp => exact (Reps.one (show Kd.M (Kd.int .i64) _ _ _ a0_1 [.int .i64 a0_1] from rfl) (Reps.one (show Kd.M (Kd.int .i64) _ _ _ a0_2 [.int .i64 a0_2] from rfl) (Reps.none _ _)))); intro v373 w14 ho15 hb hg_ hnew_; clear hg_ hnew_; (first | rw [← Ny372.out] at ho15 | (simp only [Int.reduceToNat] at ho15; rw [← Ny372.out] at ho15)); have HO374 := zA (Kd.R_lower ho15 (below_size qB)); replace BK371 := qW BK371 hb; replace HB := qH hb; clear hb ho15; have z16_0 := bk4 BK371.out; obtain ⟨Ao17, co17, eo17⟩ := Kd.R_slice HO374.out; subst eo17) | ((with_reducible refine gate_callee (f := 20) rfl ?_); refine goesL_ (some 16) rfl rfl Tryd.func20 (by kernel_rfl) rfl #[.string (⟨#[102, 117, 110, 99]⟩ : ByteArray), .string a0_0, .bool true, .int .i64 0, .slice Ao17 y372.length co17] rfl qL ?_; (with_reducible refine (cubbyref08_line.calls k (⟨#[102, 117, 110, 99]⟩ : ByteArray) a0_0 true 0 _ _ y372 t375 t376 _ ?side1 ?side2 A2.out).mono ?_); (case side1 => repeat (first | exact (Kd.R_reads' HO374.out).2.2 | (with_reducible refine Kd.C_alloc ?_ _) | (with_reducible refine Kd.C_drewN ?_ _) | (with_reducible refine Kd.C_drew ?_))); (case side2 => exact (Kd.R_reads' HO374.out).2.1); rintro e w' ⟨rfl, ⟨nd, rfl⟩⟩; refine ⟨_, rfl, ?_⟩))
  go_ret2
  exact ⟨qE, qB⟩
end Go.Proofs.YtniknpjeknmpjaaDoor.Q
namespace Go.Proofs.YtniknpjeknmpjaaDoor.Q
open Go.RowKit Go.Shelf Go.Proofs.YtniknpjeknmpjaaDoorW.PrintWords Go.Proofs.YtniknpjeknmpjaaDoorW.PrintLast Go.Proofs.YtniknpjeknmpjaaDoorW.PrintMore
set_option linter.unusedVariables false
set_option linter.unusedSimpArgs false
attribute [local go_sem] Oper.semAt_some
def cutB (s : ByteArray) : ByteArray × ByteArray := if 0 ≤ Lib.indexByte s.data.toList 10 then (s.extract 0 ((Lib.indexByte s.data.toList 10).toNat + 1), s.extract ((Lib.indexByte s.data.toList 10).toNat + 1) s.size) else (s, ⟨#[]⟩)
theorem cutB_pos {s : ByteArray} {i : Nat} (h : Lib.indexByte s.data.toList 10 = (i : Int)) : cutB s = (s.extract 0 (i + 1), s.extract (i + 1) s.size) := by
 unfold cutB
 rw [h, zC (by omega), Int.toNat_natCast]
theorem cutB_neg {s : ByteArray} (h : ¬ 0 ≤ Lib.indexByte s.data.toList 10) : cutB s = (s, ⟨#[]⟩) := zD h
theorem indexByte_lt : ∀ {l : List UInt8} {b : UInt8} {i : Nat}, Lib.indexByte l b = (i : Int) → i < l.length
 | [], b, i, h => by simp only [Lib.indexByte] at h; omega
 | c :: l, b, i, h => by
  unfold Lib.indexByte at h
  split at h
  ·have : i = 0 := by omega
   subst this; simp
  ·have hge := Lib.indexByte_ge l b
   split at h
   ·omega
   ·next h2 =>
    have h3 : Lib.indexByte l b ≠ -1 := by simpa using h2
    obtain ⟨q, hq⟩ : ∃ q : Nat, Lib.indexByte l b = q := ⟨(Lib.indexByte l b).toNat, by omega⟩
    have := indexByte_lt hq
    simp; omega
theorem cutB_less {s : ByteArray} (h : s.size ≠ 0) : (cutB s).2.size < s.size := by
 by_cases h0 : 0 ≤ Lib.indexByte s.data.toList 10
 ·obtain ⟨i, hi⟩ : ∃ i : Nat, Lib.indexByte s.data.toList 10 = i := ⟨_, (Int.toNat_of_nonneg h0).symm⟩
  have hl : s.data.toList.length = s.size := by simp
  have := indexByte_lt hi
  rw [cutB_pos hi]
  simp only [ByteArray.size_extract]
  omega
 ·rw [cutB_neg h0]
  have : (⟨#[]⟩ : ByteArray).size = 0 := rfl
  show (⟨#[]⟩ : ByteArray).size < s.size
  omega
def leftAt (Bn : Nat) (w : World) : Nat := match w.cell? ⟨Bn, 0, none⟩ with
 | some (.string s) => s.size
 | _ => 0
theorem leftAt_eq {Bn : Nat} {w : World} {s : ByteArray} (h : w.cell? ⟨Bn, 0, none⟩ = some (.string s)) : leftAt Bn w = s.size := by unfold leftAt; rw [h]
set_option maxRecDepth 100000 in
set_option maxHeartbeats 4000000 in
theorem lines1_in (m l Bn : Nat) (J : ByteArray → World → Prop) (Jx : World → Prop) (hm : 1 ≤ m)
 (hJc : ∀ s W, J s W → W.cell? ⟨Bn, 0, none⟩ = some (.string s) ∧ W.frozen? ⟨Bn, 0, none⟩ = false ∧ s.size ≤ 1000000) (hJd : ∀ s W, J s W → J s W.drew)
 (hY : ∀ s W, J s W → s.size ≠ 0 → YieldAt Fence.wide (m - 1) Tryd.prog l #[.string (cutB s).1] (W.setCell ⟨Bn, 0, none⟩ (.string (cutB s).2)) fun e W' => (e = .returned (.bool true) ∧ J (cutB s).2 W') ∨ (e = .returned (.bool false) ∧ Jx W'))
 (s0 : ByteArray) (W : World) (h0 : J s0 W) :
 CallsIn Fence.wide m Tryd.prog 52 #[.func (.yield l) #[] #[], .pointer (some ⟨Bn, 0, none⟩)] W fun e W' => (∃ v, e = .returned v) ∧ ((∃ s : ByteArray, s.size = 0 ∧ J s W') ∨ Jx W') := by
 refine callsIn_of_wp Tryd.func52 rfl trivial ?_ rfl
 simp only [Tryd.ntmps52, List.size_toArray, List.length_cons, List.length_nil, Nat.reduceAdd, Nat.reduceSub, Array.replicate_succ, Array.replicate_zero, List.push_toArray, List.append_toArray, List.nil_append, List.cons_append]
 gi_wp2
 gi_loopw [3] (fun p wr => ∃ s, J s wr) (fun p wr => leftAt Bn wr)
 case atStart => exact ⟨s0, h0⟩
 case round =>
  obtain ⟨s, hJ⟩ := hrel
  obtain ⟨hc, hf, hsz⟩ := hJc s _ hJ
  by_cases hz : s.size = 0
  ·have d1 := zG (show ¬ (0 : Int) < (s.size : Int) by omega)
   have d2 := zG (show ¬ 0 < s.size by omega)
   gi_wp2
   go_end0
   exact ⟨⟨_, rfl⟩, .inl ⟨s, hz, hJ⟩⟩
  ·have d1 := zF (show (0 : Int) < (s.size : Int) by omega)
   have d2 := zF (show 0 < s.size by omega)
   by_cases hi : 0 ≤ Lib.indexByte s.data.toList 10
   ·obtain ⟨i, hidx⟩ : ∃ i : Nat, Lib.indexByte s.data.toList 10 = i := ⟨_, (Int.toNat_of_nonneg hi).symm⟩
    have hil := indexByte_lt hidx
    have hsl : s.data.toList.length = s.size := by simp
    have hy0 := hY s wr.drew (hJd _ _ hJ) hz
    have hcl := cutB_less hz
    rw [cutB_pos hidx] at hy0 hcl
    obtain ⟨fn, tmps, assign, body, hy, hR⟩ := hy0
    dsimp only at hy hR hcl
    replace hy : (Instr.yield l #[.string (s.extract 0 (i + 1))]).run Tryd.prog ((wr.setCell ⟨Bn, 0, none⟩ (.string (s.extract (i + 1) s.size))).drew) = .ok (.round l fn tmps assign body) ((wr.setCell ⟨Bn, 0, none⟩ (.string (s.extract (i + 1) s.size))).drew) := hy
    replace hR : RoundIn Fence.wide (m - 1) Tryd.prog l fn tmps assign body ((wr.setCell ⟨Bn, 0, none⟩ (.string (s.extract (i + 1) s.size))).drew) _ := hR
    have hleft := leftAt_eq hc
    have hi1 : i < s.size := by omega
    have hi2 : i + 1 ≤ s.size := by omega
    have hi3 := eq_true (show (i : Int) + 1 ≤ (s.size : Int) by omega)
    have hi4 := eq_true (show (0 : Int) ≤ (i : Int) + 1 by omega)
    have hw2 : IntKind.i64.wrap ((i : Int) + 1) = (i : Int) + 1 := by rw [i64_w]; unfold wrap64; omega
    have d3 := zF (show (0 : Int) ≤ (i : Int) by omega)
    have hix : Lib.indexByte s.data.toList ((10 : Int).toNat.toUInt8) = (i : Int) := hidx
    have mixed : Tryd.prog.follows .mixedOrders = true := by kernel_rfl
    clear hY hidx hi
    gi_wp2_with (refine ⟨trivial, ?_⟩; gi_at_call 53; refine (callsIn_wide.2 (Any.strings_IndexByte Tryd.lays137 s 10 _)).mono ?_; rintro e w' ⟨rfl, rfl⟩; rw [hix])
    gi_region_with_o fail
    all_goals
     gi_wp2
     refine hR.mono ?_
     rintro e W3 (⟨rfl, hJ3⟩ | ⟨rfl, hJx3⟩)
     ·gi_wp2
      go_roundw
      case rel => exact ⟨_, hJ3⟩
      case measure => rw [hleft, leftAt_eq (hJc _ _ hJ3).1]; exact hcl
     ·gi_wp2
      refine bodyPost_ret (results_none rfl _ _ _) rfl ?_
      exact ⟨⟨_, rfl⟩, .inr hJx3⟩
   ·have hy0 := hY s wr hJ hz
    have hcl := cutB_less hz
    rw [cutB_neg hi] at hy0 hcl
    obtain ⟨fn, tmps, assign, body, hy, hR⟩ := hy0
    dsimp only at hy hR hcl
    have hleft := leftAt_eq hc
    have d3 := zG hi
    obtain ⟨i, hix⟩ : ∃ i, i = Lib.indexByte s.data.toList 10 := ⟨_, rfl⟩
    rw [← hix] at d3 hi
    have hix : Lib.indexByte s.data.toList ((10 : Int).toNat.toUInt8) = i := hix.symm
    clear hY
    gi_wp2_with (refine ⟨trivial, ?_⟩; gi_at_call 53; refine (callsIn_wide.2 (Any.strings_IndexByte Tryd.lays137 s 10 _)).mono ?_; rintro e w' ⟨rfl, rfl⟩; rw [hix])
    refine hR.mono ?_
    rintro e W3 (⟨rfl, hJ3⟩ | ⟨rfl, hJx3⟩)
    ·gi_wp2
     go_roundw
     case rel => exact ⟨_, hJ3⟩
     case measure => rw [hleft, leftAt_eq (hJc _ _ hJ3).1]; exact hcl
    ·gi_wp2
     refine bodyPost_ret (results_none rfl _ _ _) rfl ?_
     exact ⟨⟨_, rfl⟩, .inr hJx3⟩
end Go.Proofs.YtniknpjeknmpjaaDoor.Q
namespace Go.Proofs.YtniknpjeknmpjaaDoor.Q
open Go.RowKit Go.Shelf Go.Proofs.YtniknpjeknmpjaaDoorW.PrintWords Go.Proofs.YtniknpjeknmpjaaDoorW.PrintLast Go.Proofs.YtniknpjeknmpjaaDoorW.PrintMore
set_option linter.unusedVariables false
set_option linter.unusedSimpArgs false
def Same2 (k : Nat) (W W' : World) : Prop := W'.heap[k]? = W.heap[k]? ∧ W'.heap[k + 1]? = W.heap[k + 1]?
def roundEnd (k : Nat) (I : World → Prop) (Ix : Code → World → Prop) (W : World) : Exit → Act → World → Prop
 | .normal, _, W' => Same2 k W W' ∧ I W'
 | .ret, _, W' => Same2 k W W' ∧ Ix .ret W'
 | _, _, _ => False
def AbPut (k : Nat) (I : World → Prop) : Prop := ∀ W j o, k ≤ j → j ≤ k + 1 → I W → I (W.putObj j o)
set_option maxHeartbeats 2000000 in
theorem wpIn_lines {m B : Nat} {g : Operand} {ps : Array Tmp} {assign body : Code} {Q : Exit → Act → World → Prop} {a : Act} {w : World} (h2 : 2 ≤ m)
 (hg : a.eval g = .func (.func 52) #[] #[.pointer (some ⟨B, 0, none⟩)]) (hps : ps.size = 1)
 (I K : ByteArray → World → Prop) (Ix : Code → World → Prop)
 (hc : ∀ s W, I s W → W.cell? ⟨B, 0, none⟩ = some (.string s) ∧ W.frozen? ⟨B, 0, none⟩ = false ∧ s.size ≤ 1000000) (hB : B < w.heap.size) (hd : ∀ s W, I s W → I s W.drew)
 (hK : ∀ s W, I s W → s.size ≠ 0 → K s (W.setCell ⟨B, 0, none⟩ (.string (cutB s).2)))
 (hIp : ∀ s, AbPut w.heap.size (I s)) (hKp : ∀ s, AbPut w.heap.size (K s)) (hXp : ∀ c, AbPut w.heap.size (Ix c))
 (s0 : ByteArray) (h0 : ∀ o1 o2, I s0 ((w.alloc o1).alloc o2)) (a₁ : ByteArray → Act)
 (hassign : ∀ (l : Nat) (x : ByteArray) (W : World) (K : Act → World → Prop), K (a₁ x) W →
   assign.wpIn (Fence.wide.inRound l) (m - 1 - 1) Tryd.prog (Exit.then K (fun _ _ _ => False)) { tmps := (ps.zip #[Value.string x]).foldl (fun t (p, v) => t.setIfInBounds p v) a.tmps, defers := [] } W)
 (hbody : ∀ (l : Nat) (s : ByteArray) (W : World), K s W → body.wpIn (Fence.wide.inRound l) (m - 1 - 1) Tryd.prog (roundEnd w.heap.size (I (cutB s).2) Ix W) (a₁ (cutB s).1) W)
 (hdone : ∀ (s : ByteArray) (W : World), s.size = 0 → I s W → W.heap[w.heap.size]? = some (.deferred (some [])) → Q .normal { a with defers := { target := .collected w.heap.size, args := #[] } :: a.defers } W)
 (hstop : ∀ (c : Code) (W : World), Ix c W → W.heap[w.heap.size]? = some (.deferred (some [])) → c.wpIn Fence.wide m Tryd.prog Q { a with defers := { target := .collected w.heap.size, args := #[] } :: a.defers } W) :
 (Code.rangeFunc g ps assign body).wpIn Fence.wide m Tryd.prog Q a w := by
 refine wpIn_rangeFunc fun fn hfn => ?_
 obtain ⟨rec, hrec⟩ : ∃ rec : LoopState → Option Code → Loop, rec = fun st pe => { state := st, pending := pe, fn, tmps := a.tmps, params := ps, assign, body, defers := w.heap.size } := ⟨_, rfl⟩
 obtain ⟨W1, hW1⟩ : ∃ W1, W1 = (w.alloc (.deferred (some []))).alloc (.loop (rec .ready none)) := ⟨_, rfl⟩
 have hsz : (w.alloc (.deferred (some []))).heap.size = w.heap.size + 1 := by simp
 have hL1 : W1.heap[w.heap.size + 1]? = some (.loop (rec .ready none)) := by
  rw [hW1, ← hsz]; exact World.alloc_heap_new _ _
 have hK1 : W1.heap[w.heap.size]? = some (.deferred (some [])) := by
  rw [hW1]; exact (Below.heap_alloc _ _ _ (by rw [hsz]; omega)).trans (World.alloc_heap_new w _)
 have hI1 : I s0 W1 := by rw [hW1]; exact h0 _ _
 have hent : ∀ args w, (callFunc 52 args).run Tryd.prog w = .ok (.enter 52 args) w := enters_of Tryd.func52 (by kernel_rfl) rfl
 refine ⟨w.heap.size + 1, [{ target := .collected w.heap.size, args := #[] }], W1, { target := .fn (.func 52) #[.pointer (some ⟨B, 0, none⟩)], args := #[.func (.yield (w.heap.size + 1)) #[] #[]] }, W1, 52,
  #[.func (.yield (w.heap.size + 1)) #[] #[]] ++ #[.pointer (some ⟨B, 0, none⟩)], W1, ?_, ?_, fun _ _ => trivial, ?_, fun _ => by omega, ?_⟩
 ·rw [hW1, hrec]; exact run_enterLoop_outer _ _ _ _ _
 ·simp only [resolve, hg]
  simp [go_sem]
 ·simp [invoke, go_sem, hent]
 ·refine (lines1_in (m - 1) (w.heap.size + 1) B (fun s W => I s W ∧ W.heap[w.heap.size + 1]? = some (.loop (rec .ready none)) ∧ W.heap[w.heap.size]? = some (.deferred (some [])))
   (fun W => ∃ c, Ix c W ∧ W.heap[w.heap.size + 1]? = some (.loop (rec .done (some c))) ∧ W.heap[w.heap.size]? = some (.deferred (some []))) (by omega) (fun s W h => hc s W h.1) (fun s W h => ⟨hd s W h.1, h.2.1, h.2.2⟩) ?_ s0 W1 ⟨hI1, hL1, hK1⟩).mono ?_
  ·-- a round
   rintro s W ⟨hi, hl, hk⟩ hz
   have hk3 := hK s W hi hz
   have hn1 : w.heap.size + 1 ≠ B := by omega
   have hn2 : w.heap.size ≠ B := by omega
   have hl3 : (W.setCell ⟨B, 0, none⟩ (.string (cutB s).2)).heap[w.heap.size + 1]? = some (.loop (rec .ready none)) := (heap_setCell_other _ _ _ _ hn1).trans hl
   have hd3 : (W.setCell ⟨B, 0, none⟩ (.string (cutB s).2)).heap[w.heap.size]? = some (.deferred (some [])) := (heap_setCell_other _ _ _ _ hn2).trans hk
   generalize W.setCell ⟨B, 0, none⟩ (.string (cutB s).2) = W2 at hk3 hl3 hd3 ⊢
   have hlt : w.heap.size + 1 < W2.heap.size := (Array.getElem?_eq_some_iff.1 hl3).1
   have hy := run_yield (P := Tryd.prog) (args := #[.string (cutB s).1]) hl3 (by rw [hrec]; exact hps.symm)
   rw [hrec] at hy
   refine ⟨fn, _, assign, body, hy, roundIn_of_wpIn hfn (hassign _ _ W2 _ ⟨_, run_beginRound hl3 (by rw [hrec]), ?_⟩)⟩
   have hl2 : (W2.putObj (w.heap.size + 1) (.loop { rec .ready none with state := .busy })).heap[w.heap.size + 1]? = some (.loop { rec .ready none with state := .busy }) := World.putObj_heap_same hlt
   have hd2 : (W2.putObj (w.heap.size + 1) (.loop { rec .ready none with state := .busy })).heap[w.heap.size]? = some (.deferred (some [])) := (World.putObj_heap_other (by omega)).trans hd3
   have hkk := hKp s W2 (w.heap.size + 1) (.loop { rec .ready none with state := .busy }) (by omega) (by omega) hk3
   generalize W2.putObj (w.heap.size + 1) (.loop { rec .ready none with state := .busy }) = W4 at hl2 hd2 hkk ⊢
   refine wpIn_mono (hbody _ s W4 hkk) ?_
   have fin : ∀ (jump : Option Code) (W3 : World), Same2 w.heap.size W4 W3 →
    (Instr.endRound (w.heap.size + 1) jump).run Tryd.prog W3 = .ok (.bool jump.isNone) (W3.putObj (w.heap.size + 1) (.loop (rec (if jump.isNone then .ready else .done) jump))) ∧
    (W3.putObj (w.heap.size + 1) (.loop (rec (if jump.isNone then .ready else .done) jump))).heap[w.heap.size + 1]? = some (.loop (rec (if jump.isNone then .ready else .done) jump)) ∧
    (W3.putObj (w.heap.size + 1) (.loop (rec (if jump.isNone then .ready else .done) jump))).heap[w.heap.size]? = some (.deferred (some [])) := fun jump W3 hs => by
    have hl3 := hs.2.trans hl2
    have hd3 := hs.1.trans hd2
    have := run_endRound (P := Tryd.prog) jump hl3
    rw [hrec] at this ⊢
    exact ⟨this, World.putObj_heap_same (Array.getElem?_eq_some_iff.1 hl3).1, (World.putObj_heap_other (by omega)).trans hd3⟩
   rintro e a3 W3 hp
   cases e with
   | normal =>
    obtain ⟨hs, hi3⟩ := hp
    obtain ⟨hr, hl4, hk4⟩ := fin none W3 hs
    exact ⟨_, _, hr, .inl ⟨rfl, hIp _ _ _ _ (by omega) (by omega) hi3, hl4, hk4⟩⟩
   | ret =>
    obtain ⟨hs, hi3⟩ := hp
    obtain ⟨hr, hl4, hk4⟩ := fin (some .ret) W3 hs
    exact ⟨_, _, hr, .inr ⟨rfl, .ret, hXp _ _ _ _ (by omega) (by omega) hi3, hl4, hk4⟩⟩
   | exit id => exact hp.elim
   | goto t => exact hp.elim
   | panic ch => exact hp.elim
   | outgrown => exact hp.elim
  ·-- behind the iterator
   rintro e W2 ⟨⟨v, rfl⟩, (⟨s, hz, hi, hl, hk⟩ | ⟨c, hi, hl, hk⟩)⟩
   ·exact ⟨none, _, by have := run_endLoop (P := Tryd.prog) hl (by rw [hrec]; simp); rw [hrec] at this; exact this, hdone s _ hz (hIp _ _ _ _ (by omega) (by omega) hi) ((World.putObj_heap_other (by omega)).trans hk)⟩
   ·exact ⟨some c, _, by have := run_endLoop (P := Tryd.prog) hl (by rw [hrec]; simp); rw [hrec] at this; exact this, hstop c _ (hXp _ _ _ _ (by omega) (by omega) hi) ((World.putObj_heap_other (by omega)).trans hk)⟩
end Go.Proofs.YtniknpjeknmpjaaDoor.Q
