/- TextOne: parts of the proofs, put together. -/
import Derived.SizedLaws
import Derived.Deep.Slices
import Derived.ProofKit
import Derived.Test.YtniknpjeknmpjaaGreatDoorProg
import Derived.Below
import Derived.Deep.Draws
import Derived.Deep.AppendLies
import Derived.Maps.AppendAt
import Derived.OwnWalk
import Derived.Laws.BytesArg
import Derived.Laws.MakeOwn
import Derived.Laws.OwnMore
import Derived.Deep.OwnRows
import Derived.Tactics
import Derived.Lib.ConvBytes
import Derived.Laws.Slices
import Derived.WalkKit
import Derived.KernelRfl
import Derived.RowKit3
import Derived.Deep.LoopGhost
import Derived.Deep.QuietTactic
import Derived.BigQuiet
import Derived.WideLaws
import Derived.Deep.DeepCutAuto
import Derived.Deep.CutBlock
import Derived.Deep.RegionHeld3
import Derived.Laws.Rows
import Derived.Lib.AppendStr
import Derived.ArgAppend
import Derived.Laws.IdiomCopy
import Derived.OrdersHeld
import Derived.Laws.BitsLemmas
import Derived.RowKit
import Derived.Ground.NamesProg
import Derived.Shelf.SlGeneric
import Derived.Shelf.LaysM
import Derived.Shelf.Strings.SlTrimAscii
import Derived.Shelf.Strings.Search2
import Derived.Shelf.Strings.Search3
import Derived.Shelf.Strings.Count
import Derived.Shelf.Strings.Split
import Derived.Shelf.Strconv.ErrVarAll
import Derived.Shelf.Strconv.Itoa3
import Derived.Shelf.Strings.OnBuilder
import Derived.Shelf.Small.Wraps
import Derived.Shelf.Strings.Prefix
import Derived.Shelf.Small.Strs
import Derived.Test.YtniknpjeknmpjaaGreatDoorRows
import Derived.Lib.LaidU8
import Derived.Lib.LaidTab
import Derived.Stop.LaidErr
import Derived.Lib.QuietBelow
import Derived.OpenShut
import Derived.RangeFuncNested
import Derived.RangeFuncBound
import Derived.RangeFuncCalls
import Derived.RangeFuncLeaves
import Derived.Shelf.Abstract
import Derived.Shelf.RegionOpen
import Derived.OwnWalkIn
import Derived.TacticsInMore
import Derived.LoopNIn
import Derived.LoopIn
import Derived.Lib.AtoiAllCases
import Derived.Lib.OthersKept
import Derived.Test.YtniknpjeknmpjaaGreatDoorMTextOne1
namespace Go.Proofs.YtniknpjeknmpjaaGreatDoor.Open
open Go Go.Proofs.YtniknpjeknmpjaaGreatDoorW.PrintWords
def Opens (P : Program) (t : TypeId) {α : Type} (d : Kd α) (G : α → Prop) : Prop :=
 P.cellsOf t = d.sz ∧ ∀ {H : Type} (enc : TypeId × Value → H) (w : World) (fuel : Nat) (cs : List Value) (x : DataW H × List MemPlace),
  DataW.trod enc P w 0 (fun _ => true) true fuel t cs = some x → (∀ n ∈ x.1.weights P t, n ≤ 140737488351232) → ∃ y, d.K w y cs ∧ G y
theorem Opens.int {P : Program} {t : TypeId} {k : IntKind} (ht : P.underlying t = some (.int k)) (hc : P.cellsOf t = 1) : Opens P t (Kd.int k) (fun n => (Lit.int k n).wf = true) := by
 refine ⟨hc, fun enc w fuel cs x h _ => ?_⟩
 obtain ⟨n, rfl, _, hw⟩ := DataW.trod_int ht h
 exact ⟨n, rfl, hw⟩
theorem Opens.bool {P : Program} {t : TypeId} (ht : P.underlying t = some .bool) (hc : P.cellsOf t = 1) : Opens P t Kd.bool (fun _ => True) := by
 refine ⟨hc, fun enc w fuel cs x h _ => ?_⟩
 obtain ⟨b, rfl, _⟩ := DataW.trod_bool ht h
 exact ⟨b, rfl, trivial⟩
theorem Opens.string {P : Program} {t : TypeId} (ht : P.underlying t = some .string) (hc : P.cellsOf t = 1) : Opens P t Kd.string (fun s => s.size ≤ 140737488351232) := by
 refine ⟨hc, fun enc w fuel cs x h hz => ?_⟩
 obtain ⟨s, rfl, rfl, _⟩ := DataW.trod_string ht h
 refine ⟨s, rfl, ?_⟩
 have := hz s.data.toList.length (by simp [DataW.weights])
 simpa using this
theorem weightsAll_mem {H : Type} {P : Program} {e : TypeId} : ∀ {l : List (DataW H)} {d : DataW H}, d ∈ l → ∀ n ∈ d.weights P e, n ∈ DataW.weightsAll P e l
 | a :: l, d, hd, n, hn => by
  simp only [DataW.weightsAll, List.mem_append]
  rcases List.mem_cons.1 hd with rfl | hd
  ·exact Or.inl hn
  ·exact Or.inr (weightsAll_mem hd n hn)
theorem choose_list {α : Type} {Q : Nat → α → Prop} : ∀ (n : Nat), (∀ i, i < n → ∃ y, Q i y) → ∃ ys : List α, ys.length = n ∧ ∀ i y, ys[i]? = some y → Q i y
 | 0, _ => ⟨[], rfl, fun i y h => by simp at h⟩
 | n + 1, h => by
  obtain ⟨ys, hl, hq⟩ := choose_list n (fun i hi => h i (by omega))
  obtain ⟨y, hy⟩ := h n (by omega)
  refine ⟨ys ++ [y], by simp [hl], fun i z hz => ?_⟩
  rcases Nat.lt_or_ge i n with hi | hi
  ·rw [List.getElem?_append_left (by omega)] at hz
   exact hq i z hz
  ·rw [List.getElem?_append_right (by omega)] at hz
   have : i = n := by
    have := (List.getElem?_eq_some_iff.1 hz).1
    simp at this
    omega
   subst this
   rw [hl, Nat.sub_self] at hz
   simp at hz
   subst hz
   exact hy
theorem Opens.slice {P : Program} {t e : TypeId} {α : Type} {d : Kd α} {G : α → Prop} {B : Nat} (ht : P.underlying t = some (.slice e)) (hc : P.cellsOf t = 1) (hB : P.bytesOf e = B) (hd : Opens P e d G) :
 Opens P t (Kd.slice e d) (fun xs => xs.length * B ≤ 140737488351232 ∧ xs.length ≤ maxLen ∧ ∀ x ∈ xs, G x) := by
 refine ⟨hc, fun enc w fuel cs x h hz => ?_⟩
 rcases Go.Deep.open_slice ht h with ⟨rfl, rfl⟩ | ⟨a, len, cap, m, n, D, Pl, rfl, _, hl, hm, hmc, rfl, hel⟩
 ·refine ⟨[], ⟨none, 0, rfl, Nat.le_refl _, ?_⟩, by simp [maxLen]⟩
  exact ⟨rfl, by simp, fun h => absurd h (by simp)⟩
 ·replace hmc : m = cap := by rw [hmc]; rfl
  subst hmc
  have hw : ∀ i, i < len → ∀ q ∈ (D i).weights P e, q ≤ 140737488351232 := by
   intro i hi q hq
   apply hz
   simp only [DataW.weights, ht, List.mem_cons, List.mem_append]
   right; left
   exact weightsAll_mem (d := D i) (List.mem_map.2 ⟨i, by simpa using hi, rfl⟩) q hq
  have hbig : (len + (m - len)) * B ≤ 140737488351232 := by
   apply hz
   simp only [DataW.weights, ht, List.mem_cons, List.length_map, List.length_range, hB]
   left; trivial
  obtain ⟨ys, hyl, hys⟩ := choose_list (Q := fun i y => ∃ c, w.cells? 0 (a.add (i * P.cellsOf e)) (P.cellsOf e) = some c ∧ d.K w y c ∧ G y) len (fun i hi => by
   obtain ⟨c, h1, h2⟩ := hel i (by omega)
   obtain ⟨y, hk, hg⟩ := hd.2 enc w _ _ _ h2 (hw i hi)
   exact ⟨y, c, h1, hk, hg⟩)
  refine ⟨ys, ⟨some a, m, by rw [hyl], by omega, ?_⟩, ?_, by omega, ?_⟩
  ·refine ⟨rfl, by unfold maxLen at hm; omega, fun _ => ⟨a, rfl, fun j p hj => ?_⟩⟩
   obtain ⟨c, h1, hk, hg⟩ := hys j p hj
   obtain ⟨_, h3, h4⟩ := World.cells?_some h1
   refine ⟨c, by rw [h3, hd.1], hk, fun i u hu => ?_⟩
   have hi : i < P.cellsOf e := by
    have := (List.getElem?_eq_some_iff.1 hu).1
    omega
   have h5 := h4 i hi
   rw [hu] at h5
   rw [← h5, ← hd.1]
   congr 1
   rw [Addr.add_add]
  ·rw [hyl]
   exact Nat.le_trans (Nat.mul_le_mul_right _ (by omega)) hbig
  ·intro y hy
   obtain ⟨i, hi⟩ := List.getElem?_of_mem hy
   obtain ⟨_, _, _, hg⟩ := hys i y hi
   exact hg
structure OpensFs (P : Program) (fs : List Field) (off : Nat) {α : Type} (d : Kd α) (G : α → Prop) : Prop where
 out : ∀ (H : Type) (enc : TypeId × Value → H) (w : World) (fuel : Nat) (cs : List Value) (xs : List (DataW H × List MemPlace)), cs.length = off + d.sz → xs.length = fs.length →
  (∀ (i : Nat) (f : Field), fs[i]? = some f → DataW.trod enc P w 0 (fun _ => true) true fuel f.type ((cs.drop f.offset).take (P.cellsOf f.type)) = xs[i]?) →
  (∀ n ∈ DataW.weightsEach P (fs.map (·.type)) (xs.map (·.1)), n ≤ 140737488351232) → ∃ y, d.K w y (cs.drop off) ∧ G y
theorem OpensFs.one {P : Program} {f : Field} {off : Nat} {α : Type} {d : Kd α} {G : α → Prop} (ho : f.offset = off) (hd : Opens P f.type d G) : OpensFs P [f] off d G := by
 refine ⟨fun H enc w fuel cs xs hl hx hf hz => ?_⟩
 have h0 := hf 0 f rfl
 obtain ⟨x, rfl⟩ : ∃ x, xs = [x] := by
  match xs, hx with
  | [x], _ => exact ⟨x, rfl⟩
 have h1 : (cs.drop f.offset).take (P.cellsOf f.type) = cs.drop off := by
  rw [ho, hd.1, List.take_of_length_le (by simp; omega)]
 rw [h1] at h0
 exact hd.2 enc w fuel _ x h0 (fun n hn => hz n (by simpa [DataW.weightsEach] using hn))
theorem OpensFs.cons {P : Program} {f : Field} {fs : List Field} {off : Nat} {α β : Type} {d : Kd α} {d2 : Kd β} {G : α → Prop} {G2 : β → Prop} (ho : f.offset = off) (hd : Opens P f.type d G) (h2 : OpensFs P fs (off + d.sz) d2 G2) :
 OpensFs P (f :: fs) off (Kd.pair d d2) (fun y => G y.1 ∧ G2 y.2) := by
 refine ⟨fun H enc w fuel cs xs hl hx hf hz => ?_⟩
 have hp : (Kd.pair d d2).sz = d.sz + d2.sz := rfl
 match xs, hx with
 | x :: xs, hx =>
  have h0 := hf 0 f rfl
  simp only [List.getElem?_cons_zero] at h0
  obtain ⟨y, hk, hg⟩ := hd.2 enc w fuel _ x h0 (fun n hn => hz n (by simp only [List.map_cons, DataW.weightsEach, List.mem_append]; exact Or.inl hn))
  obtain ⟨y2, hk2, hg2⟩ := h2.out H enc w fuel cs xs (by omega) (by simpa using hx) (fun i g hi => by simpa using hf (i + 1) g (by simpa using hi)) (fun n hn => hz n (by simp only [List.map_cons, DataW.weightsEach, List.mem_append]; exact Or.inr hn))
  refine ⟨(y, y2), ⟨_, _, ?_, hk, hk2⟩, hg, hg2⟩
  rw [ho, hd.1, ← List.drop_drop, List.take_append_drop]
theorem Opens.struct {P : Program} {t : TypeId} {fs : Array Field} {α : Type} {d : Kd α} {G : α → Prop} (ht : P.underlying t = some (.struct fs)) (hc : P.cellsOf t = d.sz) (hf : OpensFs P fs.toList 0 d G) : Opens P t d G := by
 refine ⟨hc, fun enc w fuel cs x h hz => ?_⟩
 obtain ⟨xs, n, rfl, rfl, hl, hx, hi⟩ := DataW.trod_struct ht h
 have := hf.out _ enc w n cs xs (by omega) (by simpa using hx) (fun i f h => hi i f (by simpa using h)) (fun q hq => hz q (by simpa [DataW.weights, ht] using hq))
 simpa using this
theorem Opens.iso {P : Program} {t : TypeId} {α β : Type} {d : Kd α} {G : α → Prop} (f : β → α) (g : α → β) (hg : ∀ y, f (g y) = y) (h : Opens P t d G) : Opens P t (Kd.iso d f) (fun x => G (f x)) := by
 refine ⟨h.1, fun enc w fuel cs x hx hz => ?_⟩
 obtain ⟨y, hk, hy⟩ := h.2 enc w fuel cs x hx hz
 exact ⟨g y, by show d.K w (f (g y)) cs; rw [hg]; exact hk, by show G (f (g y)); rw [hg]; exact hy⟩
theorem Opens.imp {P : Program} {t : TypeId} {α : Type} {d : Kd α} {G G' : α → Prop} (h : Opens P t d G) (hG : ∀ y, G y → G' y) : Opens P t d G' :=
 ⟨h.1, fun enc w fuel cs x hx hz => by
  obtain ⟨y, hk, hy⟩ := h.2 enc w fuel cs x hx hz
  exact ⟨y, hk, hG y hy⟩⟩
theorem Opens.arg {P : Program} {t : TypeId} {α : Type} {d : Kd α} {G : α → Prop} (h : Opens P t d G) {H : Type} {enc : TypeId × Value → H} {w : World} {v : Value} {x : DataW H} {ps : List MemPlace} (ht : DataW.Trod enc P w 0 (fun _ => true) true t v x ps)
 {ts : List TypeId} {ds : List (DataW H)} (hsz : (DataW.weightsEach P ts ds).all (· ≤ reachBytes) = true) {j : Nat} (h1 : ts[j]? = some t) (h2 : ds[j]? = some x) : ∃ y, d.K w y v.cells.toList ∧ G y := by
 obtain ⟨fuel, hf⟩ := ht
 refine h.2 enc w fuel _ _ hf (fun n hn => ?_)
 have := List.all_eq_true.1 hsz _ (DataW.weights_mem_each h1 h2 n hn)
 exact zB this
end Go.Proofs.YtniknpjeknmpjaaGreatDoor.Open
namespace Go.Proofs.YtniknpjeknmpjaaGreatDoor.Q
open Go.RowKit Go.Proofs.YtniknpjeknmpjaaGreatDoorW.PrintWords Go.Proofs.YtniknpjeknmpjaaGreatDoorW.PrintLast Go.Proofs.YtniknpjeknmpjaaGreatDoorW.PrintMore
attribute [local go_sem] max2_int min2_int max_two min_two max_three min_three max_four min_four
set_option linter.unusedVariables false
set_option linter.unusedSimpArgs false
def errW : Option Int → Value
 | none => .nilIface
 | some c => .iface 147 (.int .i64 c)
theorem errW_none : errW none = .nilIface := rfl
theorem errW_some (c : Int) : errW (some c) = .iface 147 (.int .i64 c) := rfl
theorem info3 : (Tryz.prog.info? 3).map (fun i => (i.zero, i.size, i.bytes)) = some (some (.int .i64 0), 1, 8) := by kernel_rfl
theorem info9 : (Tryz.prog.info? 9).map (fun i => (i.zero, i.size, i.bytes)) = some (some (.string ⟨#[]⟩), 1, 16) := by kernel_rfl
-- the values' own types

structure SIns where
 f0 : Int
 f1 : Int
 f2 : Int
 f3 : Int
 f4 : ByteArray
 f5 : (List Int)
def zIns : SIns := ⟨(0 : Int), (0 : Int), (0 : Int), (0 : Int), (⟨#[]⟩ : ByteArray), ([] : List Int)⟩
def kIns : Kd SIns := Kd.iso (Kd.pair (Kd.int .i64) (Kd.pair (Kd.int .i64) (Kd.pair (Kd.int .i64) (Kd.pair (Kd.int .i64) (Kd.pair Kd.string (Kd.slice 3 (Kd.int .i64))))))) (fun x : SIns => (x.f0, x.f1, x.f2, x.f3, x.f4, x.f5))
theorem kIns_open {w : World} {x : SIns} {cs : List Value} (h : kIns.K w x cs) : ∃ A5 c5, cs = [.int .i64 x.f0, .int .i64 x.f1, .int .i64 x.f2, .int .i64 x.f3, .string x.f4, .slice A5 x.f5.length c5] ∧ x.f5.length ≤ c5 ∧ (Kd.int .i64).C w A5 x.f5.length x.f5 := by
 obtain ⟨_, _, rfl, rfl, ⟨_, _, rfl, rfl, ⟨_, _, rfl, rfl, ⟨_, _, rfl, rfl, ⟨_, _, rfl, rfl, ⟨A5, c5, rfl, l5, g5⟩⟩⟩⟩⟩⟩ := h
 exact ⟨A5, c5, rfl, l5, g5⟩
theorem kIns_mkM (w : World) (base : Nat) (ok : Nat → Prop) (x : SIns) {v5 : Value} (g5 : (Kd.int .i64).R 3 w base ok v5 x.f5) : kIns.M w base ok x [.int .i64 x.f0, .int .i64 x.f1, .int .i64 x.f2, .int .i64 x.f3, .string x.f4, v5] := ⟨[.int .i64 x.f0], [.int .i64 x.f1, .int .i64 x.f2, .int .i64 x.f3, .string x.f4, v5], rfl, rfl, ⟨[.int .i64 x.f1], [.int .i64 x.f2, .int .i64 x.f3, .string x.f4, v5], rfl, rfl, ⟨[.int .i64 x.f2], [.int .i64 x.f3, .string x.f4, v5], rfl, rfl, ⟨[.int .i64 x.f3], [.string x.f4, v5], rfl, rfl, ⟨[.string x.f4], [v5], rfl, rfl, ⟨v5, rfl, g5⟩⟩⟩⟩⟩⟩
def rd_TIns (xs : List SIns) (i : Int) : SIns := xs.getD i.toNat zIns
theorem at_TIns {w : World} {A : Option Addr} {n : Nat} {xs : List SIns} (h : Kd.C kIns w A n xs) (i : Int) (h0 : 0 ≤ i) (h1 : i < n) : ∃ ad A5 c5, A = some ad ∧ w.cell? (ad.add (i.toNat * 6)) = some (.int .i64 (rd_TIns xs i).f0) ∧ w.cell? ⟨(ad.add (i.toNat * 6)).block, (ad.add (i.toNat * 6)).off + 1, none⟩ = some (.int .i64 (rd_TIns xs i).f1) ∧ w.cell? ⟨(ad.add (i.toNat * 6)).block, (ad.add (i.toNat * 6)).off + 2, none⟩ = some (.int .i64 (rd_TIns xs i).f2) ∧ w.cell? ⟨(ad.add (i.toNat * 6)).block, (ad.add (i.toNat * 6)).off + 3, none⟩ = some (.int .i64 (rd_TIns xs i).f3) ∧ w.cell? ⟨(ad.add (i.toNat * 6)).block, (ad.add (i.toNat * 6)).off + 4, none⟩ = some (.string (rd_TIns xs i).f4) ∧ w.cell? ⟨(ad.add (i.toNat * 6)).block, (ad.add (i.toNat * 6)).off + 5, none⟩ = some (.slice A5 (rd_TIns xs i).f5.length c5) ∧ (rd_TIns xs i).f5.length ≤ c5 ∧ (Kd.int .i64).C w A5 (rd_TIns xs i).f5.length (rd_TIns xs i).f5 := by
 obtain ⟨ad, c, e, _, hK, hc0⟩ := Kd.C_get h zIns i h0 h1
 have hc : ∀ j u, c[j]? = some u → w.cell? (ad.add (i.toNat * 6 + j)) = some u := hc0
 obtain ⟨A5, c5, rfl, l5, g5⟩ := kIns_open hK
 exact ⟨ad, A5, c5, e, hc 0 _ rfl, by rw [← add_field _ _ 1 (by omega)]; exact hc 1 _ rfl, by rw [← add_field _ _ 2 (by omega)]; exact hc 2 _ rfl, by rw [← add_field _ _ 3 (by omega)]; exact hc 3 _ rfl, by rw [← add_field _ _ 4 (by omega)]; exact hc 4 _ rfl, by rw [← add_field _ _ 5 (by omega)]; exact hc 5 _ rfl, l5, g5⟩
def rd_LIns (xs : List (List SIns)) (i : Int) : (List SIns) := xs.getD i.toNat ([] : List SIns)
theorem at_LIns {w : World} {A : Option Addr} {n : Nat} {xs : List (List SIns)} (h : Kd.C (Kd.slice 44 kIns) w A n xs) (i : Int) (h0 : 0 ≤ i) (h1 : i < n) : ∃ ad A0 c0, A = some ad ∧ w.cell? (ad.add i.toNat) = some (.slice A0 (rd_LIns xs i).length c0) ∧ (rd_LIns xs i).length ≤ c0 ∧ kIns.C w A0 (rd_LIns xs i).length (rd_LIns xs i) := by
 obtain ⟨ad, c, e, _, hK, hc0⟩ := Kd.C_get h ([] : List SIns) i h0 h1
 have hc : ∀ j u, c[j]? = some u → w.cell? (ad.add (i.toNat * 1 + j)) = some u := hc0
 obtain ⟨A0, c0, rfl, l0, g0⟩ := hK
 exact ⟨ad, A0, c0, e, by have hq := hc 0 _ rfl; rwa [Nat.mul_one, Nat.add_zero] at hq, l0, g0⟩


end Go.Proofs.YtniknpjeknmpjaaGreatDoor.Q
namespace Go.Proofs.YtniknpjeknmpjaaGreatDoor.Q
open Go.RowKit Go.Proofs.YtniknpjeknmpjaaGreatDoorW.PrintWords Go.Proofs.YtniknpjeknmpjaaGreatDoorW.PrintLast Go.Proofs.YtniknpjeknmpjaaGreatDoorW.PrintMore
set_option linter.unusedVariables false
section
variable {P Q : Prop}
theorem qB (h : P := by repeat (first | (with_reducible first | exact HB.out | apply below_alloc | apply pw_below_drewN | apply below_drew1 | refine below_set ?_ (Aside0.out (by assumption))) | exact HB.out)) : P := h
theorem qA (h : P := by first | (with_reducible assumption) | assumption) : P := h
theorem qE (h : P := by first | rfl | (simp [errW_none, errW_some] <;> rfl) | (simp [*, errW_none, errW_some] <;> rfl)) : P := h
theorem qT (h : P := by first | rfl | (simp; done) | (simp [*]; done)) : P := h
theorem qO (h : P := by first | omega | exact Nat.le_refl _) : P := h
theorem qD (h : P := by repeat (first | exact Drawn0.refl _ | apply Drawn0.step)) : P := h
theorem qL (h : P := by (try simp only [List.map_toArray, List.map_cons, List.map_nil]); first | done | rfl | (simp only [List.length_drop, List.length_take]; rfl)) : P := h
theorem qK (q : Q) (h : Q → P := by intro h_; (with_reducible repeat (first | refine blk_drewN ?_ _ | refine blk_drew ?_ | refine blk_alloc ?_ _)); exact h_) : P := h q
theorem qR (q : Q) (h : Q → P := by intro h_; (with_reducible repeat (first | apply Kd.R_alloc | apply Kd.R_drewN | apply Kd.R_drew)); exact h_) : P := h q
theorem qCB (q : Q) (h : Q → P := by intro h_; repeat (first | exact (Kd.C_below h_ HB.out) | (with_reducible refine Kd.C_alloc ?_ _) | (with_reducible refine Kd.C_drewN ?_ _) | (with_reducible refine Kd.C_drew ?_))) : P := h q
end
theorem qW {w0 w w1 : World} {g : Nat} {o : Obj} (bk : Aside0 (w0.heap[g]? = some o)) (hb : Below w.heap.size w w1) (h : w0.heap[g]? = some o → w.heap[g]? = some o := by intro h_; (with_reducible repeat (first | refine blk_drewN ?_ _ | refine blk_drew ?_ | refine blk_alloc ?_ _)); exact h_) : Aside0 (w1.heap[g]? = some o) := ⟨blk_below (h bk.out) hb⟩
theorem qH {w W w2 : World} (hb : Below W.heap.size W w2) (h : Below w.heap.size w W := by repeat (first | (with_reducible first | exact HB.out | apply below_alloc | apply pw_below_drewN | apply below_drew1 | refine below_set ?_ (Aside0.out (by assumption))) | exact HB.out)) : Aside0 (Below w.heap.size w w2) := ⟨below_step h hb⟩
theorem qG {w W : World} {g : Nat} (hg : g = W.heap.size) (h : Below w.heap.size w W := by repeat (first | (with_reducible first | exact HB.out | apply below_alloc | apply pw_below_drewN | apply below_drew1 | refine below_set ?_ (Aside0.out (by assumption))) | exact HB.out)) : Aside0 (w.heap.size ≤ g) := ⟨by rw [hg]; exact below_size h⟩
theorem qb {α β : Type} {x : Option α} {f : α → Option β} {r : β} (h : x.bind f = some r) : ∃ t, Aside0 (x = some t) ∧ f t = some r := by
 obtain ⟨t, h1, h2⟩ := Option.bind_eq_some_iff.mp h
 exact ⟨t, ⟨h1⟩, h2⟩
theorem qe {α : Type} [BEq α] [LawfulBEq α] {a b : α} (h : a = b) : (a == b) = true ∧ (a != b) = false := ⟨beq_iff_eq.mpr h, bne_eq_false_iff_eq.mpr h⟩
theorem qn {α : Type} [BEq α] [LawfulBEq α] {a b : α} (h : ¬ a = b) : (a == b) = false ∧ (a != b) = true := ⟨beq_eq_false_iff_ne.mpr h, bne_iff_ne.mpr h⟩
theorem bk1 {w : World} {g : Nat} {t : TypeId} {c0 : Value} (h : w.heap[g]? = some (.cells #[c0] t (0, 0))) : w.cell? ⟨g, 0, none⟩ = some c0 ∧ w.frozen? ⟨g, 0, none⟩ = false := ⟨(blk_cell h 0).trans rfl, blk_frozen h 0⟩
theorem bk3 {w : World} {g : Nat} {t : TypeId} {c0 c1 c2 : Value} (h : w.heap[g]? = some (.cells #[c0, c1, c2] t (0, 0))) : w.cell? ⟨g, 0, none⟩ = some c0 ∧ w.cell? ⟨g, 1, none⟩ = some c1 ∧ w.cell? ⟨g, 2, none⟩ = some c2 ∧ w.frozen? ⟨g, 0, none⟩ = false ∧ w.frozen? ⟨g, 1, none⟩ = false ∧ w.frozen? ⟨g, 2, none⟩ = false := ⟨(blk_cell h 0).trans rfl, (blk_cell h 1).trans rfl, (blk_cell h 2).trans rfl, blk_frozen h 0, blk_frozen h 1, blk_frozen h 2⟩
theorem bk4 {w : World} {g : Nat} {t : TypeId} {c0 c1 c2 c3 : Value} (h : w.heap[g]? = some (.cells #[c0, c1, c2, c3] t (0, 0))) : w.cell? ⟨g, 0, none⟩ = some c0 ∧ w.cell? ⟨g, 1, none⟩ = some c1 ∧ w.cell? ⟨g, 2, none⟩ = some c2 ∧ w.cell? ⟨g, 3, none⟩ = some c3 ∧ w.frozen? ⟨g, 0, none⟩ = false ∧ w.frozen? ⟨g, 1, none⟩ = false ∧ w.frozen? ⟨g, 2, none⟩ = false ∧ w.frozen? ⟨g, 3, none⟩ = false := ⟨(blk_cell h 0).trans rfl, (blk_cell h 1).trans rfl, (blk_cell h 2).trans rfl, (blk_cell h 3).trans rfl, blk_frozen h 0, blk_frozen h 1, blk_frozen h 2, blk_frozen h 3⟩
theorem bk6 {w : World} {g : Nat} {t : TypeId} {c0 c1 c2 c3 c4 c5 : Value} (h : w.heap[g]? = some (.cells #[c0, c1, c2, c3, c4, c5] t (0, 0))) : w.cell? ⟨g, 0, none⟩ = some c0 ∧ w.cell? ⟨g, 1, none⟩ = some c1 ∧ w.cell? ⟨g, 2, none⟩ = some c2 ∧ w.cell? ⟨g, 3, none⟩ = some c3 ∧ w.cell? ⟨g, 4, none⟩ = some c4 ∧ w.cell? ⟨g, 5, none⟩ = some c5 ∧ w.frozen? ⟨g, 0, none⟩ = false ∧ w.frozen? ⟨g, 1, none⟩ = false ∧ w.frozen? ⟨g, 2, none⟩ = false ∧ w.frozen? ⟨g, 3, none⟩ = false ∧ w.frozen? ⟨g, 4, none⟩ = false ∧ w.frozen? ⟨g, 5, none⟩ = false := ⟨(blk_cell h 0).trans rfl, (blk_cell h 1).trans rfl, (blk_cell h 2).trans rfl, (blk_cell h 3).trans rfl, (blk_cell h 4).trans rfl, (blk_cell h 5).trans rfl, blk_frozen h 0, blk_frozen h 1, blk_frozen h 2, blk_frozen h 3, blk_frozen h 4, blk_frozen h 5⟩
def bA (n m : Nat) : Array Bool := ((List.range n).map m.testBit).toArray
section
variable {P : Program} {ops : Array Oper} {Q : Exit → Act → World → Prop} {md : Region.Mode} {S : World → Prop} {ds : List Nat}
theorem pu_ {i : Nat} {N : Option Tmp} {oi : Oper} {v : Value} {fuel : Nat} {l : Array Bool} {a a' : Act} {w : World} (l' : Array Bool) (h : wpAnyLast P md ops Q S ds fuel l' a' w) (hi : ops[i]? = some oi := by rfl) (hN : oi.dst = N := by rfl) (hc : anyB md ops l l' i = true := by exact any_of HT_.out (by kernel_rfl)) (hQ : ∀ c a w, Q (.panic c) (a.put oi.dst v) w → Q (.panic c) a w := by exact fun _ _ _ h => h) (hy : Yields P ops oi v a := by exact Or.inl ⟨by rfl, by intro w'; first | (go_simp; done) | (go_simp; with_reducible rfl)⟩) (ha : a.put N v = a' := by (conv => lhs; simp only [Act.put, List.setIfInBounds_toArray, List.set_cons_zero, List.set_cons_succ, i64_w, i32_w]); try rfl) : wpAnyLast P md ops Q S ds (fuel + 1) l a w := pure_ l' hi hN hc hQ hy ha h
theorem tk_ {i : Nat} {N : Option Tmp} {oi : Oper} {v : Value} {fuel : Nat} {l : Array Bool} {a a' : Act} {w : World} (l' : Array Bool) (h : wpAnyLast P md ops Q S ds fuel l' a' w) (hi : ops[i]? = some oi := by rfl) (hN : oi.dst = N := by rfl) (hc : takeB md ops ds l l' i = true := by exact take_ofW HT_.out HW_.out (by kernel_rfl)) (hQ : ∀ c a w, Q (.panic c) (a.put oi.dst v) w → Q (.panic c) a w := by exact fun _ _ _ h => h) (hy : YieldsIf P ops S oi v a := by refine Or.inl ⟨by rfl, ?_⟩; intro w' s_; repeat (obtain ⟨s0_, s_⟩ : _ ∧ _ := s_); first | (go_simp; done) | (go_simp; with_reducible rfl)) (hS : S w := by exact hHeld) (ha : a.put N v = a' := by (conv => lhs; simp only [Act.put, List.setIfInBounds_toArray, List.set_cons_zero, List.set_cons_succ, i64_w, i32_w]); try rfl) : wpAnyLast P md ops Q S ds (fuel + 1) l a w := take_ l' hi hN hc hQ hy hS ha h
end
end Go.Proofs.YtniknpjeknmpjaaGreatDoor.Q
namespace Go.Proofs
open Go.Shelf
def Tryz.lays160_ren : Go.Shelf.Ren := ⟨fun | 160 => 57 | 232 => 72 | 231 => 71 | 227 => 73 | 234 => 75 | 233 => 74 | 236 => 77 | 235 => 76 | 228 => 86 | 271 => 89 | 151 => 88 | 197 => 87 | 120 => 102 | 152 => 101 | 260 => 100 | 137 => 61 | 119 => 116 | 224 => 109 | 225 => 108 | 217 => 79 | 266 => 94 | n => n, fun | 9 => 9 | 4 => 4 | 3 => 3 | 5 => 5 | 117 => 119 | 116 => 118 | 0 => 0 | 124 => 122 | 21 => 21 | 105 => 128 | 46 => 145 | 119 => 153 | 139 => 156 | 138 => 155 | n => n, fun | 3 => 2 | 4 => 3 | n => n⟩
theorem Tryz.lays160 : Go.Proofs.Lays.n160 Tryz.prog Tryz.lays160_ren := {
 mixed := by kernel_rfl
 f119 := Tryz.func116.trans (congrArg some (by kernel_rfl))
 f120 := Tryz.func102.trans (congrArg some (by kernel_rfl))
 f137 := Tryz.func61.trans (congrArg some (by kernel_rfl))
 f151 := Tryz.func88.trans (congrArg some (by kernel_rfl))
 f152 := Tryz.func101.trans (congrArg some (by kernel_rfl))
 f160 := Tryz.func57.trans (congrArg some (by kernel_rfl))
 f197 := Tryz.func87.trans (congrArg some (by kernel_rfl))
 f217 := Tryz.func79.trans (congrArg some (by kernel_rfl))
 f224 := Tryz.func109.trans (congrArg some (by kernel_rfl))
 f225 := Tryz.func108.trans (congrArg some (by kernel_rfl))
 f227 := Tryz.func73.trans (congrArg some (by kernel_rfl))
 f228 := Tryz.func86.trans (congrArg some (by kernel_rfl))
 f231 := Tryz.func71.trans (congrArg some (by kernel_rfl))
 f232 := Tryz.func72.trans (congrArg some (by kernel_rfl))
 f233 := Tryz.func74.trans (congrArg some (by kernel_rfl))
 f234 := Tryz.func75.trans (congrArg some (by kernel_rfl))
 f235 := Tryz.func76.trans (congrArg some (by kernel_rfl))
 f236 := Tryz.func77.trans (congrArg some (by kernel_rfl))
 f260 := Tryz.func100.trans (congrArg some (by kernel_rfl))
 f266 := Tryz.func94.trans (congrArg some (by kernel_rfl))
 f271 := Tryz.func89.trans (congrArg some (by kernel_rfl))
 t0 := Tryz.underlying0
 a0 := Tryz.isAgg0
 z0 := Tryz.sizeOf0
 v0 := Tryz.zeroValue0
 t3 := Tryz.underlying3
 a3 := Tryz.isAgg3
 z3 := Tryz.sizeOf3
 v3 := Tryz.zeroValue3
 t4 := Tryz.underlying4
 a4 := Tryz.isAgg4
 z4 := Tryz.sizeOf4
 v4 := Tryz.zeroValue4
 t5 := Tryz.underlying5
 a5 := Tryz.isAgg5
 z5 := Tryz.sizeOf5
 v5 := Tryz.zeroValue5
 t9 := Tryz.underlying9
 a9 := Tryz.isAgg9
 z9 := Tryz.sizeOf9
 v9 := Tryz.zeroValue9
 t21 := Tryz.underlying21
 a21 := Tryz.isAgg21
 z21 := Tryz.sizeOf21
 v21 := Tryz.zeroValue21
 t46 := Tryz.underlying145
 a46 := Tryz.isAgg145
 z46 := Tryz.sizeOf145
 v46 := Tryz.zeroValue145
 t105 := Tryz.underlying128
 a105 := Tryz.isAgg128
 z105 := Tryz.sizeOf128
 v105 := Tryz.zeroValue128
 t116 := Tryz.underlying118
 a116 := Tryz.isAgg118
 z116 := Tryz.sizeOf118
 t117 := Tryz.underlying119
 a117 := Tryz.isAgg119
 z117 := Tryz.sizeOf119
 v117 := Tryz.zeroValue119
 t119 := Tryz.underlying153
 a119 := Tryz.isAgg153
 z119 := Tryz.sizeOf153
 t124 := Tryz.underlying122
 a124 := Tryz.isAgg122
 z124 := Tryz.sizeOf122
 v124 := Tryz.zeroValue122
 t138 := Tryz.underlying155
 a138 := Tryz.isAgg155
 z138 := Tryz.sizeOf155
 v138 := Tryz.zeroValue155
 t139 := Tryz.underlying156
 a139 := Tryz.isAgg156
 z139 := Tryz.sizeOf156
 v139 := Tryz.zeroValue156
 g3 := by kernel_rfl
 g4 := by kernel_rfl }
def Tryz.lays156_ren : Go.Shelf.Ren := ⟨fun | 156 => 29 | 165 => 56 | 166 => 28 | 169 => 36 | 240 => 55 | 241 => 70 | 276 => 69 | 277 => 85 | n => n, fun | 31 => 70 | 9 => 9 | 3 => 3 | 4 => 4 | 0 => 0 | 20 => 20 | 72 => 49 | 76 => 73 | 70 => 46 | 37 => 47 | 75 => 72 | 127 => 105 | 164 => 114 | 5 => 5 | 80 => 53 | n => n, fun | n => n⟩
theorem Tryz.lays156 : Go.Proofs.Lays.n156 Tryz.prog Tryz.lays156_ren := {
 mixed := by kernel_rfl
 f156 := Tryz.func29.trans (congrArg some (by kernel_rfl))
 f165 := Tryz.func56.trans (congrArg some (by kernel_rfl))
 f166 := Tryz.func28.trans (congrArg some (by kernel_rfl))
 f169 := Tryz.func36.trans (congrArg some (by kernel_rfl))
 f240 := Tryz.func55.trans (congrArg some (by kernel_rfl))
 f241 := Tryz.func70.trans (congrArg some (by kernel_rfl))
 f276 := Tryz.func69.trans (congrArg some (by kernel_rfl))
 f277 := Tryz.func85.trans (congrArg some (by kernel_rfl))
 t0 := Tryz.underlying0
 a0 := Tryz.isAgg0
 z0 := Tryz.sizeOf0
 v0 := Tryz.zeroValue0
 t3 := Tryz.underlying3
 a3 := Tryz.isAgg3
 z3 := Tryz.sizeOf3
 v3 := Tryz.zeroValue3
 t4 := Tryz.underlying4
 a4 := Tryz.isAgg4
 z4 := Tryz.sizeOf4
 v4 := Tryz.zeroValue4
 t9 := Tryz.underlying9
 a9 := Tryz.isAgg9
 z9 := Tryz.sizeOf9
 v9 := Tryz.zeroValue9
 t20 := Tryz.underlying20
 a20 := Tryz.isAgg20
 z20 := Tryz.sizeOf20
 v20 := Tryz.zeroValue20
 t31 := Tryz.underlying70
 a31 := Tryz.isAgg70
 z31 := Tryz.sizeOf70
 v31 := Tryz.zeroValue70
 t37 := Tryz.underlying47
 a37 := Tryz.isAgg47
 z37 := Tryz.sizeOf47
 v37 := Tryz.zeroValue47
 t70 := Tryz.underlying46
 a70 := Tryz.isAgg46
 z70 := Tryz.sizeOf46
 v70 := Tryz.zeroValue46
 t72 := Tryz.underlying49
 a72 := Tryz.isAgg49
 z72 := Tryz.sizeOf49
 v72 := Tryz.zeroValue49
 t75 := Tryz.underlying72
 a75 := Tryz.isAgg72
 z75 := Tryz.sizeOf72
 v75 := Tryz.zeroValue72
 t76 := Tryz.underlying73
 a76 := Tryz.isAgg73
 z76 := Tryz.sizeOf73
 v76 := Tryz.zeroValue73
 t127 := Tryz.underlying105
 a127 := Tryz.isAgg105
 z127 := Tryz.sizeOf105
 v127 := Tryz.zeroValue105
 t164 := Tryz.underlying114
 a164 := Tryz.isAgg114
 z164 := Tryz.sizeOf114
 v164 := Tryz.zeroValue114 }
def Tryz.lays104_ren : Go.Shelf.Ren := ⟨fun | 104 => 47 | 211 => 62 | 207 => 80 | n => n, fun | 9 => 9 | 4 => 4 | 24 => 89 | 3 => 3 | n => n, fun | n => n⟩
theorem Tryz.lays104 : Go.Proofs.Lays.n104 Tryz.prog Tryz.lays104_ren := {
 mixed := by kernel_rfl
 f104 := Tryz.func47.trans (congrArg some (by kernel_rfl))
 f207 := Tryz.func80.trans (congrArg some (by kernel_rfl))
 f211 := Tryz.func62.trans (congrArg some (by kernel_rfl))
 t3 := Tryz.underlying3
 a3 := Tryz.isAgg3
 z3 := Tryz.sizeOf3
 v3 := Tryz.zeroValue3
 t4 := Tryz.underlying4
 a4 := Tryz.isAgg4
 z4 := Tryz.sizeOf4
 v4 := Tryz.zeroValue4
 t9 := Tryz.underlying9
 a9 := Tryz.isAgg9
 z9 := Tryz.sizeOf9
 v9 := Tryz.zeroValue9
 t24 := Tryz.underlying89
 a24 := Tryz.isAgg89
 z24 := Tryz.sizeOf89
 v24 := Tryz.zeroValue89 }
def Tryz.lays100_ren : Go.Shelf.Ren := ⟨fun | 100 => 66 | 207 => 80 | n => n, fun | 9 => 9 | 4 => 4 | 3 => 3 | n => n, fun | n => n⟩
theorem Tryz.lays100 : Go.Proofs.Lays.n100 Tryz.prog Tryz.lays100_ren := {
 mixed := by kernel_rfl
 f100 := Tryz.func66.trans (congrArg some (by kernel_rfl))
 f207 := Tryz.func80.trans (congrArg some (by kernel_rfl))
 t3 := Tryz.underlying3
 a3 := Tryz.isAgg3
 z3 := Tryz.sizeOf3
 v3 := Tryz.zeroValue3
 t4 := Tryz.underlying4
 a4 := Tryz.isAgg4
 z4 := Tryz.sizeOf4
 v4 := Tryz.zeroValue4
 t9 := Tryz.underlying9
 a9 := Tryz.isAgg9
 z9 := Tryz.sizeOf9
 v9 := Tryz.zeroValue9 }
def Tryz.lays137_ren : Go.Shelf.Ren := ⟨fun | 137 => 61 | 217 => 79 | 266 => 94 | n => n, fun | 9 => 9 | 5 => 5 | 3 => 3 | n => n, fun | n => n⟩
theorem Tryz.lays137 : Go.Proofs.Lays.n137 Tryz.prog Tryz.lays137_ren := {
 mixed := by kernel_rfl
 f137 := Tryz.func61.trans (congrArg some (by kernel_rfl))
 f217 := Tryz.func79.trans (congrArg some (by kernel_rfl))
 f266 := Tryz.func94.trans (congrArg some (by kernel_rfl))
 t3 := Tryz.underlying3
 a3 := Tryz.isAgg3
 z3 := Tryz.sizeOf3
 v3 := Tryz.zeroValue3
 t5 := Tryz.underlying5
 a5 := Tryz.isAgg5
 z5 := Tryz.sizeOf5
 v5 := Tryz.zeroValue5
 t9 := Tryz.underlying9
 a9 := Tryz.isAgg9
 z9 := Tryz.sizeOf9
 v9 := Tryz.zeroValue9 }
def Tryz.lays146_ren : Go.Shelf.Ren := ⟨fun | 146 => 48 | 221 => 63 | 268 => 81 | 138 => 82 | 143 => 83 | 195 => 95 | 197 => 87 | 218 => 96 | 219 => 97 | 260 => 100 | 217 => 79 | 225 => 108 | 224 => 109 | 267 => 110 | 266 => 94 | 314 => 119 | n => n, fun | 9 => 9 | 31 => 70 | 3 => 3 | 4 => 4 | 0 => 0 | 105 => 128 | 21 => 21 | 5 => 5 | 46 => 145 | 119 => 153 | 139 => 156 | 138 => 155 | 146 => 159 | 51 => 143 | n => n, fun | 1 => 0 | 3 => 2 | 4 => 3 | n => n⟩
theorem Tryz.lays146 : Go.Proofs.LaysM.n146 Tryz.prog Tryz.lays146_ren := {
 mixed := by kernel_rfl
 f138 := Tryz.func82.trans (congrArg some (by kernel_rfl))
 f143 := Tryz.func83.trans (congrArg some (by kernel_rfl))
 f146 := Tryz.func48.trans (congrArg some (by kernel_rfl))
 f195 := Tryz.func95.trans (congrArg some (by kernel_rfl))
 f197 := Tryz.func87.trans (congrArg some (by kernel_rfl))
 f217 := Tryz.func79.trans (congrArg some (by kernel_rfl))
 f218 := Tryz.func96.trans (congrArg some (by kernel_rfl))
 f219 := Tryz.func97.trans (congrArg some (by kernel_rfl))
 f221 := Tryz.func63.trans (congrArg some (by kernel_rfl))
 f224 := Tryz.func109.trans (congrArg some (by kernel_rfl))
 f225 := Tryz.func108.trans (congrArg some (by kernel_rfl))
 f260 := Tryz.func100.trans (congrArg some (by kernel_rfl))
 f266 := Tryz.func94.trans (congrArg some (by kernel_rfl))
 f267 := Tryz.func110.trans (congrArg some (by kernel_rfl))
 f268 := Tryz.func81.trans (congrArg some (by kernel_rfl))
 f314 := Tryz.func119.trans (congrArg some (by kernel_rfl))
 t0 := Tryz.underlying0
 a0 := Tryz.isAgg0
 z0 := Tryz.sizeOf0
 v0 := Tryz.zeroValue0
 t3 := Tryz.underlying3
 a3 := Tryz.isAgg3
 z3 := Tryz.sizeOf3
 v3 := Tryz.zeroValue3
 t4 := Tryz.underlying4
 a4 := Tryz.isAgg4
 z4 := Tryz.sizeOf4
 v4 := Tryz.zeroValue4
 t5 := Tryz.underlying5
 a5 := Tryz.isAgg5
 z5 := Tryz.sizeOf5
 v5 := Tryz.zeroValue5
 t9 := Tryz.underlying9
 a9 := Tryz.isAgg9
 z9 := Tryz.sizeOf9
 v9 := Tryz.zeroValue9
 t21 := Tryz.underlying21
 a21 := Tryz.isAgg21
 z21 := Tryz.sizeOf21
 v21 := Tryz.zeroValue21
 t31 := Tryz.underlying70
 a31 := Tryz.isAgg70
 z31 := Tryz.sizeOf70
 v31 := Tryz.zeroValue70
 t46 := Tryz.underlying145
 a46 := Tryz.isAgg145
 z46 := Tryz.sizeOf145
 v46 := Tryz.zeroValue145
 t51 := Tryz.underlying143
 a51 := Tryz.isAgg143
 z51 := Tryz.sizeOf143
 v51 := Tryz.zeroValue143
 t105 := Tryz.underlying128
 a105 := Tryz.isAgg128
 z105 := Tryz.sizeOf128
 v105 := Tryz.zeroValue128
 t119 := Tryz.underlying153
 a119 := Tryz.isAgg153
 z119 := Tryz.sizeOf153
 t138 := Tryz.underlying155
 a138 := Tryz.isAgg155
 z138 := Tryz.sizeOf155
 v138 := Tryz.zeroValue155
 t139 := Tryz.underlying156
 a139 := Tryz.isAgg156
 z139 := Tryz.sizeOf156
 v139 := Tryz.zeroValue156
 t146 := Tryz.underlying159
 a146 := Tryz.isAgg159
 z146 := Tryz.sizeOf159
 v146 := Tryz.zeroValue159
 g1 := by kernel_rfl
 g3 := by kernel_rfl
 g4 := by kernel_rfl
 i0 := by kernel_rfl
 i3 := by kernel_rfl
 i4 := by kernel_rfl
 i5 := by kernel_rfl
 i9 := by kernel_rfl
 i21 := by kernel_rfl
 i31 := by kernel_rfl
 i46 := by kernel_rfl
 i51 := by kernel_rfl
 i105 := by kernel_rfl
 i138 := by kernel_rfl
 i139 := by kernel_rfl
 i146 := by kernel_rfl
 m1 := by kernel_rfl
 s1_3 := fun w h => Go.Proofs.cell_of_shapedOpen_int (zero := #[.int .i64 0]) (t := 3) h (zB (by kernel_rfl)) (by kernel_rfl) rfl (by kernel_rfl) (by kernel_rfl) Tryz.underlying3
 m3 := by kernel_rfl
 m4 := by kernel_rfl }
def Tryz.lays172_ren : Go.Shelf.Ren := ⟨fun | 172 => 84 | 244 => 98 | 245 => 99 | 247 => 111 | 279 => 112 | 280 => 113 | 281 => 114 | 282 => 115 | 287 => 120 | 316 => 121 | 171 => 34 | 205 => 122 | 321 => 123 | 322 => 124 | 243 => 58 | 246 => 78 | 283 => 90 | 284 => 91 | 285 => 92 | 286 => 93 | 129 => 104 | 317 => 103 | 318 => 105 | 319 => 106 | 320 => 107 | 337 => 117 | 338 => 118 | n => n, fun | 9 => 9 | 3 => 3 | 75 => 72 | 76 => 73 | 4 => 4 | 5 => 5 | 167 => 147 | 37 => 47 | 0 => 0 | 85 => 148 | 2 => 2 | 168 => 150 | 53 => 132 | 175 => 161 | 46 => 145 | 210 => 165 | 127 => 105 | 145 => 172 | 143 => 170 | 21 => 21 | 171 => 131 | 173 => 135 | 212 => 142 | 51 => 143 | 20 => 20 | 213 => 144 | 232 => 167 | 233 => 168 | 80 => 53 | n => n, fun | 15 => 4 | 16 => 5 | 17 => 1 | 18 => 6 | 19 => 7 | n => n⟩
theorem Tryz.lays172 : Go.Proofs.LaysC.n172 Tryz.prog Tryz.lays172_ren := {
 mixed := by kernel_rfl
 f129 := Tryz.func104.trans (congrArg some (by kernel_rfl))
 f171 := Tryz.func34.trans (congrArg some (by kernel_rfl))
 f172 := Tryz.func84.trans (congrArg some (by kernel_rfl))
 f205 := Tryz.func122.trans (congrArg some (by kernel_rfl))
 f243 := Tryz.func58.trans (congrArg some (by kernel_rfl))
 f244 := Tryz.func98.trans (congrArg some (by kernel_rfl))
 f245 := Tryz.func99.trans (congrArg some (by kernel_rfl))
 f246 := Tryz.func78.trans (congrArg some (by kernel_rfl))
 f247 := Tryz.func111.trans (congrArg some (by kernel_rfl))
 f279 := Tryz.func112.trans (congrArg some (by kernel_rfl))
 f280 := Tryz.func113.trans (congrArg some (by kernel_rfl))
 f281 := Tryz.func114.trans (congrArg some (by kernel_rfl))
 f282 := Tryz.func115.trans (congrArg some (by kernel_rfl))
 f283 := Tryz.func90.trans (congrArg some (by kernel_rfl))
 f284 := Tryz.func91.trans (congrArg some (by kernel_rfl))
 f285 := Tryz.func92.trans (congrArg some (by kernel_rfl))
 f286 := Tryz.func93.trans (congrArg some (by kernel_rfl))
 f287 := Tryz.func120.trans (congrArg some (by kernel_rfl))
 f316 := Tryz.func121.trans (congrArg some (by kernel_rfl))
 f317 := Tryz.func103.trans (congrArg some (by kernel_rfl))
 f318 := Tryz.func105.trans (congrArg some (by kernel_rfl))
 f319 := Tryz.func106.trans (congrArg some (by kernel_rfl))
 f320 := Tryz.func107.trans (congrArg some (by kernel_rfl))
 f321 := Tryz.func123.trans (congrArg some (by kernel_rfl))
 f322 := Tryz.func124.trans (congrArg some (by kernel_rfl))
 f337 := Tryz.func117.trans (congrArg some (by kernel_rfl))
 f338 := Tryz.func118.trans (congrArg some (by kernel_rfl))
 t0 := Tryz.underlying0
 a0 := Tryz.isAgg0
 z0 := Tryz.sizeOf0
 v0 := Tryz.zeroValue0
 t2 := Tryz.underlying2
 a2 := Tryz.isAgg2
 z2 := Tryz.sizeOf2
 v2 := Tryz.zeroValue2
 t3 := Tryz.underlying3
 a3 := Tryz.isAgg3
 z3 := Tryz.sizeOf3
 v3 := Tryz.zeroValue3
 t4 := Tryz.underlying4
 a4 := Tryz.isAgg4
 z4 := Tryz.sizeOf4
 v4 := Tryz.zeroValue4
 t5 := Tryz.underlying5
 a5 := Tryz.isAgg5
 z5 := Tryz.sizeOf5
 v5 := Tryz.zeroValue5
 t9 := Tryz.underlying9
 a9 := Tryz.isAgg9
 z9 := Tryz.sizeOf9
 v9 := Tryz.zeroValue9
 t20 := Tryz.underlying20
 a20 := Tryz.isAgg20
 z20 := Tryz.sizeOf20
 v20 := Tryz.zeroValue20
 t21 := Tryz.underlying21
 a21 := Tryz.isAgg21
 z21 := Tryz.sizeOf21
 v21 := Tryz.zeroValue21
 t37 := Tryz.underlying47
 a37 := Tryz.isAgg47
 z37 := Tryz.sizeOf47
 v37 := Tryz.zeroValue47
 t46 := Tryz.underlying145
 a46 := Tryz.isAgg145
 z46 := Tryz.sizeOf145
 v46 := Tryz.zeroValue145
 t51 := Tryz.underlying143
 a51 := Tryz.isAgg143
 z51 := Tryz.sizeOf143
 v51 := Tryz.zeroValue143
 t53 := Tryz.underlying132
 a53 := Tryz.isAgg132
 z53 := Tryz.sizeOf132
 v53 := Tryz.zeroValue132
 t75 := Tryz.underlying72
 a75 := Tryz.isAgg72
 z75 := Tryz.sizeOf72
 v75 := Tryz.zeroValue72
 t76 := Tryz.underlying73
 a76 := Tryz.isAgg73
 z76 := Tryz.sizeOf73
 v76 := Tryz.zeroValue73
 t85 := Tryz.underlying148
 a85 := Tryz.isAgg148
 z85 := Tryz.sizeOf148
 v85 := Tryz.zeroValue148
 t127 := Tryz.underlying105
 a127 := Tryz.isAgg105
 z127 := Tryz.sizeOf105
 v127 := Tryz.zeroValue105
 t143 := Tryz.underlying170
 a143 := Tryz.isAgg170
 z143 := Tryz.sizeOf170
 v143 := Tryz.zeroValue170
 t145 := Tryz.underlying172
 a145 := Tryz.isAgg172
 z145 := Tryz.sizeOf172
 v145 := Tryz.zeroValue172
 t167 := Tryz.underlying147
 a167 := Tryz.isAgg147
 z167 := Tryz.sizeOf147
 v167 := Tryz.zeroValue147
 t168 := Tryz.underlying150
 a168 := Tryz.isAgg150
 z168 := Tryz.sizeOf150
 v168 := Tryz.zeroValue150
 t171 := Tryz.underlying131
 a171 := Tryz.isAgg131
 z171 := Tryz.sizeOf131
 v171 := Tryz.zeroValue131
 t173 := Tryz.underlying135
 a173 := Tryz.isAgg135
 z173 := Tryz.sizeOf135
 v173 := Tryz.zeroValue135
 t175 := Tryz.underlying161
 a175 := Tryz.isAgg161
 z175 := Tryz.sizeOf161
 v175 := Tryz.zeroValue161
 t210 := Tryz.underlying165
 a210 := Tryz.isAgg165
 z210 := Tryz.sizeOf165
 v210 := Tryz.zeroValue165
 t212 := Tryz.underlying142
 a212 := Tryz.isAgg142
 z212 := Tryz.sizeOf142
 v212 := Tryz.zeroValue142
 t213 := Tryz.underlying144
 a213 := Tryz.isAgg144
 z213 := Tryz.sizeOf144
 t232 := Tryz.underlying167
 a232 := Tryz.isAgg167
 z232 := Tryz.sizeOf167
 v232 := Tryz.zeroValue167
 t233 := Tryz.underlying168
 a233 := Tryz.isAgg168
 z233 := Tryz.sizeOf168
 v233 := Tryz.zeroValue168
 g15 := by kernel_rfl
 g16 := by kernel_rfl
 g17 := by kernel_rfl
 g18 := by kernel_rfl
 g19 := by kernel_rfl
 t80 := Tryz.underlying53
 a80 := Tryz.isAgg53
 z80 := Tryz.sizeOf53
 v80 := Tryz.zeroValue53
 i0 := by kernel_rfl
 i2 := by kernel_rfl
 i3 := by kernel_rfl
 i4 := by kernel_rfl
 i5 := by kernel_rfl
 i9 := by kernel_rfl
 i20 := by kernel_rfl
 i21 := by kernel_rfl
 i37 := by kernel_rfl
 i46 := by kernel_rfl
 i51 := by kernel_rfl
 i53 := by kernel_rfl
 i75 := by kernel_rfl
 i76 := by kernel_rfl
 i80 := by kernel_rfl
 i85 := by kernel_rfl
 i127 := by kernel_rfl
 i143 := by kernel_rfl
 i145 := by kernel_rfl
 i167 := by kernel_rfl
 i168 := by kernel_rfl
 i171 := by kernel_rfl
 i173 := by kernel_rfl
 i175 := by kernel_rfl
 i210 := by kernel_rfl
 i212 := by kernel_rfl
 i232 := by kernel_rfl
 i233 := by kernel_rfl
 m15 := by kernel_rfl
 m16 := by kernel_rfl
 m17 := by kernel_rfl
 m18 := by kernel_rfl
 m19 := by kernel_rfl
 c0 := by kernel_rfl
 c2 := by kernel_rfl
 c3 := by kernel_rfl
 c4 := by kernel_rfl
 c5 := by kernel_rfl
 c9 := by kernel_rfl
 c20 := by kernel_rfl
 c21 := by kernel_rfl
 c37 := by kernel_rfl
 c46 := by kernel_rfl
 c51 := by kernel_rfl
 c53 := by kernel_rfl
 c75 := by kernel_rfl
 c76 := by kernel_rfl
 c80 := by kernel_rfl
 c85 := by kernel_rfl
 c127 := by kernel_rfl
 c143 := by kernel_rfl
 c145 := by kernel_rfl
 c167 := by kernel_rfl
 c168 := by kernel_rfl
 c171 := by kernel_rfl
 c173 := by kernel_rfl
 c175 := by kernel_rfl
 c210 := by kernel_rfl
 c212 := by kernel_rfl
 c213 := by kernel_rfl
 c232 := by kernel_rfl
 c233 := by kernel_rfl }
def Tryz.lays171_ren : Go.Shelf.Ren := ⟨fun | 171 => 34 | 243 => 58 | 246 => 78 | 283 => 90 | 284 => 91 | 285 => 92 | 286 => 93 | 129 => 104 | 317 => 103 | 318 => 105 | 319 => 106 | 320 => 107 | 337 => 117 | 338 => 118 | n => n, fun | 3 => 3 | 9 => 9 | 2 => 2 | 4 => 4 | 171 => 131 | 0 => 0 | 53 => 132 | 37 => 47 | 5 => 5 | 173 => 135 | 212 => 142 | 51 => 143 | 20 => 20 | 213 => 144 | 46 => 145 | 232 => 167 | 233 => 168 | n => n, fun | 17 => 1 | 18 => 6 | 19 => 7 | n => n⟩
theorem Tryz.lays171 : Go.Proofs.LaysM.n171 Tryz.prog Tryz.lays171_ren := {
 mixed := by kernel_rfl
 f129 := Tryz.func104.trans (congrArg some (by kernel_rfl))
 f171 := Tryz.func34.trans (congrArg some (by kernel_rfl))
 f243 := Tryz.func58.trans (congrArg some (by kernel_rfl))
 f246 := Tryz.func78.trans (congrArg some (by kernel_rfl))
 f283 := Tryz.func90.trans (congrArg some (by kernel_rfl))
 f284 := Tryz.func91.trans (congrArg some (by kernel_rfl))
 f285 := Tryz.func92.trans (congrArg some (by kernel_rfl))
 f286 := Tryz.func93.trans (congrArg some (by kernel_rfl))
 f317 := Tryz.func103.trans (congrArg some (by kernel_rfl))
 f318 := Tryz.func105.trans (congrArg some (by kernel_rfl))
 f319 := Tryz.func106.trans (congrArg some (by kernel_rfl))
 f320 := Tryz.func107.trans (congrArg some (by kernel_rfl))
 f337 := Tryz.func117.trans (congrArg some (by kernel_rfl))
 f338 := Tryz.func118.trans (congrArg some (by kernel_rfl))
 t0 := Tryz.underlying0
 a0 := Tryz.isAgg0
 z0 := Tryz.sizeOf0
 v0 := Tryz.zeroValue0
 t2 := Tryz.underlying2
 a2 := Tryz.isAgg2
 z2 := Tryz.sizeOf2
 v2 := Tryz.zeroValue2
 t3 := Tryz.underlying3
 a3 := Tryz.isAgg3
 z3 := Tryz.sizeOf3
 v3 := Tryz.zeroValue3
 t4 := Tryz.underlying4
 a4 := Tryz.isAgg4
 z4 := Tryz.sizeOf4
 v4 := Tryz.zeroValue4
 t5 := Tryz.underlying5
 a5 := Tryz.isAgg5
 z5 := Tryz.sizeOf5
 v5 := Tryz.zeroValue5
 t9 := Tryz.underlying9
 a9 := Tryz.isAgg9
 z9 := Tryz.sizeOf9
 v9 := Tryz.zeroValue9
 t20 := Tryz.underlying20
 a20 := Tryz.isAgg20
 z20 := Tryz.sizeOf20
 v20 := Tryz.zeroValue20
 t37 := Tryz.underlying47
 a37 := Tryz.isAgg47
 z37 := Tryz.sizeOf47
 v37 := Tryz.zeroValue47
 t46 := Tryz.underlying145
 a46 := Tryz.isAgg145
 z46 := Tryz.sizeOf145
 v46 := Tryz.zeroValue145
 t51 := Tryz.underlying143
 a51 := Tryz.isAgg143
 z51 := Tryz.sizeOf143
 v51 := Tryz.zeroValue143
 t53 := Tryz.underlying132
 a53 := Tryz.isAgg132
 z53 := Tryz.sizeOf132
 v53 := Tryz.zeroValue132
 t171 := Tryz.underlying131
 a171 := Tryz.isAgg131
 z171 := Tryz.sizeOf131
 v171 := Tryz.zeroValue131
 t173 := Tryz.underlying135
 a173 := Tryz.isAgg135
 z173 := Tryz.sizeOf135
 v173 := Tryz.zeroValue135
 t212 := Tryz.underlying142
 a212 := Tryz.isAgg142
 z212 := Tryz.sizeOf142
 v212 := Tryz.zeroValue142
 t213 := Tryz.underlying144
 a213 := Tryz.isAgg144
 z213 := Tryz.sizeOf144
 t232 := Tryz.underlying167
 a232 := Tryz.isAgg167
 z232 := Tryz.sizeOf167
 v232 := Tryz.zeroValue167
 t233 := Tryz.underlying168
 a233 := Tryz.isAgg168
 z233 := Tryz.sizeOf168
 v233 := Tryz.zeroValue168
 g17 := by kernel_rfl
 g18 := by kernel_rfl
 g19 := by kernel_rfl
 i0 := by kernel_rfl
 i2 := by kernel_rfl
 i3 := by kernel_rfl
 i4 := by kernel_rfl
 i5 := by kernel_rfl
 i9 := by kernel_rfl
 i20 := by kernel_rfl
 i37 := by kernel_rfl
 i46 := by kernel_rfl
 i51 := by kernel_rfl
 i53 := by kernel_rfl
 i171 := by kernel_rfl
 i173 := by kernel_rfl
 i212 := by kernel_rfl
 i232 := by kernel_rfl
 i233 := by kernel_rfl
 m17 := by kernel_rfl
 m18 := by kernel_rfl
 m19 := by kernel_rfl }
end Go.Proofs
namespace Go.Proofs.YtniknpjeknmpjaaGreatDoor.Q
open Go.RowKit Go.Shelf Go.Proofs.YtniknpjeknmpjaaGreatDoorW.PrintWords Go.Proofs.YtniknpjeknmpjaaGreatDoorW.PrintLast Go.Proofs.YtniknpjeknmpjaaGreatDoorW.PrintMore
set_option linter.unusedVariables false
theorem var_below {P : Program} {w w1 : World} {n : String} {cs : Array Value} (h : w.var? P n = some cs) (hb : Below w.heap.size w w1) : w1.var? P n = some cs := by
 unfold World.var? at *
 cases hg : P.globalNamed n with
 | none => rw [hg] at h; simp at h
 | some g =>
  rw [hg] at h
  simp only [zJ] at h ⊢
  cases hk : w.heap[g]? with
  | none => rw [hk] at h; simp at h
  | some o => rw [hb.block g (Array.getElem?_eq_some_iff.1 hk).1]; exact h
structure LaidW (w : World) : Prop where
 tab : Lib.TabIs Tryz.prog w "internal/strconv.uint64pow10" .u64 Lib.pow10Tab
 syn : ∃ tp p, w.var? Tryz.prog "strconv.ErrSyntax" = some #[.iface tp p]
 rng : ∃ tp p, w.var? Tryz.prog "strconv.ErrRange" = some #[.iface tp p]
theorem LaidW.below {w w1 : World} (h : LaidW w) (hb : Below w.heap.size w w1) : LaidW w1 := by
 obtain ⟨h1, ⟨t1, p1, h2⟩, t2, p2, h3⟩ := h
 exact ⟨var_below h1 hb, ⟨t1, p1, var_below h2 hb⟩, t2, p2, var_below h3 hb⟩
theorem LaidW.alloc {w : World} (h : LaidW w) (o : Obj) : LaidW (w.alloc o) := h.below (below_alloc (Below.refl _ _) o)
theorem LaidW.drewN {w : World} (h : LaidW w) (n : Nat) : LaidW (w.drewN n) := h.below (pw_below_drewN (Below.refl _ _) n)
theorem LaidW.drew {w : World} (h : LaidW w) : LaidW w.drew := h.below (below_drew (Below.refl _ _))
theorem star_name : "*" ++ "errors.errorString" = "*errors.errorString" := by decide
theorem row_err (u : TypeId) (h : Tryz.prog.typeName? 3 u = some "*errors.errorString") : u = 170 :=
 typeName_ptr_named (nm := "errors.errorString") (by rw [star_name]; kernel_rfl) (by kernel_rfl) (by decide) u (by rw [star_name]; exact h)
theorem err_of {n : String} {text : List UInt8} {r : List (String × DataW Unit)} {W : World} {g : Nat}
 (h : laidMet Tryz.prog ((n, .iface "*errors.errorString" (.ptr (.agg [.lit (.string text)]))) :: r) W) (hg : Tryz.prog.globalNamed n = some g) (ht : (Tryz.prog.globals[g]?).map (·.type) = some 72) :
 ∃ tp p, W.var? Tryz.prog n = some #[.iface tp p] := by
 obtain ⟨a0, s0, hv0, -, -, -⟩ := laid_sentinel h hg ht Tryz.underlying72 row_err Tryz.underlying170 Tryz.underlying172 rfl rfl Tryz.underlying9 (by kernel_rfl) (by kernel_rfl)
 exact ⟨_, _, hv0⟩
def laidList : List (String × DataW Unit) := [("math/bits.deBruijn32tab", Rows.laid_math_bits_deBruijn32tab), ("math/bits.deBruijn64tab", Rows.laid_math_bits_deBruijn64tab), ("internal/strconv.uint64pow10", Rows.laid_internal_strconv_uint64pow10), ("unicode/utf8.acceptRanges", Rows.laid_unicode_utf8_acceptRanges), ("strconv.ErrRange", Rows.laid_strconv_ErrRange), ("strconv.ErrSyntax", Rows.laid_strconv_ErrSyntax), ("unicode/utf8.first", Rows.laid_unicode_utf8_first)]
theorem LaidW.of_met {W : World} (h : laidMet Tryz.prog laidList W) : LaidW W := by
 have h2 := laidMet.tail (laidMet.tail h)
 have h4 := laidMet.tail (laidMet.tail h2)
 have h5 := laidMet.tail h4
 exact ⟨Lib.tabIs_of_head (g := 1) (by kernel_rfl) (by kernel_rfl) Tryz.underlying142 Tryz.underlying132 (by kernel_rfl) (by kernel_rfl) h2,
  err_of h5 (g := 4) (by kernel_rfl) (by kernel_rfl), err_of h4 (g := 5) (by kernel_rfl) (by kernel_rfl)⟩
def strconv_Itoa_34.f (a0 : Int) : Option ByteArray := if -9223372036854775808 ≤ a0 ∧ a0 ≤ 9223372036854775807 then some ⟨(Lib.itoa a0).toArray⟩ else none
theorem strconv_Itoa_34.calls (a0 : Int) (r : ByteArray) (w : World) (hL : LaidW w) (h : strconv_Itoa_34.f a0 = some r) :
 Calls Tryz.prog 34 #[.int .i64 a0] w fun e w' => e = .returned (.string r) ∧ Below w.heap.size w w' := by
 unfold strconv_Itoa_34.f at h
 split at h
 ·next c =>
  obtain rfl := zI h
  refine (Any.strconv_Itoa Tryz.lays171 a0 c.1 c.2 w hL.tab).mono ?_
  rintro e w' ⟨rfl, k, os, rfl⟩
  exact ⟨rfl, below_regrown w (w.drawn + k) os⟩
 ·cases h
end Go.Proofs.YtniknpjeknmpjaaGreatDoor.Q
namespace Go.Proofs.YtniknpjeknmpjaaGreatDoor.Q
open Go.RowKit Go.Shelf Go.Proofs.YtniknpjeknmpjaaGreatDoorW.PrintWords Go.Proofs.YtniknpjeknmpjaaGreatDoorW.PrintLast Go.Proofs.YtniknpjeknmpjaaGreatDoorW.PrintMore
set_option linter.unusedVariables false
set_option linter.unusedSimpArgs false
attribute [local go_sem] Oper.semAt_some
def cutB (s : ByteArray) : ByteArray × ByteArray := if 0 ≤ Lib.indexByte s.data.toList 10 then (s.extract 0 ((Lib.indexByte s.data.toList 10).toNat + 1), s.extract ((Lib.indexByte s.data.toList 10).toNat + 1) s.size) else (s, ⟨#[]⟩)
theorem cutB_pos {s : ByteArray} {i : Nat} (h : Lib.indexByte s.data.toList 10 = (i : Int)) : cutB s = (s.extract 0 (i + 1), s.extract (i + 1) s.size) := by
 unfold cutB
 rw [h, zC (by omega), Int.toNat_natCast]
theorem cutB_neg {s : ByteArray} (h : ¬ 0 ≤ Lib.indexByte s.data.toList 10) : cutB s = (s, ⟨#[]⟩) := zD h
theorem indexByte_lt : ∀ {l : List UInt8} {b : UInt8} {i : Nat}, Lib.indexByte l b = (i : Int) → i < l.length
 | [], b, i, h => by simp only [Lib.indexByte] at h; omega
 | c :: l, b, i, h => by
  unfold Lib.indexByte at h
  split at h
  ·have : i = 0 := by omega
   subst this; simp
  ·have hge := Lib.indexByte_ge l b
   split at h
   ·omega
   ·next h2 =>
    have h3 : Lib.indexByte l b ≠ -1 := by simpa using h2
    obtain ⟨q, hq⟩ : ∃ q : Nat, Lib.indexByte l b = q := ⟨(Lib.indexByte l b).toNat, by omega⟩
    have := indexByte_lt hq
    simp; omega
theorem cutB_less {s : ByteArray} (h : s.size ≠ 0) : (cutB s).2.size < s.size := by
 by_cases h0 : 0 ≤ Lib.indexByte s.data.toList 10
 ·obtain ⟨i, hi⟩ : ∃ i : Nat, Lib.indexByte s.data.toList 10 = i := ⟨_, (Int.toNat_of_nonneg h0).symm⟩
  have hl : s.data.toList.length = s.size := by simp
  have := indexByte_lt hi
  rw [cutB_pos hi]
  simp only [ByteArray.size_extract]
  omega
 ·rw [cutB_neg h0]
  have : (⟨#[]⟩ : ByteArray).size = 0 := rfl
  show (⟨#[]⟩ : ByteArray).size < s.size
  omega
def leftAt (Bn : Nat) (w : World) : Nat := match w.cell? ⟨Bn, 0, none⟩ with
 | some (.string s) => s.size
 | _ => 0
theorem leftAt_eq {Bn : Nat} {w : World} {s : ByteArray} (h : w.cell? ⟨Bn, 0, none⟩ = some (.string s)) : leftAt Bn w = s.size := by unfold leftAt; rw [h]
set_option maxRecDepth 100000 in
set_option maxHeartbeats 4000000 in
theorem lines1_in (m l Bn : Nat) (J : ByteArray → World → Prop) (Jx : World → Prop) (hm : 1 ≤ m)
 (hJc : ∀ s W, J s W → W.cell? ⟨Bn, 0, none⟩ = some (.string s) ∧ W.frozen? ⟨Bn, 0, none⟩ = false ∧ s.size ≤ 1000000) (hJd : ∀ s W, J s W → J s W.drew)
 (hY : ∀ s W, J s W → s.size ≠ 0 → YieldAt Fence.wide (m - 1) Tryz.prog l #[.string (cutB s).1] (W.setCell ⟨Bn, 0, none⟩ (.string (cutB s).2)) fun e W' => (e = .returned (.bool true) ∧ J (cutB s).2 W') ∨ (e = .returned (.bool false) ∧ Jx W'))
 (s0 : ByteArray) (W : World) (h0 : J s0 W) :
 CallsIn Fence.wide m Tryz.prog 60 #[.func (.yield l) #[] #[], .pointer (some ⟨Bn, 0, none⟩)] W fun e W' => (∃ v, e = .returned v) ∧ ((∃ s : ByteArray, s.size = 0 ∧ J s W') ∨ Jx W') := by
 refine callsIn_of_wp Tryz.func60 rfl trivial ?_ rfl
 simp only [Tryz.ntmps60, List.size_toArray, List.length_cons, List.length_nil, Nat.reduceAdd, Nat.reduceSub, Array.replicate_succ, Array.replicate_zero, List.push_toArray, List.append_toArray, List.nil_append, List.cons_append]
 gi_wp2
 gi_loopw [3] (fun p wr => ∃ s, J s wr) (fun p wr => leftAt Bn wr)
 case atStart => exact ⟨s0, h0⟩
 case round =>
  obtain ⟨s, hJ⟩ := hrel
  obtain ⟨hc, hf, hsz⟩ := hJc s _ hJ
  by_cases hz : s.size = 0
  ·have d1 := zG (show ¬ (0 : Int) < (s.size : Int) by omega)
   have d2 := zG (show ¬ 0 < s.size by omega)
   gi_wp2
   go_end0
   exact ⟨⟨_, rfl⟩, .inl ⟨s, hz, hJ⟩⟩
  ·have d1 := zF (show (0 : Int) < (s.size : Int) by omega)
   have d2 := zF (show 0 < s.size by omega)
   by_cases hi : 0 ≤ Lib.indexByte s.data.toList 10
   ·obtain ⟨i, hidx⟩ : ∃ i : Nat, Lib.indexByte s.data.toList 10 = i := ⟨_, (Int.toNat_of_nonneg hi).symm⟩
    have hil := indexByte_lt hidx
    have hsl : s.data.toList.length = s.size := by simp
    have hy0 := hY s wr.drew (hJd _ _ hJ) hz
    have hcl := cutB_less hz
    rw [cutB_pos hidx] at hy0 hcl
    obtain ⟨fn, tmps, assign, body, hy, hR⟩ := hy0
    dsimp only at hy hR hcl
    replace hy : (Instr.yield l #[.string (s.extract 0 (i + 1))]).run Tryz.prog ((wr.setCell ⟨Bn, 0, none⟩ (.string (s.extract (i + 1) s.size))).drew) = .ok (.round l fn tmps assign body) ((wr.setCell ⟨Bn, 0, none⟩ (.string (s.extract (i + 1) s.size))).drew) := hy
    replace hR : RoundIn Fence.wide (m - 1) Tryz.prog l fn tmps assign body ((wr.setCell ⟨Bn, 0, none⟩ (.string (s.extract (i + 1) s.size))).drew) _ := hR
    have hleft := leftAt_eq hc
    have hi1 : i < s.size := by omega
    have hi2 : i + 1 ≤ s.size := by omega
    have hi3 := eq_true (show (i : Int) + 1 ≤ (s.size : Int) by omega)
    have hi4 := eq_true (show (0 : Int) ≤ (i : Int) + 1 by omega)
    have hw2 : IntKind.i64.wrap ((i : Int) + 1) = (i : Int) + 1 := by rw [i64_w]; unfold wrap64; omega
    have d3 := zF (show (0 : Int) ≤ (i : Int) by omega)
    have hix : Lib.indexByte s.data.toList ((10 : Int).toNat.toUInt8) = (i : Int) := hidx
    have mixed : Tryz.prog.follows .mixedOrders = true := by kernel_rfl
    clear hY hidx hi
    gi_wp2_with (refine ⟨trivial, ?_⟩; gi_at_call 61; refine (callsIn_wide.2 (Any.strings_IndexByte Tryz.lays137 s 10 _)).mono ?_; rintro e w' ⟨rfl, rfl⟩; rw [hix])
    gi_region_with_o fail
    all_goals
     gi_wp2
     refine hR.mono ?_
     rintro e W3 (⟨rfl, hJ3⟩ | ⟨rfl, hJx3⟩)
     ·gi_wp2
      go_roundw
      case rel => exact ⟨_, hJ3⟩
      case measure => rw [hleft, leftAt_eq (hJc _ _ hJ3).1]; exact hcl
     ·gi_wp2
      refine bodyPost_ret (results_none rfl _ _ _) rfl ?_
      exact ⟨⟨_, rfl⟩, .inr hJx3⟩
   ·have hy0 := hY s wr hJ hz
    have hcl := cutB_less hz
    rw [cutB_neg hi] at hy0 hcl
    obtain ⟨fn, tmps, assign, body, hy, hR⟩ := hy0
    dsimp only at hy hR hcl
    have hleft := leftAt_eq hc
    have d3 := zG hi
    obtain ⟨i, hix⟩ : ∃ i, i = Lib.indexByte s.data.toList 10 := ⟨_, rfl⟩
    rw [← hix] at d3 hi
    have hix : Lib.indexByte s.data.toList ((10 : Int).toNat.toUInt8) = i := hix.symm
    clear hY
    gi_wp2_with (refine ⟨trivial, ?_⟩; gi_at_call 61; refine (callsIn_wide.2 (Any.strings_IndexByte Tryz.lays137 s 10 _)).mono ?_; rintro e w' ⟨rfl, rfl⟩; rw [hix])
    refine hR.mono ?_
    rintro e W3 (⟨rfl, hJ3⟩ | ⟨rfl, hJx3⟩)
    ·gi_wp2
     go_roundw
     case rel => exact ⟨_, hJ3⟩
     case measure => rw [hleft, leftAt_eq (hJc _ _ hJ3).1]; exact hcl
    ·gi_wp2
     refine bodyPost_ret (results_none rfl _ _ _) rfl ?_
     exact ⟨⟨_, rfl⟩, .inr hJx3⟩
end Go.Proofs.YtniknpjeknmpjaaGreatDoor.Q
namespace Go.Proofs.YtniknpjeknmpjaaGreatDoor.Q
open Go.RowKit Go.Shelf Go.Proofs.YtniknpjeknmpjaaGreatDoorW.PrintWords Go.Proofs.YtniknpjeknmpjaaGreatDoorW.PrintLast Go.Proofs.YtniknpjeknmpjaaGreatDoorW.PrintMore
set_option linter.unusedVariables false
set_option linter.unusedSimpArgs false
def Same2 (k : Nat) (W W' : World) : Prop := W'.heap[k]? = W.heap[k]? ∧ W'.heap[k + 1]? = W.heap[k + 1]?
def roundEnd (k : Nat) (I : World → Prop) (Ix : Code → World → Prop) (W : World) : Exit → Act → World → Prop
 | .normal, _, W' => Same2 k W W' ∧ I W'
 | .ret, _, W' => Same2 k W W' ∧ Ix .ret W'
 | _, _, _ => False
def AbPut (k : Nat) (I : World → Prop) : Prop := ∀ W j o, k ≤ j → j ≤ k + 1 → I W → I (W.putObj j o)
set_option maxHeartbeats 2000000 in
theorem wpIn_lines {m B : Nat} {g : Operand} {ps : Array Tmp} {assign body : Code} {Q : Exit → Act → World → Prop} {a : Act} {w : World} (h2 : 2 ≤ m)
 (hg : a.eval g = .func (.func 60) #[] #[.pointer (some ⟨B, 0, none⟩)]) (hps : ps.size = 1)
 (I K : ByteArray → World → Prop) (Ix : Code → World → Prop)
 (hc : ∀ s W, I s W → W.cell? ⟨B, 0, none⟩ = some (.string s) ∧ W.frozen? ⟨B, 0, none⟩ = false ∧ s.size ≤ 1000000) (hB : B < w.heap.size) (hd : ∀ s W, I s W → I s W.drew)
 (hK : ∀ s W, I s W → s.size ≠ 0 → K s (W.setCell ⟨B, 0, none⟩ (.string (cutB s).2)))
 (hIp : ∀ s, AbPut w.heap.size (I s)) (hKp : ∀ s, AbPut w.heap.size (K s)) (hXp : ∀ c, AbPut w.heap.size (Ix c))
 (s0 : ByteArray) (h0 : ∀ o1 o2, I s0 ((w.alloc o1).alloc o2)) (a₁ : ByteArray → Act)
 (hassign : ∀ (l : Nat) (x : ByteArray) (W : World) (K : Act → World → Prop), K (a₁ x) W →
   assign.wpIn (Fence.wide.inRound l) (m - 1 - 1) Tryz.prog (Exit.then K (fun _ _ _ => False)) { tmps := (ps.zip #[Value.string x]).foldl (fun t (p, v) => t.setIfInBounds p v) a.tmps, defers := [] } W)
 (hbody : ∀ (l : Nat) (s : ByteArray) (W : World), K s W → body.wpIn (Fence.wide.inRound l) (m - 1 - 1) Tryz.prog (roundEnd w.heap.size (I (cutB s).2) Ix W) (a₁ (cutB s).1) W)
 (hdone : ∀ (s : ByteArray) (W : World), s.size = 0 → I s W → W.heap[w.heap.size]? = some (.deferred (some [])) → Q .normal { a with defers := { target := .collected w.heap.size, args := #[] } :: a.defers } W)
 (hstop : ∀ (c : Code) (W : World), Ix c W → W.heap[w.heap.size]? = some (.deferred (some [])) → c.wpIn Fence.wide m Tryz.prog Q { a with defers := { target := .collected w.heap.size, args := #[] } :: a.defers } W) :
 (Code.rangeFunc g ps assign body).wpIn Fence.wide m Tryz.prog Q a w := by
 refine wpIn_rangeFunc fun fn hfn => ?_
 obtain ⟨rec, hrec⟩ : ∃ rec : LoopState → Option Code → Loop, rec = fun st pe => { state := st, pending := pe, fn, tmps := a.tmps, params := ps, assign, body, defers := w.heap.size } := ⟨_, rfl⟩
 obtain ⟨W1, hW1⟩ : ∃ W1, W1 = (w.alloc (.deferred (some []))).alloc (.loop (rec .ready none)) := ⟨_, rfl⟩
 have hsz : (w.alloc (.deferred (some []))).heap.size = w.heap.size + 1 := by simp
 have hL1 : W1.heap[w.heap.size + 1]? = some (.loop (rec .ready none)) := by
  rw [hW1, ← hsz]; exact World.alloc_heap_new _ _
 have hK1 : W1.heap[w.heap.size]? = some (.deferred (some [])) := by
  rw [hW1]; exact (Below.heap_alloc _ _ _ (by rw [hsz]; omega)).trans (World.alloc_heap_new w _)
 have hI1 : I s0 W1 := by rw [hW1]; exact h0 _ _
 have hent : ∀ args w, (callFunc 60 args).run Tryz.prog w = .ok (.enter 60 args) w := enters_of Tryz.func60 (by kernel_rfl) rfl
 refine ⟨w.heap.size + 1, [{ target := .collected w.heap.size, args := #[] }], W1, { target := .fn (.func 60) #[.pointer (some ⟨B, 0, none⟩)], args := #[.func (.yield (w.heap.size + 1)) #[] #[]] }, W1, 60,
  #[.func (.yield (w.heap.size + 1)) #[] #[]] ++ #[.pointer (some ⟨B, 0, none⟩)], W1, ?_, ?_, fun _ _ => trivial, ?_, fun _ => by omega, ?_⟩
 ·rw [hW1, hrec]; exact run_enterLoop_outer _ _ _ _ _
 ·simp only [resolve, hg]
  simp [go_sem]
 ·simp [invoke, go_sem, hent]
 ·refine (lines1_in (m - 1) (w.heap.size + 1) B (fun s W => I s W ∧ W.heap[w.heap.size + 1]? = some (.loop (rec .ready none)) ∧ W.heap[w.heap.size]? = some (.deferred (some [])))
   (fun W => ∃ c, Ix c W ∧ W.heap[w.heap.size + 1]? = some (.loop (rec .done (some c))) ∧ W.heap[w.heap.size]? = some (.deferred (some []))) (by omega) (fun s W h => hc s W h.1) (fun s W h => ⟨hd s W h.1, h.2.1, h.2.2⟩) ?_ s0 W1 ⟨hI1, hL1, hK1⟩).mono ?_
  ·-- a round
   rintro s W ⟨hi, hl, hk⟩ hz
   have hk3 := hK s W hi hz
   have hn1 : w.heap.size + 1 ≠ B := by omega
   have hn2 : w.heap.size ≠ B := by omega
   have hl3 : (W.setCell ⟨B, 0, none⟩ (.string (cutB s).2)).heap[w.heap.size + 1]? = some (.loop (rec .ready none)) := (heap_setCell_other _ _ _ _ hn1).trans hl
   have hd3 : (W.setCell ⟨B, 0, none⟩ (.string (cutB s).2)).heap[w.heap.size]? = some (.deferred (some [])) := (heap_setCell_other _ _ _ _ hn2).trans hk
   generalize W.setCell ⟨B, 0, none⟩ (.string (cutB s).2) = W2 at hk3 hl3 hd3 ⊢
   have hlt : w.heap.size + 1 < W2.heap.size := (Array.getElem?_eq_some_iff.1 hl3).1
   have hy := run_yield (P := Tryz.prog) (args := #[.string (cutB s).1]) hl3 (by rw [hrec]; exact hps.symm)
   rw [hrec] at hy
   refine ⟨fn, _, assign, body, hy, roundIn_of_wpIn hfn (hassign _ _ W2 _ ⟨_, run_beginRound hl3 (by rw [hrec]), ?_⟩)⟩
   have hl2 : (W2.putObj (w.heap.size + 1) (.loop { rec .ready none with state := .busy })).heap[w.heap.size + 1]? = some (.loop { rec .ready none with state := .busy }) := World.putObj_heap_same hlt
   have hd2 : (W2.putObj (w.heap.size + 1) (.loop { rec .ready none with state := .busy })).heap[w.heap.size]? = some (.deferred (some [])) := (World.putObj_heap_other (by omega)).trans hd3
   have hkk := hKp s W2 (w.heap.size + 1) (.loop { rec .ready none with state := .busy }) (by omega) (by omega) hk3
   generalize W2.putObj (w.heap.size + 1) (.loop { rec .ready none with state := .busy }) = W4 at hl2 hd2 hkk ⊢
   refine wpIn_mono (hbody _ s W4 hkk) ?_
   have fin : ∀ (jump : Option Code) (W3 : World), Same2 w.heap.size W4 W3 →
    (Instr.endRound (w.heap.size + 1) jump).run Tryz.prog W3 = .ok (.bool jump.isNone) (W3.putObj (w.heap.size + 1) (.loop (rec (if jump.isNone then .ready else .done) jump))) ∧
    (W3.putObj (w.heap.size + 1) (.loop (rec (if jump.isNone then .ready else .done) jump))).heap[w.heap.size + 1]? = some (.loop (rec (if jump.isNone then .ready else .done) jump)) ∧
    (W3.putObj (w.heap.size + 1) (.loop (rec (if jump.isNone then .ready else .done) jump))).heap[w.heap.size]? = some (.deferred (some [])) := fun jump W3 hs => by
    have hl3 := hs.2.trans hl2
    have hd3 := hs.1.trans hd2
    have := run_endRound (P := Tryz.prog) jump hl3
    rw [hrec] at this ⊢
    exact ⟨this, World.putObj_heap_same (Array.getElem?_eq_some_iff.1 hl3).1, (World.putObj_heap_other (by omega)).trans hd3⟩
   rintro e a3 W3 hp
   cases e with
   | normal =>
    obtain ⟨hs, hi3⟩ := hp
    obtain ⟨hr, hl4, hk4⟩ := fin none W3 hs
    exact ⟨_, _, hr, .inl ⟨rfl, hIp _ _ _ _ (by omega) (by omega) hi3, hl4, hk4⟩⟩
   | ret =>
    obtain ⟨hs, hi3⟩ := hp
    obtain ⟨hr, hl4, hk4⟩ := fin (some .ret) W3 hs
    exact ⟨_, _, hr, .inr ⟨rfl, .ret, hXp _ _ _ _ (by omega) (by omega) hi3, hl4, hk4⟩⟩
   | exit id => exact hp.elim
   | goto t => exact hp.elim
   | panic ch => exact hp.elim
   | outgrown => exact hp.elim
  ·-- behind the iterator
   rintro e W2 ⟨⟨v, rfl⟩, (⟨s, hz, hi, hl, hk⟩ | ⟨c, hi, hl, hk⟩)⟩
   ·exact ⟨none, _, by have := run_endLoop (P := Tryz.prog) hl (by rw [hrec]; simp); rw [hrec] at this; exact this, hdone s _ hz (hIp _ _ _ _ (by omega) (by omega) hi) ((World.putObj_heap_other (by omega)).trans hk)⟩
   ·exact ⟨some c, _, by have := run_endLoop (P := Tryz.prog) hl (by rw [hrec]; simp); rw [hrec] at this; exact this, hstop c _ (hXp _ _ _ _ (by omega) (by omega) hi) ((World.putObj_heap_other (by omega)).trans hk)⟩
def blank1 : ByteArray := ⟨#[32]⟩
def wordsOf (s : ByteArray) : List ByteArray := Lib.splitB blank1 0 (Lib.countB s blank1) s
theorem wordsOf_len (s : ByteArray) : (wordsOf s).length = Lib.countB s blank1 + 1 := Lib.splitB_all blank1 (by decide) 0 _ s rfl
theorem split_calls (s : ByteArray) (w : World) (hs : s.size < 4294967281) :
 Calls Tryz.prog 48 #[.string s, .string blank1] w fun e w' => e = .returned (.slice (some ⟨w.heap.size, 0, none⟩) (wordsOf s).length (wordsOf s).length) ∧ w' = w.alloc (.cells ((wordsOf s).map Value.string).toArray 9) := by
 have hle := Lib.countB_le blank1 (by decide) s.size s (Nat.le_refl _)
 have hlen := Lib.splitB_all blank1 (by decide) 0 _ s rfl
 have c := Any.strings_genSplit_core { Tryz.lays146 with } Tryz.lays146.i9 s blank1 0 (-1) (Lib.countB s blank1 + 1) w hs (by decide) (Nat.zero_le _)
  (fun x c hx => (Any.strings_Index_one { Tryz.lays146 with } x 32 _).mono fun e w' ⟨he, hw⟩ => ⟨by rw [he]; show _ = Ending.returned (Value.int .i64 (Lib.index x.data.toList [32])); rw [Lib.index_one], hw⟩)
  ((Any.strings_Count_one { Tryz.lays146 with } s 32 w).mono fun e w' ⟨he, hw⟩ => ⟨by rw [he]; show _ = Ending.returned (Value.int .i64 ((Lib.count s.data.toList [32] : Nat) : Int)); rw [Lib.count_one]; rfl, hw⟩) (by decide) (by decide) (by rw [zC (by decide)]; omega)
 rw [Nat.add_sub_cancel, hlen] at c
 have e2 : Lib.cellsOf (Lib.splitB blank1 0 (Lib.countB s blank1) s) (Lib.countB s blank1 + 1) = ((wordsOf s).map Value.string).toArray := by rw [← hlen]; exact Lib.cellsOf_full _
 rw [e2] at c
 have c' : Calls Tryz.prog 63 #[.string s, .string blank1, .int .i64 0, .int .i64 (-1)] w fun e w' => e = .returned (.slice (some ⟨w.heap.size, 0, none⟩) (Lib.countB s blank1 + 1) (Lib.countB s blank1 + 1)) ∧ w' = w.alloc (.cells ((wordsOf s).map Value.string).toArray 9) := c
 clear c e2
 rw [wordsOf_len]
 go_enter Tryz.func48, Tryz.ntmps48
 go_wp2_with (go_at_call 63; refine c'.mono ?_; rintro e w' ⟨rfl, hw⟩; rw [hw])
 go_ret
 exact ⟨rfl, rfl⟩
theorem split_at (s : ByteArray) (w : World) (hs : s.size < 4294967281) : Calls Tryz.prog 48 #[.string s, .string blank1] w fun e w' => ∃ g, e = .returned (.slice (some ⟨g, 0, none⟩) (wordsOf s).length (wordsOf s).length) ∧ w'.heap[g]? = some (.cells ((wordsOf s).map Value.string).toArray 9 (0, 0)) ∧ Below w.heap.size w w' ∧ w.heap.size ≤ g := by
 refine (split_calls s w hs).mono ?_
 rintro e w' ⟨rfl, rfl⟩
 exact ⟨_, rfl, blk_new w _, below_alloc (Below.refl _ _) _, Nat.le_refl _⟩
def numOf (t : ByteArray) : Option Int :=
 match Lib.atoiAll t.data.toList with
 | .ok v => if 0 ≤ v ∧ v < 2147483648 ∧ (⟨(Lib.itoa v).toArray⟩ : ByteArray) = t then some v else none
 | _ => none
theorem numOf_ok {t : ByteArray} {v : Int} (h : Lib.atoiAll t.data.toList = .ok v) : numOf t = if 0 ≤ v ∧ v < 2147483648 ∧ (⟨(Lib.itoa v).toArray⟩ : ByteArray) = t then some v else none := by unfold numOf; rw [h]
theorem atoi_ok {t : ByteArray} {v : Int} (h : Lib.atoiAll t.data.toList = .ok v) (w : World) (hs : t.size ≤ 281474976710656) :
 Calls Tryz.prog 84 #[.string t] w fun e w' => e = .returned (.tuple #[.int .i64 v, .nilIface]) ∧ Below w.heap.size w w' := by
 refine (Any.strconv_Atoi_ok Tryz.lays172 t (by omega) v h w).mono ?_
 rintro e w' ⟨rfl, hw⟩
 refine ⟨rfl, ?_⟩
 rcases hw with rfl | ⟨t, rfl⟩
 ·exact Below.refl _ _
 ·exact Lib.bytesWorld_below _ _ _
theorem atoi_bad {t : ByteArray} (h : ∀ v, Lib.atoiAll t.data.toList ≠ .ok v) (w : World) (hL : LaidW w) (hs : t.size ≤ 281474976710656) :
 numOf t = none ∧ Calls Tryz.prog 84 #[.string t] w fun e w' => ∃ (v : Int) (q : Value), e = .returned (.tuple #[.int .i64 v, .iface 150 q]) ∧ Below w.heap.size w w' := by
 obtain ⟨-, ⟨t1, p1, h2⟩, t2, p2, h3⟩ := hL
 rcases h' : Lib.atoiAll t.data.toList with v | _ | _
 ·exact absurd h' (h v)
 ·refine ⟨by unfold numOf; rw [h'], (Any.strconv_Atoi_syntax_var Tryz.lays172 t hs h' t1 p1 w h2).mono ?_⟩
  rintro e w' ⟨N, rfl, _, _, hb⟩
  exact ⟨_, _, rfl, hb⟩
 ·refine ⟨by unfold numOf; rw [h'], (Any.strconv_Atoi_range_var Tryz.lays172 t hs h' t2 p2 w h3).mono ?_⟩
  rintro e w' ⟨N, rfl, _, _, hb⟩
  exact ⟨_, _, rfl, hb⟩
theorem splitB_small (sep : ByteArray) : ∀ (k : Nat) (s : ByteArray), ∀ t ∈ Lib.splitB sep 0 k s, t.size ≤ s.size
 | 0, s, t, h => by rw [List.mem_singleton.1 h]; exact Nat.le_refl _
 | k + 1, s, t, h => by
  unfold Lib.splitB at h
  split at h
  ·rw [List.mem_singleton.1 h]; exact Nat.le_refl _
  ·rcases List.mem_cons.1 h with h | h
   ·rw [h]; simp only [ByteArray.size_extract]; omega
   ·have := splitB_small sep k _ t h
    simp only [ByteArray.size_extract] at this
    omega
theorem wordsOf_small (s : ByteArray) : ∀ t ∈ wordsOf s, t.size ≤ s.size := splitB_small _ _ _
end Go.Proofs.YtniknpjeknmpjaaGreatDoor.Q
namespace Go.Proofs.YtniknpjeknmpjaaGreatDoor.Plain
open Go Go.RowKit Go.Proofs.YtniknpjeknmpjaaGreatDoorW.PrintWords Go.Proofs.YtniknpjeknmpjaaGreatDoorW.PrintMore
theorem wrap_nat {j : Nat} (h : j ≤ 4611686018427387904) : wrap64 ((j : Int) + 1) = ((j + 1 : Nat) : Int) := by
 unfold wrap64
 omega
theorem wrap_pred {j : Nat} (h0 : 0 < j) (h : j ≤ 4611686018427387904) : wrap64 ((j : Int) - 1) = ((j - 1 : Nat) : Int) := by
 unfold wrap64
 omega
theorem wrap_id {i : Int} (h0 : -4611686018427387904 ≤ i) (h : i ≤ 4611686018427387904) : wrap64 i = i := by
 unfold wrap64
 omega
theorem rd_nat (l : List Int) (j : Nat) : rd l (j : Int) = l.getD j 0 := rfl
theorem rd_get {l : List Int} {j : Nat} (h : j < l.length) : rd l (j : Int) = l[j] := by
 rw [rd_nat, List.getD_eq_getElem?_getD, List.getElem?_eq_getElem h]
 rfl
theorem drop_cons {α : Type} {l : List α} {j : Nat} (h : j < l.length) : l.drop j = l[j] :: l.drop (j + 1) := by
 rw [List.drop_eq_getElem_cons h]
theorem loop_eq (bs : ByteArray) : ∀ (n i : Nat) (r : List UInt8), bs.size - i = n → ByteArray.toList.loop bs i r = r.reverse ++ bs.data.toList.drop i := by
 intro n
 induction n with
 | zero =>
  intro i r h
  unfold ByteArray.toList.loop
  rw [zD (by omega), List.drop_eq_nil_of_le (by simp; have : bs.data.size = bs.size := rfl; omega), List.append_nil]
 | succ n ih =>
  intro i r h
  unfold ByteArray.toList.loop
  have hs : bs.data.size = bs.size := rfl
  rw [zC (by omega), ih (i + 1) _ (by omega), List.drop_eq_getElem_cons (i := i) (by simp; omega)]
  have : bs.get! i = bs.data.toList[i]'(by simp; omega) := by
   show bs.data[i]! = _
   rw [getElem!_pos bs.data i (by omega)]
   simp
  rw [this]
  simp
theorem toList_data (bs : ByteArray) : bs.toList = bs.data.toList := by
 unfold ByteArray.toList
 rw [loop_eq bs _ 0 [] rfl]
 simp
theorem toList_inj {a b : ByteArray} : a.toList = b.toList ↔ a = b := by
 rw [toList_data, toList_data]
 constructor
 ·intro h
  cases a
  cases b
  simp at h
  rw [h]
 ·rintro rfl
  rfl
end Go.Proofs.YtniknpjeknmpjaaGreatDoor.Plain
namespace Go.Proofs.YtniknpjeknmpjaaGreatDoor.Q
open Go.RowKit Go.Proofs.YtniknpjeknmpjaaGreatDoorW.PrintWords Go.Proofs.YtniknpjeknmpjaaGreatDoorW.PrintLast Go.Proofs.YtniknpjeknmpjaaGreatDoorW.PrintMore
attribute [local go_sem] max2_int min2_int max_two min_two max_three min_three max_four min_four
set_option linter.unusedVariables false
set_option linter.unusedSimpArgs false

def text_of.f (a0 : Int) (a1 : Bool) : Option (Int × ByteArray × ByteArray × Bool) := if a0 = 1 then (some (a0, (⟨#[99, 111, 110, 115, 116]⟩ : ByteArray), (⟨#[68, 65]⟩ : ByteArray), true)) else (if a0 = 2 then (some (a0, (⟨#[99, 111, 112, 121]⟩ : ByteArray), (⟨#[68, 65]⟩ : ByteArray), true)) else (if a0 = 3 then (some (a0, (⟨#[97, 100, 100]⟩ : ByteArray), (⟨#[68, 65, 66]⟩ : ByteArray), true)) else (if a0 = 4 then (some (a0, (⟨#[115, 117, 98]⟩ : ByteArray), (⟨#[68, 65, 66]⟩ : ByteArray), true)) else (if a0 = 5 then (some (a0, (⟨#[109, 117, 108]⟩ : ByteArray), (⟨#[68, 65, 66]⟩ : ByteArray), true)) else (if a0 = 6 then (some (a0, (⟨#[108, 101, 115, 115]⟩ : ByteArray), (⟨#[68, 65, 66]⟩ : ByteArray), true)) else (if a0 = 7 then (some (a0, (⟨#[100, 105, 118]⟩ : ByteArray), (⟨#[68, 65, 66]⟩ : ByteArray), true)) else (if a0 = 8 then (some (a0, (⟨#[108, 111, 97, 100]⟩ : ByteArray), (⟨#[68, 65]⟩ : ByteArray), true)) else (if a0 = 9 then (some (a0, (⟨#[115, 116, 111, 114, 101]⟩ : ByteArray), (⟨#[65, 66]⟩ : ByteArray), true)) else (if a0 = 10 then (some (a0, (⟨#[111, 117, 116]⟩ : ByteArray), (⟨#[65]⟩ : ByteArray), true)) else (if a0 = 11 then (if a1 = true then (some (a0, (⟨#[99, 97, 108, 108]⟩ : ByteArray), (⟨#[68, 78, 65]⟩ : ByteArray), true)) else (some (a0, (⟨#[99, 97, 108, 108]⟩ : ByteArray), (⟨#[68, 78, 76]⟩ : ByteArray), true))) else (if a0 = 12 then (some (a0, (⟨#[106, 117, 109, 112]⟩ : ByteArray), (⟨#[65]⟩ : ByteArray), true)) else (if a0 = 13 then (some (a0, (⟨#[98, 114, 97, 110, 99, 104]⟩ : ByteArray), (⟨#[65, 66, 68]⟩ : ByteArray), true)) else (if a0 = 14 then (some (a0, (⟨#[114, 101, 116]⟩ : ByteArray), (⟨#[65]⟩ : ByteArray), true)) else (if a0 = 21 then (some (a0, (⟨#[102, 101, 116, 99, 104]⟩ : ByteArray), (⟨#[68, 65]⟩ : ByteArray), a1)) else (if a0 = 22 then (some (a0, (⟨#[115, 97, 118, 101]⟩ : ByteArray), (⟨#[68, 65]⟩ : ByteArray), a1)) else (some (0, (⟨#[]⟩ : ByteArray), (⟨#[]⟩ : ByteArray), false)))))))))))))))))
set_option maxHeartbeats 8000000 in
set_option maxRecDepth 100000 in
theorem text_of.calls (a0 : Int) (a1 : Bool) (r1 : Int) (r2 : ByteArray) (r3 : ByteArray) (r4 : Bool) (w : World) (h : text_of.f a0 a1 = some (r1, r2, r3, r4)) :
 Calls Tryz.prog 59 #[.int .i64 a0, .bool a1] w fun e w' => e = .returned (.tuple #[.agg #[.int .i64 r1, .string r2, .string r3], .bool r4]) ∧ Below w.heap.size w w' := by
 have hu102 := Tryz.underlying102
 have HB := zA (Below.refl w.heap.size w)
 have H := h; clear h; unfold text_of.f at H
 by_cases c3 : a0 = 1
 ·rw [zC c3] at H
  obtain ⟨c3b0, c3b1⟩ := qe c3; clear c3
  simp only [Option.some.injEq, Prod.mk.injEq] at H
  obtain ⟨rfl, rfl, rfl, rfl⟩ := H
  go_enter Tryz.func59, Tryz.ntmps59
  go_wp2_with (first | ((with_reducible refine gate_dst (N := 4) rfl ?_); refine box_event (by rfl) (N := 4) (by rfl) (cs := #[.int .i64 0, .string (⟨#[]⟩ : ByteArray), .string (⟨#[]⟩ : ByteArray)]) (t := 102) ?hr ?_; (case hr => go_simp <;> rfl); intro gb110 hg w4 hbox hb; have BK110 := zA (hbox); have GW110 := qG hg; have GE110 := GW110; replace HB := qH hb; clear hb hbox hg; have z5_0 := bk3 BK110.out))
  refine bodyPost_ret (results_ct rfl _ _ gb110 102 #[.int .i64 a0, .string (⟨#[99, 111, 110, 115, 116]⟩ : ByteArray), .string (⟨#[68, 65]⟩ : ByteArray)] (0, 0) _ rfl (by (with_reducible repeat (first | refine blk_drewN ?_ _ | refine blk_drew ?_ | refine blk_alloc ?_ _)); refine blk_put (cs := #[.int .i64 a0, .string (⟨#[99, 111, 110, 115, 116]⟩ : ByteArray), .string (⟨#[]⟩ : ByteArray)]) ?_ 2 _ rfl; (with_reducible repeat (first | refine blk_drewN ?_ _ | refine blk_drew ?_ | refine blk_alloc ?_ _)); refine blk_put (cs := #[.int .i64 a0, .string (⟨#[]⟩ : ByteArray), .string (⟨#[]⟩ : ByteArray)]) ?_ 1 _ rfl; (with_reducible repeat (first | refine blk_drewN ?_ _ | refine blk_drew ?_ | refine blk_alloc ?_ _)); refine blk_put (cs := #[.int .i64 0, .string (⟨#[]⟩ : ByteArray), .string (⟨#[]⟩ : ByteArray)]) ?_ 0 _ rfl; (with_reducible repeat (first | refine blk_drewN ?_ _ | refine blk_drew ?_ | refine blk_alloc ?_ _)); exact BK110.out) Tryz.underlying102 rfl (by kernel_rfl)) rfl ?_
  exact ⟨qE, qB⟩
 ·rw [zD c3] at H
  obtain ⟨c3b0, c3b1⟩ := qn c3
  by_cases c6 : a0 = 2
  ·rw [zC c6] at H
   obtain ⟨c6b0, c6b1⟩ := qe c6; clear c6
   simp only [Option.some.injEq, Prod.mk.injEq] at H
   obtain ⟨rfl, rfl, rfl, rfl⟩ := H
   go_enter Tryz.func59, Tryz.ntmps59
   go_wp2_with (first | ((with_reducible refine gate_dst (N := 4) rfl ?_); refine box_event (by rfl) (N := 4) (by rfl) (cs := #[.int .i64 0, .string (⟨#[]⟩ : ByteArray), .string (⟨#[]⟩ : ByteArray)]) (t := 102) ?hr ?_; (case hr => go_simp <;> rfl); intro gb110 hg w7 hbox hb; have BK110 := zA (hbox); have GW110 := qG hg; have GE110 := GW110; replace HB := qH hb; clear hb hbox hg; have z8_0 := bk3 BK110.out))
   refine bodyPost_ret (results_ct rfl _ _ gb110 102 #[.int .i64 a0, .string (⟨#[99, 111, 112, 121]⟩ : ByteArray), .string (⟨#[68, 65]⟩ : ByteArray)] (0, 0) _ rfl (by (with_reducible repeat (first | refine blk_drewN ?_ _ | refine blk_drew ?_ | refine blk_alloc ?_ _)); refine blk_put (cs := #[.int .i64 a0, .string (⟨#[99, 111, 112, 121]⟩ : ByteArray), .string (⟨#[]⟩ : ByteArray)]) ?_ 2 _ rfl; (with_reducible repeat (first | refine blk_drewN ?_ _ | refine blk_drew ?_ | refine blk_alloc ?_ _)); refine blk_put (cs := #[.int .i64 a0, .string (⟨#[]⟩ : ByteArray), .string (⟨#[]⟩ : ByteArray)]) ?_ 1 _ rfl; (with_reducible repeat (first | refine blk_drewN ?_ _ | refine blk_drew ?_ | refine blk_alloc ?_ _)); refine blk_put (cs := #[.int .i64 0, .string (⟨#[]⟩ : ByteArray), .string (⟨#[]⟩ : ByteArray)]) ?_ 0 _ rfl; (with_reducible repeat (first | refine blk_drewN ?_ _ | refine blk_drew ?_ | refine blk_alloc ?_ _)); exact BK110.out) Tryz.underlying102 rfl (by kernel_rfl)) rfl ?_
   exact ⟨qE, qB⟩
  ·rw [zD c6] at H
   obtain ⟨c6b0, c6b1⟩ := qn c6
   by_cases c9 : a0 = 3
   ·rw [zC c9] at H
    obtain ⟨c9b0, c9b1⟩ := qe c9; clear c9
    simp only [Option.some.injEq, Prod.mk.injEq] at H
    obtain ⟨rfl, rfl, rfl, rfl⟩ := H
    go_enter Tryz.func59, Tryz.ntmps59
    go_wp2_with (first | ((with_reducible refine gate_dst (N := 4) rfl ?_); refine box_event (by rfl) (N := 4) (by rfl) (cs := #[.int .i64 0, .string (⟨#[]⟩ : ByteArray), .string (⟨#[]⟩ : ByteArray)]) (t := 102) ?hr ?_; (case hr => go_simp <;> rfl); intro gb110 hg w10 hbox hb; have BK110 := zA (hbox); have GW110 := qG hg; have GE110 := GW110; replace HB := qH hb; clear hb hbox hg; have z11_0 := bk3 BK110.out))
    refine bodyPost_ret (results_ct rfl _ _ gb110 102 #[.int .i64 a0, .string (⟨#[97, 100, 100]⟩ : ByteArray), .string (⟨#[68, 65, 66]⟩ : ByteArray)] (0, 0) _ rfl (by (with_reducible repeat (first | refine blk_drewN ?_ _ | refine blk_drew ?_ | refine blk_alloc ?_ _)); refine blk_put (cs := #[.int .i64 a0, .string (⟨#[97, 100, 100]⟩ : ByteArray), .string (⟨#[]⟩ : ByteArray)]) ?_ 2 _ rfl; (with_reducible repeat (first | refine blk_drewN ?_ _ | refine blk_drew ?_ | refine blk_alloc ?_ _)); refine blk_put (cs := #[.int .i64 a0, .string (⟨#[]⟩ : ByteArray), .string (⟨#[]⟩ : ByteArray)]) ?_ 1 _ rfl; (with_reducible repeat (first | refine blk_drewN ?_ _ | refine blk_drew ?_ | refine blk_alloc ?_ _)); refine blk_put (cs := #[.int .i64 0, .string (⟨#[]⟩ : ByteArray), .string (⟨#[]⟩ : ByteArray)]) ?_ 0 _ rfl; (with_reducible repeat (first | refine blk_drewN ?_ _ | refine blk_drew ?_ | refine blk_alloc ?_ _)); exact BK110.out) Tryz.underlying102 rfl (by kernel_rfl)) rfl ?_
    exact ⟨qE, qB⟩
   ·rw [zD c9] at H
    obtain ⟨c9b0, c9b1⟩ := qn c9
    by_cases c12 : a0 = 4
    ·rw [zC c12] at H
     obtain ⟨c12b0, c12b1⟩ := qe c12; clear c12
     simp only [Option.some.injEq, Prod.mk.injEq] at H
     obtain ⟨rfl, rfl, rfl, rfl⟩ := H
     go_enter Tryz.func59, Tryz.ntmps59
     go_wp2_with (first | ((with_reducible refine gate_dst (N := 4) rfl ?_); refine box_event (by rfl) (N := 4) (by rfl) (cs := #[.int .i64 0, .string (⟨#[]⟩ : ByteArray), .string (⟨#[]⟩ : ByteArray)]) (t := 102) ?hr ?_; (case hr => go_simp <;> rfl); intro gb110 hg w13 hbox hb; have BK110 := zA (hbox); have GW110 := qG hg; have GE110 := GW110; replace HB := qH hb; clear hb hbox hg; have z14_0 := bk3 BK110.out))
     refine bodyPost_ret (results_ct rfl _ _ gb110 102 #[.int .i64 a0, .string (⟨#[115, 117, 98]⟩ : ByteArray), .string (⟨#[68, 65, 66]⟩ : ByteArray)] (0, 0) _ rfl (by (with_reducible repeat (first | refine blk_drewN ?_ _ | refine blk_drew ?_ | refine blk_alloc ?_ _)); refine blk_put (cs := #[.int .i64 a0, .string (⟨#[115, 117, 98]⟩ : ByteArray), .string (⟨#[]⟩ : ByteArray)]) ?_ 2 _ rfl; (with_reducible repeat (first | refine blk_drewN ?_ _ | refine blk_drew ?_ | refine blk_alloc ?_ _)); refine blk_put (cs := #[.int .i64 a0, .string (⟨#[]⟩ : ByteArray), .string (⟨#[]⟩ : ByteArray)]) ?_ 1 _ rfl; (with_reducible repeat (first | refine blk_drewN ?_ _ | refine blk_drew ?_ | refine blk_alloc ?_ _)); refine blk_put (cs := #[.int .i64 0, .string (⟨#[]⟩ : ByteArray), .string (⟨#[]⟩ : ByteArray)]) ?_ 0 _ rfl; (with_reducible repeat (first | refine blk_drewN ?_ _ | refine blk_drew ?_ | refine blk_alloc ?_ _)); exact BK110.out) Tryz.underlying102 rfl (by kernel_rfl)) rfl ?_
     exact ⟨qE, qB⟩
    ·rw [zD c12] at H
     obtain ⟨c12b0, c12b1⟩ := qn c12
     by_cases c15 : a0 = 5
     ·rw [zC c15] at H
      obtain ⟨c15b0, c15b1⟩ := qe c15; clear c15
      simp only [Option.some.injEq, Prod.mk.injEq] at H
      obtain ⟨rfl, rfl, rfl, rfl⟩ := H
      go_enter Tryz.func59, Tryz.ntmps59
      go_wp2_with (first | ((with_reducible refine gate_dst (N := 4) rfl ?_); refine box_event (by rfl) (N := 4) (by rfl) (cs := #[.int .i64 0, .string (⟨#[]⟩ : ByteArray), .string (⟨#[]⟩ : ByteArray)]) (t := 102) ?hr ?_; (case hr => go_simp <;> rfl); intro gb110 hg w16 hbox hb; have BK110 := zA (hbox); have GW110 := qG hg; have GE110 := GW110; replace HB := qH hb; clear hb hbox hg; have z17_0 := bk3 BK110.out))
      refine bodyPost_ret (results_ct rfl _ _ gb110 102 #[.int .i64 a0, .string (⟨#[109, 117, 108]⟩ : ByteArray), .string (⟨#[68, 65, 66]⟩ : ByteArray)] (0, 0) _ rfl (by (with_reducible repeat (first | refine blk_drewN ?_ _ | refine blk_drew ?_ | refine blk_alloc ?_ _)); refine blk_put (cs := #[.int .i64 a0, .string (⟨#[109, 117, 108]⟩ : ByteArray), .string (⟨#[]⟩ : ByteArray)]) ?_ 2 _ rfl; (with_reducible repeat (first | refine blk_drewN ?_ _ | refine blk_drew ?_ | refine blk_alloc ?_ _)); refine blk_put (cs := #[.int .i64 a0, .string (⟨#[]⟩ : ByteArray), .string (⟨#[]⟩ : ByteArray)]) ?_ 1 _ rfl; (with_reducible repeat (first | refine blk_drewN ?_ _ | refine blk_drew ?_ | refine blk_alloc ?_ _)); refine blk_put (cs := #[.int .i64 0, .string (⟨#[]⟩ : ByteArray), .string (⟨#[]⟩ : ByteArray)]) ?_ 0 _ rfl; (with_reducible repeat (first | refine blk_drewN ?_ _ | refine blk_drew ?_ | refine blk_alloc ?_ _)); exact BK110.out) Tryz.underlying102 rfl (by kernel_rfl)) rfl ?_
      exact ⟨qE, qB⟩
     ·rw [zD c15] at H
      obtain ⟨c15b0, c15b1⟩ := qn c15
      by_cases c18 : a0 = 6
      ·rw [zC c18] at H
       obtain ⟨c18b0, c18b1⟩ := qe c18; clear c18
       simp only [Option.some.injEq, Prod.mk.injEq] at H
       obtain ⟨rfl, rfl, rfl, rfl⟩ := H
       go_enter Tryz.func59, Tryz.ntmps59
       go_wp2_with (first | ((with_reducible refine gate_dst (N := 4) rfl ?_); refine box_event (by rfl) (N := 4) (by rfl) (cs := #[.int .i64 0, .string (⟨#[]⟩ : ByteArray), .string (⟨#[]⟩ : ByteArray)]) (t := 102) ?hr ?_; (case hr => go_simp <;> rfl); intro gb110 hg w19 hbox hb; have BK110 := zA (hbox); have GW110 := qG hg; have GE110 := GW110; replace HB := qH hb; clear hb hbox hg; have z20_0 := bk3 BK110.out))
       refine bodyPost_ret (results_ct rfl _ _ gb110 102 #[.int .i64 a0, .string (⟨#[108, 101, 115, 115]⟩ : ByteArray), .string (⟨#[68, 65, 66]⟩ : ByteArray)] (0, 0) _ rfl (by (with_reducible repeat (first | refine blk_drewN ?_ _ | refine blk_drew ?_ | refine blk_alloc ?_ _)); refine blk_put (cs := #[.int .i64 a0, .string (⟨#[108, 101, 115, 115]⟩ : ByteArray), .string (⟨#[]⟩ : ByteArray)]) ?_ 2 _ rfl; (with_reducible repeat (first | refine blk_drewN ?_ _ | refine blk_drew ?_ | refine blk_alloc ?_ _)); refine blk_put (cs := #[.int .i64 a0, .string (⟨#[]⟩ : ByteArray), .string (⟨#[]⟩ : ByteArray)]) ?_ 1 _ rfl; (with_reducible repeat (first | refine blk_drewN ?_ _ | refine blk_drew ?_ | refine blk_alloc ?_ _)); refine blk_put (cs := #[.int .i64 0, .string (⟨#[]⟩ : ByteArray), .string (⟨#[]⟩ : ByteArray)]) ?_ 0 _ rfl; (with_reducible repeat (first | refine blk_drewN ?_ _ | refine blk_drew ?_ | refine blk_alloc ?_ _)); exact BK110.out) Tryz.underlying102 rfl (by kernel_rfl)) rfl ?_
       exact ⟨qE, qB⟩
      ·rw [zD c18] at H
       obtain ⟨c18b0, c18b1⟩ := qn c18
       by_cases c21 : a0 = 7
       ·rw [zC c21] at H
        obtain ⟨c21b0, c21b1⟩ := qe c21; clear c21
        simp only [Option.some.injEq, Prod.mk.injEq] at H
        obtain ⟨rfl, rfl, rfl, rfl⟩ := H
        go_enter Tryz.func59, Tryz.ntmps59
        go_wp2_with (first | ((with_reducible refine gate_dst (N := 4) rfl ?_); refine box_event (by rfl) (N := 4) (by rfl) (cs := #[.int .i64 0, .string (⟨#[]⟩ : ByteArray), .string (⟨#[]⟩ : ByteArray)]) (t := 102) ?hr ?_; (case hr => go_simp <;> rfl); intro gb110 hg w22 hbox hb; have BK110 := zA (hbox); have GW110 := qG hg; have GE110 := GW110; replace HB := qH hb; clear hb hbox hg; have z23_0 := bk3 BK110.out))
        refine bodyPost_ret (results_ct rfl _ _ gb110 102 #[.int .i64 a0, .string (⟨#[100, 105, 118]⟩ : ByteArray), .string (⟨#[68, 65, 66]⟩ : ByteArray)] (0, 0) _ rfl (by (with_reducible repeat (first | refine blk_drewN ?_ _ | refine blk_drew ?_ | refine blk_alloc ?_ _)); refine blk_put (cs := #[.int .i64 a0, .string (⟨#[100, 105, 118]⟩ : ByteArray), .string (⟨#[]⟩ : ByteArray)]) ?_ 2 _ rfl; (with_reducible repeat (first | refine blk_drewN ?_ _ | refine blk_drew ?_ | refine blk_alloc ?_ _)); refine blk_put (cs := #[.int .i64 a0, .string (⟨#[]⟩ : ByteArray), .string (⟨#[]⟩ : ByteArray)]) ?_ 1 _ rfl; (with_reducible repeat (first | refine blk_drewN ?_ _ | refine blk_drew ?_ | refine blk_alloc ?_ _)); refine blk_put (cs := #[.int .i64 0, .string (⟨#[]⟩ : ByteArray), .string (⟨#[]⟩ : ByteArray)]) ?_ 0 _ rfl; (with_reducible repeat (first | refine blk_drewN ?_ _ | refine blk_drew ?_ | refine blk_alloc ?_ _)); exact BK110.out) Tryz.underlying102 rfl (by kernel_rfl)) rfl ?_
        exact ⟨qE, qB⟩
       ·rw [zD c21] at H
        obtain ⟨c21b0, c21b1⟩ := qn c21
        by_cases c24 : a0 = 8
        ·rw [zC c24] at H
         obtain ⟨c24b0, c24b1⟩ := qe c24; clear c24
         simp only [Option.some.injEq, Prod.mk.injEq] at H
         obtain ⟨rfl, rfl, rfl, rfl⟩ := H
         go_enter Tryz.func59, Tryz.ntmps59
         go_wp2_with (first | ((with_reducible refine gate_dst (N := 4) rfl ?_); refine box_event (by rfl) (N := 4) (by rfl) (cs := #[.int .i64 0, .string (⟨#[]⟩ : ByteArray), .string (⟨#[]⟩ : ByteArray)]) (t := 102) ?hr ?_; (case hr => go_simp <;> rfl); intro gb110 hg w25 hbox hb; have BK110 := zA (hbox); have GW110 := qG hg; have GE110 := GW110; replace HB := qH hb; clear hb hbox hg; have z26_0 := bk3 BK110.out))
         refine bodyPost_ret (results_ct rfl _ _ gb110 102 #[.int .i64 a0, .string (⟨#[108, 111, 97, 100]⟩ : ByteArray), .string (⟨#[68, 65]⟩ : ByteArray)] (0, 0) _ rfl (by (with_reducible repeat (first | refine blk_drewN ?_ _ | refine blk_drew ?_ | refine blk_alloc ?_ _)); refine blk_put (cs := #[.int .i64 a0, .string (⟨#[108, 111, 97, 100]⟩ : ByteArray), .string (⟨#[]⟩ : ByteArray)]) ?_ 2 _ rfl; (with_reducible repeat (first | refine blk_drewN ?_ _ | refine blk_drew ?_ | refine blk_alloc ?_ _)); refine blk_put (cs := #[.int .i64 a0, .string (⟨#[]⟩ : ByteArray), .string (⟨#[]⟩ : ByteArray)]) ?_ 1 _ rfl; (with_reducible repeat (first | refine blk_drewN ?_ _ | refine blk_drew ?_ | refine blk_alloc ?_ _)); refine blk_put (cs := #[.int .i64 0, .string (⟨#[]⟩ : ByteArray), .string (⟨#[]⟩ : ByteArray)]) ?_ 0 _ rfl; (with_reducible repeat (first | refine blk_drewN ?_ _ | refine blk_drew ?_ | refine blk_alloc ?_ _)); exact BK110.out) Tryz.underlying102 rfl (by kernel_rfl)) rfl ?_
         exact ⟨qE, qB⟩
        ·rw [zD c24] at H
         obtain ⟨c24b0, c24b1⟩ := qn c24
         by_cases c27 : a0 = 9
         ·rw [zC c27] at H
          obtain ⟨c27b0, c27b1⟩ := qe c27; clear c27
          simp only [Option.some.injEq, Prod.mk.injEq] at H
          obtain ⟨rfl, rfl, rfl, rfl⟩ := H
          go_enter Tryz.func59, Tryz.ntmps59
          go_wp2_with (first | ((with_reducible refine gate_dst (N := 4) rfl ?_); refine box_event (by rfl) (N := 4) (by rfl) (cs := #[.int .i64 0, .string (⟨#[]⟩ : ByteArray), .string (⟨#[]⟩ : ByteArray)]) (t := 102) ?hr ?_; (case hr => go_simp <;> rfl); intro gb110 hg w28 hbox hb; have BK110 := zA (hbox); have GW110 := qG hg; have GE110 := GW110; replace HB := qH hb; clear hb hbox hg; have z29_0 := bk3 BK110.out))
          refine bodyPost_ret (results_ct rfl _ _ gb110 102 #[.int .i64 a0, .string (⟨#[115, 116, 111, 114, 101]⟩ : ByteArray), .string (⟨#[65, 66]⟩ : ByteArray)] (0, 0) _ rfl (by (with_reducible repeat (first | refine blk_drewN ?_ _ | refine blk_drew ?_ | refine blk_alloc ?_ _)); refine blk_put (cs := #[.int .i64 a0, .string (⟨#[115, 116, 111, 114, 101]⟩ : ByteArray), .string (⟨#[]⟩ : ByteArray)]) ?_ 2 _ rfl; (with_reducible repeat (first | refine blk_drewN ?_ _ | refine blk_drew ?_ | refine blk_alloc ?_ _)); refine blk_put (cs := #[.int .i64 a0, .string (⟨#[]⟩ : ByteArray), .string (⟨#[]⟩ : ByteArray)]) ?_ 1 _ rfl; (with_reducible repeat (first | refine blk_drewN ?_ _ | refine blk_drew ?_ | refine blk_alloc ?_ _)); refine blk_put (cs := #[.int .i64 0, .string (⟨#[]⟩ : ByteArray), .string (⟨#[]⟩ : ByteArray)]) ?_ 0 _ rfl; (with_reducible repeat (first | refine blk_drewN ?_ _ | refine blk_drew ?_ | refine blk_alloc ?_ _)); exact BK110.out) Tryz.underlying102 rfl (by kernel_rfl)) rfl ?_
          exact ⟨qE, qB⟩
         ·rw [zD c27] at H
          obtain ⟨c27b0, c27b1⟩ := qn c27
          by_cases c30 : a0 = 10
          ·rw [zC c30] at H
           obtain ⟨c30b0, c30b1⟩ := qe c30; clear c30
           simp only [Option.some.injEq, Prod.mk.injEq] at H
           obtain ⟨rfl, rfl, rfl, rfl⟩ := H
           go_enter Tryz.func59, Tryz.ntmps59
           go_wp2_with (first | ((with_reducible refine gate_dst (N := 4) rfl ?_); refine box_event (by rfl) (N := 4) (by rfl) (cs := #[.int .i64 0, .string (⟨#[]⟩ : ByteArray), .string (⟨#[]⟩ : ByteArray)]) (t := 102) ?hr ?_; (case hr => go_simp <;> rfl); intro gb110 hg w31 hbox hb; have BK110 := zA (hbox); have GW110 := qG hg; have GE110 := GW110; replace HB := qH hb; clear hb hbox hg; have z32_0 := bk3 BK110.out))
           refine bodyPost_ret (results_ct rfl _ _ gb110 102 #[.int .i64 a0, .string (⟨#[111, 117, 116]⟩ : ByteArray), .string (⟨#[65]⟩ : ByteArray)] (0, 0) _ rfl (by (with_reducible repeat (first | refine blk_drewN ?_ _ | refine blk_drew ?_ | refine blk_alloc ?_ _)); refine blk_put (cs := #[.int .i64 a0, .string (⟨#[111, 117, 116]⟩ : ByteArray), .string (⟨#[]⟩ : ByteArray)]) ?_ 2 _ rfl; (with_reducible repeat (first | refine blk_drewN ?_ _ | refine blk_drew ?_ | refine blk_alloc ?_ _)); refine blk_put (cs := #[.int .i64 a0, .string (⟨#[]⟩ : ByteArray), .string (⟨#[]⟩ : ByteArray)]) ?_ 1 _ rfl; (with_reducible repeat (first | refine blk_drewN ?_ _ | refine blk_drew ?_ | refine blk_alloc ?_ _)); refine blk_put (cs := #[.int .i64 0, .string (⟨#[]⟩ : ByteArray), .string (⟨#[]⟩ : ByteArray)]) ?_ 0 _ rfl; (with_reducible repeat (first | refine blk_drewN ?_ _ | refine blk_drew ?_ | refine blk_alloc ?_ _)); exact BK110.out) Tryz.underlying102 rfl (by kernel_rfl)) rfl ?_
           exact ⟨qE, qB⟩
          ·rw [zD c30] at H
           obtain ⟨c30b0, c30b1⟩ := qn c30
           by_cases c33 : a0 = 11
           ·rw [zC c33] at H
            obtain ⟨c33b0, c33b1⟩ := qe c33; clear c33
            by_cases c34 : a1 = true
            ·subst c34
             have H1 : (some (a0, (⟨#[99, 97, 108, 108]⟩ : ByteArray), (⟨#[68, 78, 65]⟩ : ByteArray), true)) = some (r1, r2, r3, r4) := by rw [zC rfl] at H; exact H
             clear H
             have H := H1
             clear H1
             simp only [Option.some.injEq, Prod.mk.injEq] at H
             obtain ⟨rfl, rfl, rfl, rfl⟩ := H
             go_enter Tryz.func59, Tryz.ntmps59
             go_wp2_with (first | ((with_reducible refine gate_dst (N := 4) rfl ?_); refine box_event (by rfl) (N := 4) (by rfl) (cs := #[.int .i64 0, .string (⟨#[]⟩ : ByteArray), .string (⟨#[]⟩ : ByteArray)]) (t := 102) ?hr ?_; (case hr => go_simp <;> rfl); intro gb110 hg w35 hbox hb; have BK110 := zA (hbox); have GW110 := qG hg; have GE110 := GW110; replace HB := qH hb; clear hb hbox hg; have z36_0 := bk3 BK110.out))
             refine bodyPost_ret (results_ct rfl _ _ gb110 102 #[.int .i64 a0, .string (⟨#[99, 97, 108, 108]⟩ : ByteArray), .string (⟨#[68, 78, 65]⟩ : ByteArray)] (0, 0) _ rfl (by (with_reducible repeat (first | refine blk_drewN ?_ _ | refine blk_drew ?_ | refine blk_alloc ?_ _)); refine blk_put (cs := #[.int .i64 a0, .string (⟨#[99, 97, 108, 108]⟩ : ByteArray), .string (⟨#[]⟩ : ByteArray)]) ?_ 2 _ rfl; (with_reducible repeat (first | refine blk_drewN ?_ _ | refine blk_drew ?_ | refine blk_alloc ?_ _)); refine blk_put (cs := #[.int .i64 a0, .string (⟨#[]⟩ : ByteArray), .string (⟨#[]⟩ : ByteArray)]) ?_ 1 _ rfl; (with_reducible repeat (first | refine blk_drewN ?_ _ | refine blk_drew ?_ | refine blk_alloc ?_ _)); refine blk_put (cs := #[.int .i64 0, .string (⟨#[]⟩ : ByteArray), .string (⟨#[]⟩ : ByteArray)]) ?_ 0 _ rfl; (with_reducible repeat (first | refine blk_drewN ?_ _ | refine blk_drew ?_ | refine blk_alloc ?_ _)); exact BK110.out) Tryz.underlying102 rfl (by kernel_rfl)) rfl ?_
             exact ⟨qE, qB⟩
            ·replace c34 := Bool.eq_false_iff.mpr c34
             subst c34
             have H1 : (some (a0, (⟨#[99, 97, 108, 108]⟩ : ByteArray), (⟨#[68, 78, 76]⟩ : ByteArray), true)) = some (r1, r2, r3, r4) := by rw [zD (show ¬ (false = true) by decide)] at H; exact H
             clear H
             have H := H1
             clear H1
             simp only [Option.some.injEq, Prod.mk.injEq] at H
             obtain ⟨rfl, rfl, rfl, rfl⟩ := H
             go_enter Tryz.func59, Tryz.ntmps59
             go_wp2_with (first | ((with_reducible refine gate_dst (N := 4) rfl ?_); refine box_event (by rfl) (N := 4) (by rfl) (cs := #[.int .i64 0, .string (⟨#[]⟩ : ByteArray), .string (⟨#[]⟩ : ByteArray)]) (t := 102) ?hr ?_; (case hr => go_simp <;> rfl); intro gb110 hg w37 hbox hb; have BK110 := zA (hbox); have GW110 := qG hg; have GE110 := GW110; replace HB := qH hb; clear hb hbox hg; have z38_0 := bk3 BK110.out))
             refine bodyPost_ret (results_ct rfl _ _ gb110 102 #[.int .i64 a0, .string (⟨#[99, 97, 108, 108]⟩ : ByteArray), .string (⟨#[68, 78, 76]⟩ : ByteArray)] (0, 0) _ rfl (by (with_reducible repeat (first | refine blk_drewN ?_ _ | refine blk_drew ?_ | refine blk_alloc ?_ _)); refine blk_put (cs := #[.int .i64 a0, .string (⟨#[99, 97, 108, 108]⟩ : ByteArray), .string (⟨#[]⟩ : ByteArray)]) ?_ 2 _ rfl; (with_reducible repeat (first | refine blk_drewN ?_ _ | refine blk_drew ?_ | refine blk_alloc ?_ _)); refine blk_put (cs := #[.int .i64 a0, .string (⟨#[]⟩ : ByteArray), .string (⟨#[]⟩ : ByteArray)]) ?_ 1 _ rfl; (with_reducible repeat (first | refine blk_drewN ?_ _ | refine blk_drew ?_ | refine blk_alloc ?_ _)); refine blk_put (cs := #[.int .i64 0, .string (⟨#[]⟩ : ByteArray), .string (⟨#[]⟩ : ByteArray)]) ?_ 0 _ rfl; (with_reducible repeat (first | refine blk_drewN ?_ _ | refine blk_drew ?_ | refine blk_alloc ?_ _)); exact BK110.out) Tryz.underlying102 rfl (by kernel_rfl)) rfl ?_
             exact ⟨qE, qB⟩
           ·rw [zD c33] at H
            obtain ⟨c33b0, c33b1⟩ := qn c33
            by_cases c39 : a0 = 12
            ·rw [zC c39] at H
             obtain ⟨c39b0, c39b1⟩ := qe c39; clear c39
             simp only [Option.some.injEq, Prod.mk.injEq] at H
             obtain ⟨rfl, rfl, rfl, rfl⟩ := H
             go_enter Tryz.func59, Tryz.ntmps59
             go_wp2_with (first | ((with_reducible refine gate_dst (N := 4) rfl ?_); refine box_event (by rfl) (N := 4) (by rfl) (cs := #[.int .i64 0, .string (⟨#[]⟩ : ByteArray), .string (⟨#[]⟩ : ByteArray)]) (t := 102) ?hr ?_; (case hr => go_simp <;> rfl); intro gb110 hg w40 hbox hb; have BK110 := zA (hbox); have GW110 := qG hg; have GE110 := GW110; replace HB := qH hb; clear hb hbox hg; have z41_0 := bk3 BK110.out))
             refine bodyPost_ret (results_ct rfl _ _ gb110 102 #[.int .i64 a0, .string (⟨#[106, 117, 109, 112]⟩ : ByteArray), .string (⟨#[65]⟩ : ByteArray)] (0, 0) _ rfl (by (with_reducible repeat (first | refine blk_drewN ?_ _ | refine blk_drew ?_ | refine blk_alloc ?_ _)); refine blk_put (cs := #[.int .i64 a0, .string (⟨#[106, 117, 109, 112]⟩ : ByteArray), .string (⟨#[]⟩ : ByteArray)]) ?_ 2 _ rfl; (with_reducible repeat (first | refine blk_drewN ?_ _ | refine blk_drew ?_ | refine blk_alloc ?_ _)); refine blk_put (cs := #[.int .i64 a0, .string (⟨#[]⟩ : ByteArray), .string (⟨#[]⟩ : ByteArray)]) ?_ 1 _ rfl; (with_reducible repeat (first | refine blk_drewN ?_ _ | refine blk_drew ?_ | refine blk_alloc ?_ _)); refine blk_put (cs := #[.int .i64 0, .string (⟨#[]⟩ : ByteArray), .string (⟨#[]⟩ : ByteArray)]) ?_ 0 _ rfl; (with_reducible repeat (first | refine blk_drewN ?_ _ | refine blk_drew ?_ | refine blk_alloc ?_ _)); exact BK110.out) Tryz.underlying102 rfl (by kernel_rfl)) rfl ?_
             exact ⟨qE, qB⟩
            ·rw [zD c39] at H
             obtain ⟨c39b0, c39b1⟩ := qn c39
             by_cases c42 : a0 = 13
             ·rw [zC c42] at H
              obtain ⟨c42b0, c42b1⟩ := qe c42; clear c42
              simp only [Option.some.injEq, Prod.mk.injEq] at H
              obtain ⟨rfl, rfl, rfl, rfl⟩ := H
              go_enter Tryz.func59, Tryz.ntmps59
              go_wp2_with (first | ((with_reducible refine gate_dst (N := 4) rfl ?_); refine box_event (by rfl) (N := 4) (by rfl) (cs := #[.int .i64 0, .string (⟨#[]⟩ : ByteArray), .string (⟨#[]⟩ : ByteArray)]) (t := 102) ?hr ?_; (case hr => go_simp <;> rfl); intro gb110 hg w43 hbox hb; have BK110 := zA (hbox); have GW110 := qG hg; have GE110 := GW110; replace HB := qH hb; clear hb hbox hg; have z44_0 := bk3 BK110.out))
              refine bodyPost_ret (results_ct rfl _ _ gb110 102 #[.int .i64 a0, .string (⟨#[98, 114, 97, 110, 99, 104]⟩ : ByteArray), .string (⟨#[65, 66, 68]⟩ : ByteArray)] (0, 0) _ rfl (by (with_reducible repeat (first | refine blk_drewN ?_ _ | refine blk_drew ?_ | refine blk_alloc ?_ _)); refine blk_put (cs := #[.int .i64 a0, .string (⟨#[98, 114, 97, 110, 99, 104]⟩ : ByteArray), .string (⟨#[]⟩ : ByteArray)]) ?_ 2 _ rfl; (with_reducible repeat (first | refine blk_drewN ?_ _ | refine blk_drew ?_ | refine blk_alloc ?_ _)); refine blk_put (cs := #[.int .i64 a0, .string (⟨#[]⟩ : ByteArray), .string (⟨#[]⟩ : ByteArray)]) ?_ 1 _ rfl; (with_reducible repeat (first | refine blk_drewN ?_ _ | refine blk_drew ?_ | refine blk_alloc ?_ _)); refine blk_put (cs := #[.int .i64 0, .string (⟨#[]⟩ : ByteArray), .string (⟨#[]⟩ : ByteArray)]) ?_ 0 _ rfl; (with_reducible repeat (first | refine blk_drewN ?_ _ | refine blk_drew ?_ | refine blk_alloc ?_ _)); exact BK110.out) Tryz.underlying102 rfl (by kernel_rfl)) rfl ?_
              exact ⟨qE, qB⟩
             ·rw [zD c42] at H
              obtain ⟨c42b0, c42b1⟩ := qn c42
              by_cases c45 : a0 = 14
              ·rw [zC c45] at H
               obtain ⟨c45b0, c45b1⟩ := qe c45; clear c45
               simp only [Option.some.injEq, Prod.mk.injEq] at H
               obtain ⟨rfl, rfl, rfl, rfl⟩ := H
               go_enter Tryz.func59, Tryz.ntmps59
               go_wp2_with (first | ((with_reducible refine gate_dst (N := 4) rfl ?_); refine box_event (by rfl) (N := 4) (by rfl) (cs := #[.int .i64 0, .string (⟨#[]⟩ : ByteArray), .string (⟨#[]⟩ : ByteArray)]) (t := 102) ?hr ?_; (case hr => go_simp <;> rfl); intro gb110 hg w46 hbox hb; have BK110 := zA (hbox); have GW110 := qG hg; have GE110 := GW110; replace HB := qH hb; clear hb hbox hg; have z47_0 := bk3 BK110.out))
               refine bodyPost_ret (results_ct rfl _ _ gb110 102 #[.int .i64 a0, .string (⟨#[114, 101, 116]⟩ : ByteArray), .string (⟨#[65]⟩ : ByteArray)] (0, 0) _ rfl (by (with_reducible repeat (first | refine blk_drewN ?_ _ | refine blk_drew ?_ | refine blk_alloc ?_ _)); refine blk_put (cs := #[.int .i64 a0, .string (⟨#[114, 101, 116]⟩ : ByteArray), .string (⟨#[]⟩ : ByteArray)]) ?_ 2 _ rfl; (with_reducible repeat (first | refine blk_drewN ?_ _ | refine blk_drew ?_ | refine blk_alloc ?_ _)); refine blk_put (cs := #[.int .i64 a0, .string (⟨#[]⟩ : ByteArray), .string (⟨#[]⟩ : ByteArray)]) ?_ 1 _ rfl; (with_reducible repeat (first | refine blk_drewN ?_ _ | refine blk_drew ?_ | refine blk_alloc ?_ _)); refine blk_put (cs := #[.int .i64 0, .string (⟨#[]⟩ : ByteArray), .string (⟨#[]⟩ : ByteArray)]) ?_ 0 _ rfl; (with_reducible repeat (first | refine blk_drewN ?_ _ | refine blk_drew ?_ | refine blk_alloc ?_ _)); exact BK110.out) Tryz.underlying102 rfl (by kernel_rfl)) rfl ?_
               exact ⟨qE, qB⟩
              ·rw [zD c45] at H
               obtain ⟨c45b0, c45b1⟩ := qn c45
               by_cases c48 : a0 = 21
               ·rw [zC c48] at H
                obtain ⟨c48b0, c48b1⟩ := qe c48; clear c48
                simp only [Option.some.injEq, Prod.mk.injEq] at H
                obtain ⟨rfl, rfl, rfl, rfl⟩ := H
                go_enter Tryz.func59, Tryz.ntmps59
                go_wp2_with (first | ((with_reducible refine gate_dst (N := 4) rfl ?_); refine box_event (by rfl) (N := 4) (by rfl) (cs := #[.int .i64 0, .string (⟨#[]⟩ : ByteArray), .string (⟨#[]⟩ : ByteArray)]) (t := 102) ?hr ?_; (case hr => go_simp <;> rfl); intro gb110 hg w49 hbox hb; have BK110 := zA (hbox); have GW110 := qG hg; have GE110 := GW110; replace HB := qH hb; clear hb hbox hg; have z50_0 := bk3 BK110.out))
                refine bodyPost_ret (results_ct rfl _ _ gb110 102 #[.int .i64 a0, .string (⟨#[102, 101, 116, 99, 104]⟩ : ByteArray), .string (⟨#[68, 65]⟩ : ByteArray)] (0, 0) _ rfl (by (with_reducible repeat (first | refine blk_drewN ?_ _ | refine blk_drew ?_ | refine blk_alloc ?_ _)); refine blk_put (cs := #[.int .i64 a0, .string (⟨#[102, 101, 116, 99, 104]⟩ : ByteArray), .string (⟨#[]⟩ : ByteArray)]) ?_ 2 _ rfl; (with_reducible repeat (first | refine blk_drewN ?_ _ | refine blk_drew ?_ | refine blk_alloc ?_ _)); refine blk_put (cs := #[.int .i64 a0, .string (⟨#[]⟩ : ByteArray), .string (⟨#[]⟩ : ByteArray)]) ?_ 1 _ rfl; (with_reducible repeat (first | refine blk_drewN ?_ _ | refine blk_drew ?_ | refine blk_alloc ?_ _)); refine blk_put (cs := #[.int .i64 0, .string (⟨#[]⟩ : ByteArray), .string (⟨#[]⟩ : ByteArray)]) ?_ 0 _ rfl; (with_reducible repeat (first | refine blk_drewN ?_ _ | refine blk_drew ?_ | refine blk_alloc ?_ _)); exact BK110.out) Tryz.underlying102 rfl (by kernel_rfl)) rfl ?_
                exact ⟨qE, qB⟩
               ·rw [zD c48] at H
                obtain ⟨c48b0, c48b1⟩ := qn c48
                by_cases c51 : a0 = 22
                ·rw [zC c51] at H
                 obtain ⟨c51b0, c51b1⟩ := qe c51; clear c51
                 simp only [Option.some.injEq, Prod.mk.injEq] at H
                 obtain ⟨rfl, rfl, rfl, rfl⟩ := H
                 go_enter Tryz.func59, Tryz.ntmps59
                 go_wp2_with (first | ((with_reducible refine gate_dst (N := 4) rfl ?_); refine box_event (by rfl) (N := 4) (by rfl) (cs := #[.int .i64 0, .string (⟨#[]⟩ : ByteArray), .string (⟨#[]⟩ : ByteArray)]) (t := 102) ?hr ?_; (case hr => go_simp <;> rfl); intro gb110 hg w52 hbox hb; have BK110 := zA (hbox); have GW110 := qG hg; have GE110 := GW110; replace HB := qH hb; clear hb hbox hg; have z53_0 := bk3 BK110.out))
                 refine bodyPost_ret (results_ct rfl _ _ gb110 102 #[.int .i64 a0, .string (⟨#[115, 97, 118, 101]⟩ : ByteArray), .string (⟨#[68, 65]⟩ : ByteArray)] (0, 0) _ rfl (by (with_reducible repeat (first | refine blk_drewN ?_ _ | refine blk_drew ?_ | refine blk_alloc ?_ _)); refine blk_put (cs := #[.int .i64 a0, .string (⟨#[115, 97, 118, 101]⟩ : ByteArray), .string (⟨#[]⟩ : ByteArray)]) ?_ 2 _ rfl; (with_reducible repeat (first | refine blk_drewN ?_ _ | refine blk_drew ?_ | refine blk_alloc ?_ _)); refine blk_put (cs := #[.int .i64 a0, .string (⟨#[]⟩ : ByteArray), .string (⟨#[]⟩ : ByteArray)]) ?_ 1 _ rfl; (with_reducible repeat (first | refine blk_drewN ?_ _ | refine blk_drew ?_ | refine blk_alloc ?_ _)); refine blk_put (cs := #[.int .i64 0, .string (⟨#[]⟩ : ByteArray), .string (⟨#[]⟩ : ByteArray)]) ?_ 0 _ rfl; (with_reducible repeat (first | refine blk_drewN ?_ _ | refine blk_drew ?_ | refine blk_alloc ?_ _)); exact BK110.out) Tryz.underlying102 rfl (by kernel_rfl)) rfl ?_
                 exact ⟨qE, qB⟩
                ·rw [zD c51] at H
                 obtain ⟨c51b0, c51b1⟩ := qn c51
                 simp only [Option.some.injEq, Prod.mk.injEq] at H
                 obtain ⟨rfl, rfl, rfl, rfl⟩ := H
                 go_enter Tryz.func59, Tryz.ntmps59
                 go_wp2_with (first | ((with_reducible refine gate_dst (N := 4) rfl ?_); refine box_event (by rfl) (N := 4) (by rfl) (cs := #[.int .i64 0, .string (⟨#[]⟩ : ByteArray), .string (⟨#[]⟩ : ByteArray)]) (t := 102) ?hr ?_; (case hr => go_simp <;> rfl); intro gb110 hg w54 hbox hb; have BK110 := zA (hbox); have GW110 := qG hg; have GE110 := GW110; replace HB := qH hb; clear hb hbox hg; have z55_0 := bk3 BK110.out))
                 refine bodyPost_ret (results_ct rfl _ _ gb110 102 #[.int .i64 0, .string (⟨#[]⟩ : ByteArray), .string (⟨#[]⟩ : ByteArray)] (0, 0) _ rfl (by (with_reducible repeat (first | refine blk_drewN ?_ _ | refine blk_drew ?_ | refine blk_alloc ?_ _)); refine blk_put (cs := #[.int .i64 0, .string (⟨#[]⟩ : ByteArray), .string (⟨#[]⟩ : ByteArray)]) ?_ 2 _ rfl; (with_reducible repeat (first | refine blk_drewN ?_ _ | refine blk_drew ?_ | refine blk_alloc ?_ _)); refine blk_put (cs := #[.int .i64 0, .string (⟨#[]⟩ : ByteArray), .string (⟨#[]⟩ : ByteArray)]) ?_ 1 _ rfl; (with_reducible repeat (first | refine blk_drewN ?_ _ | refine blk_drew ?_ | refine blk_alloc ?_ _)); refine blk_put (cs := #[.int .i64 0, .string (⟨#[]⟩ : ByteArray), .string (⟨#[]⟩ : ByteArray)]) ?_ 0 _ rfl; (with_reducible repeat (first | refine blk_drewN ?_ _ | refine blk_drew ?_ | refine blk_alloc ?_ _)); exact BK110.out) Tryz.underlying102 rfl (by kernel_rfl)) rfl ?_
                 exact ⟨qE, qB⟩
end Go.Proofs.YtniknpjeknmpjaaGreatDoor.Q
namespace Go.Proofs.YtniknpjeknmpjaaGreatDoor.Q
open Go.RowKit Go.Shelf Go.Proofs.YtniknpjeknmpjaaGreatDoor.Plain Go.Proofs.YtniknpjeknmpjaaGreatDoorW.PrintWords Go.Proofs.YtniknpjeknmpjaaGreatDoorW.PrintLast Go.Proofs.YtniknpjeknmpjaaGreatDoorW.PrintMore
set_option linter.unusedVariables false
set_option linter.unusedSimpArgs false
set_option maxHeartbeats 2000000 in
set_option maxRecDepth 100000 in
theorem textnumber_calls (s : ByteArray) (w : World) (hL : LaidW w) (hs : s.size ≤ 281474976710656) :
 Calls Tryz.prog 64 #[.string s] w fun e w' => ∃ n, e = .returned (.tuple #[.int .i64 n, .bool (numOf s).isSome]) ∧ (∀ v, numOf s = some v → n = v) ∧ Below w.heap.size w w' := by
 have HB := zA (Below.refl w.heap.size w)
 have HLd := zA hL
 clear hL
 by_cases hat : ∃ v, Lib.atoiAll s.data.toList = .ok v
 case neg =>
  have hbad := atoi_bad (fun v h => hat ⟨v, h⟩) w HLd.out hs
  have HNo := zA hbad.1
  have HCl := zA hbad.2
  clear hbad hat
  go_enter Tryz.func64, Tryz.ntmps64
  go_wp2_with (go_at_call 84; refine HCl.out.mono ?_; rintro e w2 ⟨v, q, rfl, hb⟩; replace HB := zA (below_step HB.out hb); clear hb)
  go_ret2
  exact ⟨_, by rw [HNo.out]; rfl, (fun v h => by rw [HNo.out] at h; cases h), HB.out⟩
 obtain ⟨v, hv⟩ := hat
 have hno := numOf_ok hv
 have hvb := Lib.atoiAll_bounds hv
 have HV := zA hv
 clear hv
 have FAIL : Aside0 (¬ (0 ≤ v ∧ v < 2147483648 ∧ (⟨(Lib.itoa v).toArray⟩ : ByteArray) = s) → numOf s = none) := ⟨fun h => by rw [hno, zD h]⟩
 have GOOD : Aside0 ((0 ≤ v ∧ v < 2147483648 ∧ (⟨(Lib.itoa v).toArray⟩ : ByteArray) = s) → numOf s = some v) := ⟨fun h => by rw [hno, zC h]⟩
 clear hno
 by_cases f1 : v < 0
 ·have f1b := zG (show ¬ 0 ≤ v by omega)
  have HNo := zA (FAIL.out (fun h => by omega))
  clear FAIL GOOD
  go_enter Tryz.func64, Tryz.ntmps64
  go_wp2_with (go_at_call 84; refine (atoi_ok HV.out w hs).mono ?_; rintro e w2 ⟨rfl, hb⟩; replace HB := zA (below_step HB.out hb); clear hb)
  go_ret2
  exact ⟨_, by rw [HNo.out]; rfl, (fun v h => by rw [HNo.out] at h; cases h), HB.out⟩
 have f1b := zF (show 0 ≤ v by omega)
 by_cases f2 : 2147483648 ≤ v
 ·have f2b := zG (show ¬ v < 2147483648 by omega)
  have HNo := zA (FAIL.out (fun h => by omega))
  clear FAIL GOOD
  go_enter Tryz.func64, Tryz.ntmps64
  go_wp2_with (go_at_call 84; refine (atoi_ok HV.out w hs).mono ?_; rintro e w2 ⟨rfl, hb⟩; replace HB := zA (below_step HB.out hb); clear hb)
  go_ret2
  exact ⟨_, by rw [HNo.out]; rfl, (fun v h => by rw [HNo.out] at h; cases h), HB.out⟩
 have f2b := zF (show v < 2147483648 by omega)
 obtain ⟨u, hu⟩ : ∃ u, u = (⟨(Lib.itoa v).toArray⟩ : ByteArray) := ⟨_, rfl⟩
 have HF := zA (show strconv_Itoa_34.f v = some u by unfold strconv_Itoa_34.f; rw [zC (by omega), hu])
 rw [← hu] at FAIL GOOD
 clear hu
 by_cases f3 : u.toList = s.toList
 case neg =>
  obtain ⟨f3a, f3b⟩ := qn f3
  have HNo := zA (FAIL.out (fun h => f3 (by rw [h.2.2])))
  clear FAIL GOOD
  go_enter Tryz.func64, Tryz.ntmps64
  go_wp2_with (first
   | (go_at_call 84; refine (atoi_ok HV.out w hs).mono ?_; rintro e w2 ⟨rfl, hb⟩; replace HB := zA (below_step HB.out hb); replace HLd := zA (HLd.out.below hb); clear hb)
   | (go_at_call 34; refine (strconv_Itoa_34.calls v u _ HLd.out HF.out).mono ?_; rintro e w3 ⟨rfl, hb⟩; replace HB := zA (below_step HB.out hb); clear hb))
  go_ret2
  exact ⟨_, by rw [HNo.out]; rfl, (fun v h => by rw [HNo.out] at h; cases h), HB.out⟩
 obtain ⟨f3a, f3b⟩ := qe f3
 have HG1 := zA (GOOD.out ⟨by omega, by omega, toList_inj.1 f3⟩)
 clear FAIL GOOD
 go_enter Tryz.func64, Tryz.ntmps64
 go_wp2_with (first
  | (go_at_call 84; refine (atoi_ok HV.out w hs).mono ?_; rintro e w2 ⟨rfl, hb⟩; replace HB := zA (below_step HB.out hb); replace HLd := zA (HLd.out.below hb); clear hb)
  | (go_at_call 34; refine (strconv_Itoa_34.calls v u _ HLd.out HF.out).mono ?_; rintro e w3 ⟨rfl, hb⟩; replace HB := zA (below_step HB.out hb); clear hb))
 go_ret2
 exact ⟨_, by rw [HG1.out]; rfl, (fun v' h => by rw [HG1.out] at h; cases h; rfl), HB.out⟩
def isBy (wd : ByteArray) (code : Bool) (op : Int) : Option (Int × ByteArray × ByteArray) := match text_of.f op code with
 | some (o, w1, fs, true) => if w1.toList = wd.toList then some (o, w1, fs) else none
 | _ => none
def byFrom (wd : ByteArray) (code : Bool) : Nat → Int → Option (Int × ByteArray × ByteArray)
 | 0, _ => none
 | k + 1, i => match isBy wd code i with
  | some r => some r
  | none => byFrom wd code k (i + 1)
def byOf (wd : ByteArray) (code : Bool) : Option (Int × ByteArray × ByteArray) := byFrom wd code 23 0
def byVal : Option (Int × ByteArray × ByteArray) → Value
 | some (o, w1, fs) => .tuple #[.agg #[.int .i64 o, .string w1, .string fs], .bool true]
 | none => .tuple #[.agg #[.int .i64 0, .string ⟨#[]⟩, .string ⟨#[]⟩], .bool false]
theorem isBy_false {wd w1 fs : ByteArray} {code : Bool} {i o : Int} (h : text_of.f i code = some (o, w1, fs, false)) : isBy wd code i = none := by unfold isBy; rw [h]
theorem isBy_true {wd w1 fs : ByteArray} {code : Bool} {i o : Int} (h : text_of.f i code = some (o, w1, fs, true)) : isBy wd code i = if w1.toList = wd.toList then some (o, w1, fs) else none := by unfold isBy; rw [h]
theorem ite_some {α : Type} {c : Prop} [Decidable c] {a b : Option α} (ha : ∃ r, a = some r) (hb : ∃ r, b = some r) : ∃ r, (if c then a else b) = some r := by split <;> assumption
theorem text_of_total (op : Int) (code : Bool) : ∃ r, text_of.f op code = some r := by
 unfold text_of.f
 repeat' first | refine ite_some ?_ ?_ | exact ⟨_, rfl⟩
set_option maxHeartbeats 4000000 in
set_option maxRecDepth 100000 in
theorem by_calls (wd : ByteArray) (code : Bool) (w : World) :
 Calls Tryz.prog 65 #[.string wd, .bool code] w fun e w' => e = .returned (byVal (byOf wd code)) ∧ Below w.heap.size w w' := by
 have HB := zA (Below.refl w.heap.size w)
 have hu94 := Tryz.underlying102
 go_enter Tryz.func65, Tryz.ntmps65
 go_wp2_with ((with_reducible refine gate_dst (N := 4) rfl ?_); refine box_event (by rfl) (N := 4) (by rfl) (cs := #[.int .i64 0, .string (⟨#[]⟩ : ByteArray), .string (⟨#[]⟩ : ByteArray)]) (t := 102) ?hr ?_; (case hr => go_simp <;> rfl); intro gr hg w1 hbox hb; have BR := zA hbox; have HGr := zA (show w.heap.size ≤ gr by rw [hg]; exact HB.out.size); replace HB := zA (below_step HB.out hb); clear hb hbox hg)
 go_loopg [9] 23 (fun kq v9 w' => ∃ (i : Nat), v9 = .int .i64 (i : Int) ∧ Aside0 (kq + i = 23) ∧ Aside0 (byFrom wd code kq (i : Int) = byOf wd code) ∧ Aside0 (w'.heap[gr]? = some (.cells #[.int .i64 0, .string (⟨#[]⟩ : ByteArray), .string (⟨#[]⟩ : ByteArray)] 102 (0, 0))) ∧ Aside0 (Below w.heap.size w w'))
 case atStart => exact ⟨0, by first | rfl | simp, ⟨rfl⟩, ⟨rfl⟩, BR, HB⟩
 case round =>
  clear BR HB
  obtain ⟨i, rfl, HK, HF, BR, HB⟩ := hrel
  cases gk with
  | zero =>
   have hi : i = 23 := by have := HK.out; omega
   subst hi
   have HN := zA (show byOf wd code = none from HF.out.symm)
   have z1 := bk3 BR.out
   go_wp2_with fail
   refine bodyPost_ret (results_ct rfl _ _ gr 102 #[.int .i64 0, .string (⟨#[]⟩ : ByteArray), .string (⟨#[]⟩ : ByteArray)] (0, 0) _ rfl (blk_put (blk_put (blk_put BR.out 0 _ rfl) 1 _ rfl) 2 _ rfl) Tryz.underlying102 rfl (by kernel_rfl)) rfl ?_
   exact ⟨by rw [HN.out]; rfl, ((HB.out.setCell (p := ⟨gr, 0, none⟩) HGr.out _).setCell (p := ⟨gr, 1, none⟩) HGr.out _).setCell (p := ⟨gr, 2, none⟩) HGr.out _⟩
  | succ k1 =>
   have hi : i < 23 := by have := HK.out; omega
   have d1b := zF (show ((i : Int) < 23) by omega)
   have d1c := zF hi
   obtain ⟨⟨o, w1', fs, is⟩, hof⟩ := text_of_total (i : Int) code
   have HOf := zA hof
   have HFs : Aside0 (byOf wd code = (match isBy wd code (i : Int) with | some r => some r | none => byFrom wd code k1 ((i : Int) + 1))) := ⟨HF.out.symm⟩
   clear hof HF
   cases is with
   | false =>
    have HIs := zA (isBy_false (wd := wd) HOf.out)
    go_wp2_with (first
     | (go_at_call 59; refine (text_of.calls (i : Int) code o w1' fs false _ HOf.out).mono ?_; rintro e w2 ⟨rfl, hb⟩; replace BR := zA (blk_below BR.out hb); replace HB := zA (below_step HB.out hb); clear hb)
     | ((with_reducible refine gate_dst (N := 7) rfl ?_); refine box_event (by rfl) (N := 7) (by rfl) (cs := #[.int .i64 0, .string (⟨#[]⟩ : ByteArray), .string (⟨#[]⟩ : ByteArray)]) (t := 102) ?hr ?_; (case hr => go_simp <;> rfl); intro gf hg w3 hbox hb; have BF := zA hbox; have HGf := zA (show w.heap.size ≤ gf by rw [hg]; exact HB.out.size); have HNe := zA (show gr ≠ gf by rw [hg]; exact Nat.ne_of_lt (blk_lt BR.out)); replace BR := zA (blk_below BR.out hb); replace HB := zA (below_step HB.out hb); clear hb hbox hg; have z3 := bk3 BF.out))
    go_roundg k1
    case measure => have := HK.out; omega
    case rel => exact ⟨i + 1, by go_num, ⟨by have := HK.out; omega⟩, ⟨by rw [HFs.out, HIs.out]; first | rfl | simp⟩, ⟨blk_far (blk_far (blk_far BR.out (p := ⟨gf, 0, none⟩) HNe.out _) (p := ⟨gf, 1, none⟩) HNe.out _) (p := ⟨gf, 2, none⟩) HNe.out _⟩, ⟨((HB.out.setCell (p := ⟨gf, 0, none⟩) HGf.out _).setCell (p := ⟨gf, 1, none⟩) HGf.out _).setCell (p := ⟨gf, 2, none⟩) HGf.out _⟩⟩
   | true =>
    have HIs := zA (isBy_true (wd := wd) HOf.out)
    by_cases c1 : w1'.toList = wd.toList
    ·obtain ⟨c1a, c1b⟩ := qe c1
     have HY := zA (show byOf wd code = some (o, w1', fs) from by rw [HFs.out, HIs.out]; simp only [zC c1])
     clear c1 HFs HIs
     go_wp2_with (first
      | (go_at_call 59; refine (text_of.calls (i : Int) code o w1' fs true _ HOf.out).mono ?_; rintro e w2 ⟨rfl, hb⟩; replace BR := zA (blk_below BR.out hb); replace HB := zA (below_step HB.out hb); clear hb)
      | ((with_reducible refine gate_dst (N := 7) rfl ?_); refine box_event (by rfl) (N := 7) (by rfl) (cs := #[.int .i64 0, .string (⟨#[]⟩ : ByteArray), .string (⟨#[]⟩ : ByteArray)]) (t := 102) ?hr ?_; (case hr => go_simp <;> rfl); intro gf hg w3 hbox hb; have BF := zA hbox; have HGf := zA (show w.heap.size ≤ gf by rw [hg]; exact HB.out.size); have HNe := zA (show gr ≠ gf by rw [hg]; exact Nat.ne_of_lt (blk_lt BR.out)); replace BR := zA (blk_below BR.out hb); replace HB := zA (below_step HB.out hb); clear hb hbox hg; have z3 := bk3 BF.out; have z4 := bk3 BR.out; have hne := HNe.out; have hne2 := Ne.symm HNe.out))
     refine bodyPost_ret (results_ct rfl _ _ gr 102 #[.int .i64 o, .string w1', .string fs] (0, 0) _ rfl (blk_put (blk_put (blk_put (blk_far (blk_far (blk_far BR.out (p := ⟨gf, 0, none⟩) HNe.out _) (p := ⟨gf, 1, none⟩) HNe.out _) (p := ⟨gf, 2, none⟩) HNe.out _) 0 _ rfl) 1 _ rfl) 2 _ rfl) Tryz.underlying102 rfl (by kernel_rfl)) rfl ?_
     exact ⟨by rw [HY.out]; rfl, ((((((HB.out.setCell (p := ⟨gf, 0, none⟩) HGf.out _).setCell (p := ⟨gf, 1, none⟩) HGf.out _).setCell (p := ⟨gf, 2, none⟩) HGf.out _).setCell (p := ⟨gr, 0, none⟩) HGr.out _).setCell (p := ⟨gr, 1, none⟩) HGr.out _).setCell (p := ⟨gr, 2, none⟩) HGr.out _)⟩
    ·obtain ⟨c1a, c1b⟩ := qn c1
     go_wp2_with (first
      | (go_at_call 59; refine (text_of.calls (i : Int) code o w1' fs true _ HOf.out).mono ?_; rintro e w2 ⟨rfl, hb⟩; replace BR := zA (blk_below BR.out hb); replace HB := zA (below_step HB.out hb); clear hb)
      | ((with_reducible refine gate_dst (N := 7) rfl ?_); refine box_event (by rfl) (N := 7) (by rfl) (cs := #[.int .i64 0, .string (⟨#[]⟩ : ByteArray), .string (⟨#[]⟩ : ByteArray)]) (t := 102) ?hr ?_; (case hr => go_simp <;> rfl); intro gf hg w3 hbox hb; have BF := zA hbox; have HGf := zA (show w.heap.size ≤ gf by rw [hg]; exact HB.out.size); have HNe := zA (show gr ≠ gf by rw [hg]; exact Nat.ne_of_lt (blk_lt BR.out)); replace BR := zA (blk_below BR.out hb); replace HB := zA (below_step HB.out hb); clear hb hbox hg; have z3 := bk3 BF.out))
     go_roundg k1
     case measure => have := HK.out; omega
     case rel => exact ⟨i + 1, by go_num, ⟨by have := HK.out; omega⟩, ⟨by rw [HFs.out, HIs.out]; simp only [zD c1]; rfl⟩, ⟨blk_far (blk_far (blk_far BR.out (p := ⟨gf, 0, none⟩) HNe.out _) (p := ⟨gf, 1, none⟩) HNe.out _) (p := ⟨gf, 2, none⟩) HNe.out _⟩, ⟨((HB.out.setCell (p := ⟨gf, 0, none⟩) HGf.out _).setCell (p := ⟨gf, 1, none⟩) HGf.out _).setCell (p := ⟨gf, 2, none⟩) HGf.out _⟩⟩
end Go.Proofs.YtniknpjeknmpjaaGreatDoor.Q
namespace Go.Proofs.YtniknpjeknmpjaaGreatDoor.Q
open Go.RowKit Go.Shelf Go.Proofs.YtniknpjeknmpjaaGreatDoorW.PrintWords Go.Proofs.YtniknpjeknmpjaaGreatDoorW.PrintLast Go.Proofs.YtniknpjeknmpjaaGreatDoorW.PrintMore
set_option linter.unusedVariables false
def nameCut : ByteArray := ⟨#[97, 98, 99, 100, 101, 102, 103, 104, 105, 106, 107, 108, 109, 110, 111, 112, 113, 114, 115, 116, 117, 118, 119, 120, 121, 122, 48, 49, 50, 51, 52, 53, 54, 55, 56, 57]⟩
def strings_Trim.f (a0 a1 : ByteArray) : Option ByteArray := if a0.size ≤ 9223372036854775807 ∧ a1 = nameCut then some ⟨(Lib.trimS a0.data.toList a1.data.toList).toArray⟩ else none
theorem strings_Trim.calls (a0 a1 : ByteArray) (r : ByteArray) (w : World) (h : strings_Trim.f a0 a1 = some r) :
 Calls Tryz.prog 57 #[.string a0, .string a1] w fun e w' => e = .returned (.string r) ∧ Below w.heap.size w w' := by
 unfold strings_Trim.f at h
 split at h
 ·next c =>
  obtain ⟨c0, rfl⟩ := c
  obtain rfl := zI h
  exact Any.strings_Trim_laid Tryz.lays160 (by kernel_rfl) a0 nameCut w c0 (by decide) (ascii_of_all (by decide))
 ·exact absurd h (by simp)
end Go.Proofs.YtniknpjeknmpjaaGreatDoor.Q
namespace Go.Proofs.YtniknpjeknmpjaaGreatDoor.Q
open Go.RowKit Go.Proofs.YtniknpjeknmpjaaGreatDoorW.PrintWords Go.Proofs.YtniknpjeknmpjaaGreatDoorW.PrintLast Go.Proofs.YtniknpjeknmpjaaGreatDoorW.PrintMore
attribute [local go_sem] max2_int min2_int max_two min_two max_three min_three max_four min_four
set_option linter.unusedVariables false
set_option linter.unusedSimpArgs false

def ir_Name.f (a0 : ByteArray) : Option (Bool) := if a0.toList = ([] : List UInt8) then (some false) else (if (a0.size : Int) > 12 then (some false) else (if 0 < (a0.size : Int) then (if (bt a0 0) < 97 then (some false) else ((strings_Trim.f a0 (⟨#[97, 98, 99, 100, 101, 102, 103, 104, 105, 106, 107, 108, 109, 110, 111, 112, 113, 114, 115, 116, 117, 118, 119, 120, 121, 122, 48, 49, 50, 51, 52, 53, 54, 55, 56, 57]⟩ : ByteArray)).bind fun t109 => (some (t109.toList == ([] : List UInt8))))) else (none)))
set_option maxHeartbeats 8000000 in
set_option maxRecDepth 100000 in
theorem ir_Name.calls (a0 : ByteArray) (r : Bool) (w : World) (h : ir_Name.f a0 = some r) :
 Calls Tryz.prog 30 #[.string a0] w fun e w' => e = .returned (.bool r) ∧ Below w.heap.size w w' := by
 have HB := zA (Below.refl w.heap.size w)
 have H := h; clear h; unfold ir_Name.f at H
 by_cases c2 : a0.toList = ([] : List UInt8)
 ·rw [zC c2] at H
  obtain ⟨c2b0, c2b1⟩ := qe c2; clear c2
  obtain rfl := zI H
  go_enter Tryz.func30, Tryz.ntmps30
  go_wp2
  go_ret
  exact ⟨qE, qB⟩
 ·rw [zD c2] at H
  obtain ⟨c2b0, c2b1⟩ := qn c2
  by_cases c3 : (a0.size : Int) > 12
  ·rw [zC c3] at H
   have c3b0 : decide (12 < (a0.size : Int)) = true := zF c3
   have c3b1 : decide (12 < a0.size) = true := zF (by omega)
   clear c3
   obtain rfl := zI H
   go_enter Tryz.func30, Tryz.ntmps30
   go_wp2
   go_ret
   exact ⟨qE, qB⟩
  ·rw [zD c3] at H
   have c3b0 : decide (12 < (a0.size : Int)) = false := zG c3
   have c3b1 : decide (12 < a0.size) = false := zG (by omega)
   clear c3
   by_cases c4 : 0 < (a0.size : Int)
   ·rw [zC c4] at H
    have c4b0 := zF c4
    have c4b1 : decide (0 < a0.size) = true := zF (by omega)
    clear c4
    by_cases c6 : (bt a0 0) < 97
    ·rw [zC c6] at H
     have c6b0 := zF c6
     clear c6
     obtain rfl := zI H
     have p5 : 0 ≤ (0 : Int) := (by omega)
     have q5 : 0 < a0.size := (by have : (0 : Int) < (a0.size : Int) := zB qA; omega)
     have hx5 : ∀ h : 0 < a0.size, ((a0[0]'h).toNat : Int) = bt a0 0 := bt_at a0 0
     clear p5
     have qi5 : (0 < (a0.size : Int)) = True := eq_true (zB qA)
     replace q5 := eq_true q5
     go_enter Tryz.func30, Tryz.ntmps30
     go_wp2
     go_ret
     exact ⟨qE, qB⟩
    ·rw [zD c6] at H
     have c6b0 := zG c6
     clear c6
     replace H := qb H; obtain ⟨t109, A7, H⟩ := H
     obtain rfl := zI H
     have p5 : 0 ≤ (0 : Int) := (by omega)
     have q5 : 0 < a0.size := (by have : (0 : Int) < (a0.size : Int) := zB qA; omega)
     have hx5 : ∀ h : 0 < a0.size, ((a0[0]'h).toNat : Int) = bt a0 0 := bt_at a0 0
     clear p5
     have qi5 : (0 < (a0.size : Int)) = True := eq_true (zB qA)
     replace q5 := eq_true q5
     go_enter Tryz.func30, Tryz.ntmps30
     go_wp2_with (first | ((with_reducible refine gate_callee (f := 57) rfl ?_); refine goesL_ (some 16) rfl rfl Tryz.func57 (by kernel_rfl) rfl #[.string a0, .string (⟨#[97, 98, 99, 100, 101, 102, 103, 104, 105, 106, 107, 108, 109, 110, 111, 112, 113, 114, 115, 116, 117, 118, 119, 120, 121, 122, 48, 49, 50, 51, 52, 53, 54, 55, 56, 57]⟩ : ByteArray)] rfl qL ?_; (with_reducible refine (strings_Trim.calls a0 (⟨#[97, 98, 99, 100, 101, 102, 103, 104, 105, 106, 107, 108, 109, 110, 111, 112, 113, 114, 115, 116, 117, 118, 119, 120, 121, 122, 48, 49, 50, 51, 52, 53, 54, 55, 56, 57]⟩ : ByteArray) t109 _ A7.out).mono ?_); rintro e w8 ⟨rfl, hb⟩; refine ⟨_, rfl, ?_⟩; replace HB := qH hb; (try clear hb)))
     go_ret
     exact ⟨qE, qB⟩
   ·rw [zD c4] at H
    exact absurd H (by simp)

mutual
def cubbyref07_Name.j0 : Nat → ByteArray → Bool → Option (Bool)
 | 0, _, _ => none
 | k + 1, x0, x13 => if x13 = true then (some false) else (cubbyref07_Name.l0 k x0 0)
def cubbyref07_Name.l0 : Nat → ByteArray → Int → Option (Bool)
 | 0, _, _ => none
 | k + 1, x0, x3 => if x3 < (x0.size : Int) then (if 0 ≤ x3 then (if (bt x0 x3) ≥ 97 then (if (bt x0 x3) ≥ 48 then (if ((bt x0 x3) ≤ 122) then (cubbyref07_Name.l0 k x0 (wrap64 (x3 + 1))) else (if ((bt x0 x3) ≤ 57) then (if x3 = 0 then (some false) else (cubbyref07_Name.l0 k x0 (wrap64 (x3 + 1)))) else (some false))) else (if ((bt x0 x3) ≤ 122) then (cubbyref07_Name.l0 k x0 (wrap64 (x3 + 1))) else (some false))) else (if (bt x0 x3) ≥ 48 then (if ((bt x0 x3) ≤ 57) then (if x3 = 0 then (some false) else (cubbyref07_Name.l0 k x0 (wrap64 (x3 + 1)))) else (some false)) else (some false))) else (none)) else (some true)
end
def cubbyref07_Name.f (k : Nat) (a0 : ByteArray) : Option (Bool) := if (a0.size : Int) < 1 then (cubbyref07_Name.j0 k a0 true) else (cubbyref07_Name.j0 k a0 (decide ((a0.size : Int) > 12)))
set_option maxHeartbeats 8000000 in
set_option maxRecDepth 100000 in
theorem cubbyref07_Name.calls (k : Nat) (a0 : ByteArray) (r : Bool) (w : World) (h : cubbyref07_Name.f k a0 = some r) :
 Calls Tryz.prog 22 #[.string a0] w fun e w' => e = .returned (.bool r) ∧ Drawn0 w w' := by
 have H := h; clear h; unfold cubbyref07_Name.f at H
 have HC2 := zA H
 clear H
 go_enter Tryz.func22, Tryz.ntmps22
 go_upto_region 1 with (fail)
 go_cut [13] (fun v13 wc => ∃ (kq : Nat) (x13_1 : Bool), v13 = .bool x13_1 ∧ Aside0 (cubbyref07_Name.j0 kq a0 x13_1 = some r) ∧ Aside0 (kq ≤ k) ∧ Drawn0 w wc)
 case first =>
  have H := HC2.out
  clear HC2
  by_cases c3 : (a0.size : Int) < 1
  ·rw [zC c3] at H
   have c3b0 := zF c3
   have c3b1 : decide (a0.size < 1) = true := zF (by omega)
   clear c3
   (first | rw [c3b0] | (simp only [i64_w, i32_w]; rw [c3b0]) | skip)
   have H' := zA H
   clear H
   go_wp2
   go_meet
   case rel => exact ⟨_, (true), qT, H', ⟨qO⟩, qD⟩
  ·rw [zD c3] at H
   have c3b0 := zG c3
   have c3b1 : decide (a0.size < 1) = false := zG (by omega)
   clear c3
   (first | rw [c3b0] | (simp only [i64_w, i32_w]; rw [c3b0]) | skip)
   have H' := zA H
   clear H
   go_wp2
   go_meet
   case rel => exact ⟨_, (decide ((a0.size : Int) > 12)), qT, H', ⟨qO⟩, qD⟩
 case rest =>
  clear HC2
  obtain ⟨kq, x13_1, rfl, HA, HJ1, ⟨mc1, rfl⟩⟩ := hcut
  cases kq with
  | zero => exact absurd HA.out (by simp [cubbyref07_Name.j0])
  | succ kj1 =>
   have H := HA.out
   clear HA
   simp only [cubbyref07_Name.j0] at H
   by_cases c4 : x13_1 = true
   ·subst c4
    have H1 : (some false) = some r := by rw [zC rfl] at H; exact H
    clear H
    have H := H1
    clear H1
    obtain rfl := zI H
    go_wp2
    go_ret
    exact ⟨by first | rfl | (simp; done) | (simp [*]; done), qD⟩
   ·replace c4 := Bool.eq_false_iff.mpr c4
    subst c4
    have H1 : (cubbyref07_Name.l0 kj1 a0 0) = some r := by rw [zD (show ¬ (false = true) by decide)] at H; exact H
    clear H
    have H := H1
    clear H1
    have H' := zA H
    clear H
    go_wp2
    go_loopg [3] kj1 (fun kq v3 w' => ∃ (x3_2 : Int), v3 = .int .i64 x3_2 ∧ Aside0 (cubbyref07_Name.l0 kq a0 x3_2 = some r) ∧ Aside0 (kq ≤ kj1) ∧ Drawn0 w w')
    case atStart => exact ⟨(0), qT, H', ⟨Nat.le_refl _⟩, qD⟩
    case round =>
     clear H'
     obtain ⟨x3_2, rfl, HA, HK2, ⟨m2, rfl⟩⟩ := hrel
     cases gk with
     | zero => exact absurd HA.out (by simp [cubbyref07_Name.l0])
     | succ k2 =>
      have H := HA.out
      clear HA
      simp only [cubbyref07_Name.l0] at H
      by_cases c5 : x3_2 < (a0.size : Int)
      ·rw [zC c5] at H
       have c5b0 := zF c5
       clear c5
       by_cases c6 : 0 ≤ x3_2
       ·rw [zC c6] at H
        have c6b0 := zF c6
        clear c6
        by_cases c8 : (bt a0 x3_2) ≥ 97
        ·rw [zC c8] at H
         have c8b0 : decide (97 ≤ (bt a0 x3_2)) = true := zF c8
         clear c8
         by_cases c11 : (bt a0 x3_2) ≥ 48
         ·rw [zC c11] at H
          have c11b0 : decide (48 ≤ (bt a0 x3_2)) = true := zF c11
          clear c11
          by_cases c13 : ((bt a0 x3_2) ≤ 122)
          ·rw [zC c13] at H
           have c13b0 : decide ((bt a0 x3_2) ≤ 122) = true := zF c13
           clear c13
           have H' := zA H
           clear H
           have p7 : 0 ≤ (x3_2 : Int) := zB qA
           have q7 : x3_2 < (a0.size : Int) := zB qA
           have hx7 := bt_at a0 x3_2
           replace p7 := eq_true p7
           replace q7 := eq_true q7
           have p9 : 0 ≤ (x3_2 : Int) := zB qA
           have q9 : x3_2 < (a0.size : Int) := zB qA
           have hx9 := bt_at a0 x3_2
           replace p9 := eq_true p9
           replace q9 := eq_true q9
           have p10 : 0 ≤ (x3_2 : Int) := zB qA
           have q10 : x3_2 < (a0.size : Int) := zB qA
           have hx10 := bt_at a0 x3_2
           replace p10 := eq_true p10
           replace q10 := eq_true q10
           have p12 : 0 ≤ (x3_2 : Int) := zB qA
           have q12 : x3_2 < (a0.size : Int) := zB qA
           have hx12 := bt_at a0 x3_2
           replace p12 := eq_true p12
           replace q12 := eq_true q12
           go_wp2
           go_roundg k2
           case measure => have := HJ1.out; have := HK2.out; omega
           case rel => exact ⟨(wrap64 (x3_2 + 1)), qT, H', ⟨by have := HJ1.out; have := HK2.out; omega⟩, qD⟩
          ·rw [zD c13] at H
           have c13b0 : decide ((bt a0 x3_2) ≤ 122) = false := zG c13
           clear c13
           by_cases c14 : ((bt a0 x3_2) ≤ 57)
           ·rw [zC c14] at H
            have c14b0 : decide ((bt a0 x3_2) ≤ 57) = true := zF c14
            clear c14
            by_cases c15 : x3_2 = 0
            ·rw [zC c15] at H
             obtain ⟨c15b0, c15b1⟩ := qe c15; clear c15
             obtain rfl := zI H
             have p7 : 0 ≤ (x3_2 : Int) := zB qA
             have q7 : x3_2 < (a0.size : Int) := zB qA
             have hx7 := bt_at a0 x3_2
             replace p7 := eq_true p7
             replace q7 := eq_true q7
             have p9 : 0 ≤ (x3_2 : Int) := zB qA
             have q9 : x3_2 < (a0.size : Int) := zB qA
             have hx9 := bt_at a0 x3_2
             replace p9 := eq_true p9
             replace q9 := eq_true q9
             have p10 : 0 ≤ (x3_2 : Int) := zB qA
             have q10 : x3_2 < (a0.size : Int) := zB qA
             have hx10 := bt_at a0 x3_2
             replace p10 := eq_true p10
             replace q10 := eq_true q10
             have p12 : 0 ≤ (x3_2 : Int) := zB qA
             have q12 : x3_2 < (a0.size : Int) := zB qA
             have hx12 := bt_at a0 x3_2
             replace p12 := eq_true p12
             replace q12 := eq_true q12
             go_wp2
             go_ret
             exact ⟨by first | rfl | (simp; done) | (simp [*]; done), qD⟩
            ·rw [zD c15] at H
             obtain ⟨c15b0, c15b1⟩ := qn c15
             have H' := zA H
             clear H
             have p7 : 0 ≤ (x3_2 : Int) := zB qA
             have q7 : x3_2 < (a0.size : Int) := zB qA
             have hx7 := bt_at a0 x3_2
             replace p7 := eq_true p7
             replace q7 := eq_true q7
             have p9 : 0 ≤ (x3_2 : Int) := zB qA
             have q9 : x3_2 < (a0.size : Int) := zB qA
             have hx9 := bt_at a0 x3_2
             replace p9 := eq_true p9
             replace q9 := eq_true q9
             have p10 : 0 ≤ (x3_2 : Int) := zB qA
             have q10 : x3_2 < (a0.size : Int) := zB qA
             have hx10 := bt_at a0 x3_2
             replace p10 := eq_true p10
             replace q10 := eq_true q10
             have p12 : 0 ≤ (x3_2 : Int) := zB qA
             have q12 : x3_2 < (a0.size : Int) := zB qA
             have hx12 := bt_at a0 x3_2
             replace p12 := eq_true p12
             replace q12 := eq_true q12
             go_wp2
             go_roundg k2
             case measure => have := HJ1.out; have := HK2.out; omega
             case rel => exact ⟨(wrap64 (x3_2 + 1)), qT, H', ⟨by have := HJ1.out; have := HK2.out; omega⟩, qD⟩
           ·rw [zD c14] at H
            have c14b0 : decide ((bt a0 x3_2) ≤ 57) = false := zG c14
            clear c14
            obtain rfl := zI H
            have p7 : 0 ≤ (x3_2 : Int) := zB qA
            have q7 : x3_2 < (a0.size : Int) := zB qA
            have hx7 := bt_at a0 x3_2
            replace p7 := eq_true p7
            replace q7 := eq_true q7
            have p9 : 0 ≤ (x3_2 : Int) := zB qA
            have q9 : x3_2 < (a0.size : Int) := zB qA
            have hx9 := bt_at a0 x3_2
            replace p9 := eq_true p9
            replace q9 := eq_true q9
            have p10 : 0 ≤ (x3_2 : Int) := zB qA
            have q10 : x3_2 < (a0.size : Int) := zB qA
            have hx10 := bt_at a0 x3_2
            replace p10 := eq_true p10
            replace q10 := eq_true q10
            have p12 : 0 ≤ (x3_2 : Int) := zB qA
            have q12 : x3_2 < (a0.size : Int) := zB qA
            have hx12 := bt_at a0 x3_2
            replace p12 := eq_true p12
            replace q12 := eq_true q12
            go_wp2
            go_ret
            exact ⟨by first | rfl | (simp; done) | (simp [*]; done), qD⟩
         ·rw [zD c11] at H
          have c11b0 : decide (48 ≤ (bt a0 x3_2)) = false := zG c11
          clear c11
          by_cases c16 : ((bt a0 x3_2) ≤ 122)
          ·rw [zC c16] at H
           have c16b0 : decide ((bt a0 x3_2) ≤ 122) = true := zF c16
           clear c16
           have H' := zA H
           clear H
           have p7 : 0 ≤ (x3_2 : Int) := zB qA
           have q7 : x3_2 < (a0.size : Int) := zB qA
           have hx7 := bt_at a0 x3_2
           replace p7 := eq_true p7
           replace q7 := eq_true q7
           have p9 : 0 ≤ (x3_2 : Int) := zB qA
           have q9 : x3_2 < (a0.size : Int) := zB qA
           have hx9 := bt_at a0 x3_2
           replace p9 := eq_true p9
           replace q9 := eq_true q9
           have p10 : 0 ≤ (x3_2 : Int) := zB qA
           have q10 : x3_2 < (a0.size : Int) := zB qA
           have hx10 := bt_at a0 x3_2
           replace p10 := eq_true p10
           replace q10 := eq_true q10
           go_wp2
           go_roundg k2
           case measure => have := HJ1.out; have := HK2.out; omega
           case rel => exact ⟨(wrap64 (x3_2 + 1)), qT, H', ⟨by have := HJ1.out; have := HK2.out; omega⟩, qD⟩
          ·rw [zD c16] at H
           have c16b0 : decide ((bt a0 x3_2) ≤ 122) = false := zG c16
           clear c16
           obtain rfl := zI H
           have p7 : 0 ≤ (x3_2 : Int) := zB qA
           have q7 : x3_2 < (a0.size : Int) := zB qA
           have hx7 := bt_at a0 x3_2
           replace p7 := eq_true p7
           replace q7 := eq_true q7
           have p9 : 0 ≤ (x3_2 : Int) := zB qA
           have q9 : x3_2 < (a0.size : Int) := zB qA
           have hx9 := bt_at a0 x3_2
           replace p9 := eq_true p9
           replace q9 := eq_true q9
           have p10 : 0 ≤ (x3_2 : Int) := zB qA
           have q10 : x3_2 < (a0.size : Int) := zB qA
           have hx10 := bt_at a0 x3_2
           replace p10 := eq_true p10
           replace q10 := eq_true q10
           go_wp2
           go_ret
           exact ⟨by first | rfl | (simp; done) | (simp [*]; done), qD⟩
        ·rw [zD c8] at H
         have c8b0 : decide (97 ≤ (bt a0 x3_2)) = false := zG c8
         clear c8
         by_cases c18 : (bt a0 x3_2) ≥ 48
         ·rw [zC c18] at H
          have c18b0 : decide (48 ≤ (bt a0 x3_2)) = true := zF c18
          clear c18
          by_cases c20 : ((bt a0 x3_2) ≤ 57)
          ·rw [zC c20] at H
           have c20b0 : decide ((bt a0 x3_2) ≤ 57) = true := zF c20
           clear c20
           by_cases c21 : x3_2 = 0
           ·rw [zC c21] at H
            obtain ⟨c21b0, c21b1⟩ := qe c21; clear c21
            obtain rfl := zI H
            have p7 : 0 ≤ (x3_2 : Int) := zB qA
            have q7 : x3_2 < (a0.size : Int) := zB qA
            have hx7 := bt_at a0 x3_2
            replace p7 := eq_true p7
            replace q7 := eq_true q7
            have p17 : 0 ≤ (x3_2 : Int) := zB qA
            have q17 : x3_2 < (a0.size : Int) := zB qA
            have hx17 := bt_at a0 x3_2
            replace p17 := eq_true p17
            replace q17 := eq_true q17
            have p19 : 0 ≤ (x3_2 : Int) := zB qA
            have q19 : x3_2 < (a0.size : Int) := zB qA
            have hx19 := bt_at a0 x3_2
            replace p19 := eq_true p19
            replace q19 := eq_true q19
            go_wp2
            go_ret
            exact ⟨by first | rfl | (simp; done) | (simp [*]; done), qD⟩
           ·rw [zD c21] at H
            obtain ⟨c21b0, c21b1⟩ := qn c21
            have H' := zA H
            clear H
            have p7 : 0 ≤ (x3_2 : Int) := zB qA
            have q7 : x3_2 < (a0.size : Int) := zB qA
            have hx7 := bt_at a0 x3_2
            replace p7 := eq_true p7
            replace q7 := eq_true q7
            have p17 : 0 ≤ (x3_2 : Int) := zB qA
            have q17 : x3_2 < (a0.size : Int) := zB qA
            have hx17 := bt_at a0 x3_2
            replace p17 := eq_true p17
            replace q17 := eq_true q17
            have p19 : 0 ≤ (x3_2 : Int) := zB qA
            have q19 : x3_2 < (a0.size : Int) := zB qA
            have hx19 := bt_at a0 x3_2
            replace p19 := eq_true p19
            replace q19 := eq_true q19
            go_wp2
            go_roundg k2
            case measure => have := HJ1.out; have := HK2.out; omega
            case rel => exact ⟨(wrap64 (x3_2 + 1)), qT, H', ⟨by have := HJ1.out; have := HK2.out; omega⟩, qD⟩
          ·rw [zD c20] at H
           have c20b0 : decide ((bt a0 x3_2) ≤ 57) = false := zG c20
           clear c20
           obtain rfl := zI H
           have p7 : 0 ≤ (x3_2 : Int) := zB qA
           have q7 : x3_2 < (a0.size : Int) := zB qA
           have hx7 := bt_at a0 x3_2
           replace p7 := eq_true p7
           replace q7 := eq_true q7
           have p17 : 0 ≤ (x3_2 : Int) := zB qA
           have q17 : x3_2 < (a0.size : Int) := zB qA
           have hx17 := bt_at a0 x3_2
           replace p17 := eq_true p17
           replace q17 := eq_true q17
           have p19 : 0 ≤ (x3_2 : Int) := zB qA
           have q19 : x3_2 < (a0.size : Int) := zB qA
           have hx19 := bt_at a0 x3_2
           replace p19 := eq_true p19
           replace q19 := eq_true q19
           go_wp2
           go_ret
           exact ⟨by first | rfl | (simp; done) | (simp [*]; done), qD⟩
         ·rw [zD c18] at H
          have c18b0 : decide (48 ≤ (bt a0 x3_2)) = false := zG c18
          clear c18
          obtain rfl := zI H
          have p7 : 0 ≤ (x3_2 : Int) := zB qA
          have q7 : x3_2 < (a0.size : Int) := zB qA
          have hx7 := bt_at a0 x3_2
          replace p7 := eq_true p7
          replace q7 := eq_true q7
          have p17 : 0 ≤ (x3_2 : Int) := zB qA
          have q17 : x3_2 < (a0.size : Int) := zB qA
          have hx17 := bt_at a0 x3_2
          replace p17 := eq_true p17
          replace q17 := eq_true q17
          go_wp2
          go_ret
          exact ⟨by first | rfl | (simp; done) | (simp [*]; done), qD⟩
       ·rw [zD c6] at H
        exact absurd H (by simp)
      ·rw [zD c5] at H
       have c5b0 := zG c5
       clear c5
       obtain rfl := zI H
       go_wp2
       go_ret
       exact ⟨by first | rfl | (simp; done) | (simp [*]; done), qD⟩
end Go.Proofs.YtniknpjeknmpjaaGreatDoor.Q
namespace Go.Proofs.YtniknpjeknmpjaaGreatDoor.PlainName
open Go Go.RowKit Go.Proofs.YtniknpjeknmpjaaGreatDoorW.PrintWords Go.Proofs.YtniknpjeknmpjaaGreatDoorW.PrintMore Go.Proofs.YtniknpjeknmpjaaGreatDoor.Q Go.Proofs.YtniknpjeknmpjaaGreatDoor.Plain
set_option linter.unusedVariables false
set_option linter.unusedSimpArgs false
def lowD (x : UInt8) : Bool := decide ((97 ≤ x.toNat ∧ x.toNat ≤ 122) ∨ (48 ≤ x.toNat ∧ x.toNat ≤ 57))
def nameOk (s : ByteArray) : Bool := decide (1 ≤ s.size ∧ s.size ≤ 12 ∧ 97 ≤ bt s 0) && s.data.toList.all lowD
theorem cut_has (x : UInt8) : nameCut.data.toList.contains x = lowD x := by
 have h : ∀ n, n < 256 → nameCut.data.toList.contains (UInt8.ofNat n) = lowD (UInt8.ofNat n) := by decide +kernel
 have := h x.toNat x.toNat_lt
 rwa [UInt8.ofNat_toNat] at this
theorem dw_nil {p : UInt8 → Bool} : ∀ {l : List UInt8}, l.dropWhile p = [] ↔ ∀ x, x ∈ l → p x = true
 | [] => by simp
 | a :: t => by
  rw [List.dropWhile_cons]
  by_cases h : p a = true
  ·rw [zC h, dw_nil (l := t)]
   constructor
   ·intro g x hx
    rcases List.mem_cons.1 hx with rfl | hx
    ·exact h
    ·exact g x hx
   ·exact fun g x hx => g x (List.mem_cons_of_mem _ hx)
  ·rw [zD h]
   constructor
   ·intro g
    exact absurd g (by simp)
   ·intro g
    exact absurd (g a List.mem_cons_self) h
theorem trim_nil (l cs : List UInt8) : Lib.trimS l cs = [] ↔ l.all (cs.contains ·) = true := by
 unfold Lib.trimS Lib.trimLeftS Lib.trimRightS
 constructor
 ·intro h
  rw [dw_nil] at h
  rw [List.all_eq_true]
  intro x hx
  have h2 : x ∈ l.reverse := List.mem_reverse.2 hx
  rw [← List.takeWhile_append_dropWhile (p := fun x => cs.contains x) (l := l.reverse)] at h2
  rcases List.mem_append.1 h2 with h3 | h3
  ·exact (List.all_eq_true.1 (List.all_takeWhile (p := fun x => cs.contains x) (l := l.reverse))) x h3
  ·exact h x (List.mem_reverse.2 h3)
 ·intro h
  have h1 : l.reverse.dropWhile (cs.contains ·) = [] := by
   rw [dw_nil]
   intro x hx
   exact List.all_eq_true.1 h x (List.mem_reverse.1 hx)
  rw [h1]
  rfl
theorem size_list (s : ByteArray) : s.data.toList.length = s.size := by simp
theorem bt_get {s : ByteArray} {j : Nat} (h : j < s.data.toList.length) : bt s (j : Int) = ((s.data.toList[j]).toNat : Int) := by
 have hs := size_list s
 unfold bt
 rw [dif_pos (by omega)]
 rfl
theorem name_eq (s : ByteArray) : ir_Name.f s = some (nameOk s) := by
 have hs := size_list s
 unfold ir_Name.f
 rw [toList_data]
 by_cases h0 : s.data.toList = []
 ·have : s.size = 0 := by
   rw [h0] at hs
   exact hs.symm
  rw [zC h0]
  unfold nameOk
  rw [zG (by omega)]
  rfl
 ·have h1 : 0 < s.size := by
   rw [← hs]
   exact List.length_pos_iff.2 h0
  rw [zD h0]
  by_cases h2 : (s.size : Int) > 12
  ·rw [zC h2]
   unfold nameOk
   rw [zG (by omega)]
   rfl
  ·rw [zD h2, zC (by omega)]
   by_cases h3 : bt s 0 < 97
   ·rw [zC h3]
    unfold nameOk
    rw [zG (by omega)]
    rfl
   ·rw [zD h3]
    unfold strings_Trim.f
    rw [zC ⟨by omega, rfl⟩]
    simp only [zJ]
    rw [toList_data]
    unfold nameOk
    rw [zF (by omega), Bool.true_and, List.toList_toArray]
    congr 1
    have hc : s.data.toList.all (nameCut.data.toList.contains ·) = s.data.toList.all lowD := by
     congr 1
     funext x
     exact cut_has x
    have ht := trim_nil s.data.toList nameCut.data.toList
    rw [hc] at ht
    by_cases ha : s.data.toList.all lowD = true
    ·rw [ha]
     exact beq_iff_eq.2 (ht.2 ha)
    ·rw [Bool.not_eq_true _ |>.mp ha]
     exact beq_eq_false_iff_ne.2 fun e => ha (ht.1 e)
def restOk (s : ByteArray) (j : Nat) : Bool := (s.data.toList.drop j).all lowD && decide (j = 0 → 97 ≤ bt s 0)
theorem refname_loop (s : ByteArray) (hl : s.size ≤ 12) : ∀ (d j : Nat), s.size - j = d → j ≤ s.size → (j = 0 → 0 < s.size) → Ev (fun k => cubbyref07_Name.l0 k s (j : Int)) (restOk s j) := by
 have hs := size_list s
 intro d
 induction d with
 | zero =>
  intro j hd hj h0
  have : restOk s j = true := by
   unfold restOk
   rw [List.drop_eq_nil_of_le (by omega)]
   simp
   omega
  rw [this]
  exact Ev.step (f := fun _ => some true) (fun k => by simp only [cubbyref07_Name.l0]; rw [zD (by omega)]) (Ev.now _)
 | succ d ih =>
  intro j hd hj h0
  have hlt : j < s.data.toList.length := by omega
  have hb := bt_get hlt
  have hR : restOk s j = (lowD (s.data.toList[j]) && decide (j = 0 → 97 ≤ bt s 0) && restOk s (j + 1)) := by
   unfold restOk
   rw [drop_cons hlt]
   simp
   cases lowD s.data.toList[j] <;> cases (List.drop (j + 1) s.data.toList).all lowD <;> simp
  have hlow : lowD (s.data.toList[j]) = decide ((97 ≤ bt s (j : Int) ∧ bt s (j : Int) ≤ 122) ∨ (48 ≤ bt s (j : Int) ∧ bt s (j : Int) ≤ 57)) := by
   unfold lowD
   rw [hb]
   apply decide_eq_decide.2
   omega
  have hj0 : j = 0 → bt s (j : Int) = bt s 0 := by
   rintro rfl
   rfl
  rw [hR, hlow]
  have hstep : ∀ k, cubbyref07_Name.l0 (k + 1) s (j : Int) = (if (97 ≤ bt s (j : Int) ∧ bt s (j : Int) ≤ 122) ∨ ((48 ≤ bt s (j : Int) ∧ bt s (j : Int) ≤ 57) ∧ j ≠ 0) then cubbyref07_Name.l0 k s ((j + 1 : Nat) : Int) else some false) := by
   intro k
   simp only [cubbyref07_Name.l0]
   rw [zC (by omega : (j : Int) < (s.size : Int)), zC (by omega : (0 : Int) ≤ (j : Int)), wrap_nat (by omega)]
   repeat' split
   all_goals first
    | rfl
    | omega
  by_cases c : (97 ≤ bt s (j : Int) ∧ bt s (j : Int) ≤ 122) ∨ ((48 ≤ bt s (j : Int) ∧ bt s (j : Int) ≤ 57) ∧ j ≠ 0)
  ·refine Ev.step (fun k => (hstep k).trans (zC c)) ?_
   rw [zF (by omega), zF (by intro h; have := hj0 h; omega), Bool.true_and, Bool.true_and]
   exact ih (j + 1) (by omega) (by omega) (by omega)
  ·refine Ev.step (f := fun _ => some false) (fun k => (hstep k).trans (zD c)) ?_
   have : (decide ((97 ≤ bt s (j : Int) ∧ bt s (j : Int) ≤ 122) ∨ (48 ≤ bt s (j : Int) ∧ bt s (j : Int) ≤ 57)) && decide (j = 0 → 97 ≤ bt s 0)) = false := by
    by_cases c1 : (97 ≤ bt s (j : Int) ∧ bt s (j : Int) ≤ 122) ∨ (48 ≤ bt s (j : Int) ∧ bt s (j : Int) ≤ 57)
    ·rw [zG (p := (j = 0 → 97 ≤ bt s 0)) (fun h => by
      have h9 : j = 0 := by omega
      have := hj0 h9
      have := h h9
      omega), Bool.and_false]
    ·rw [zG c1, Bool.false_and]
   rw [this, Bool.false_and]
   exact Ev.now _
theorem refname_ev (s : ByteArray) : Ev (fun k => cubbyref07_Name.f k s) (nameOk s) := by
 have hyes : (s.size < 1 ∨ 12 < s.size) → Ev (fun k => cubbyref07_Name.j0 k s true) (nameOk s) := fun h => by
  have : nameOk s = false := by
   unfold nameOk
   rw [zG (by omega)]
   rfl
  rw [this]
  exact Ev.step (f := fun _ => some false) (fun k => by simp only [cubbyref07_Name.j0, if_true]) (Ev.now _)
 by_cases h1 : (s.size : Int) < 1
 ·exact Ev.congr (fun k => by unfold cubbyref07_Name.f; rw [zC h1]) (hyes (by omega))
 refine Ev.congr (f := fun k => cubbyref07_Name.j0 k s (decide ((s.size : Int) > 12))) (fun k => by unfold cubbyref07_Name.f; rw [zD h1]) ?_
 by_cases h2 : (s.size : Int) > 12
 ·rw [zF h2]
  exact hyes (by omega)
 ·rw [zG h2]
  refine Ev.step (f := fun k => cubbyref07_Name.l0 k s ((0 : Nat) : Int)) (fun k => by simp only [cubbyref07_Name.j0]; rw [zD (by simp)]; rfl) ?_
  have := refname_loop s (by omega) s.size 0 (by omega) (by omega) (by omega)
  have hR : restOk s 0 = nameOk s := by
   unfold restOk nameOk
   rw [List.drop_zero, Bool.and_comm]
   congr 1
   apply decide_eq_decide.2
   constructor
   ·intro h
    exact ⟨by omega, by omega, h rfl⟩
   ·intro h _
    exact h.2.2
  rw [← hR]
  exact this
end Go.Proofs.YtniknpjeknmpjaaGreatDoor.PlainName
namespace Go.Proofs.YtniknpjeknmpjaaGreatDoor.Q
open Go.RowKit Go.Shelf Go.Proofs.YtniknpjeknmpjaaGreatDoor.Plain Go.Proofs.YtniknpjeknmpjaaGreatDoor.PlainName Go.Proofs.YtniknpjeknmpjaaGreatDoorW.PrintWords Go.Proofs.YtniknpjeknmpjaaGreatDoorW.PrintLast Go.Proofs.YtniknpjeknmpjaaGreatDoorW.PrintMore
set_option linter.unusedVariables false
set_option linter.unusedSimpArgs false
theorem iter_cells2 {w : World} {k0 : Nat} {s : ByteArray} {p q : Nat} (hi : w.heap[k0]? = some (.stringIter s p)) {k t : Nat} {cs : Array Value} {fr : Nat × Nat} (hk : w.heap[k]? = some (.cells cs t fr)) : (w.iterAt k0 s q).heap[k]? = some (.cells cs t fr) := by
 refine (Lib.iterAt_other w k0 k s q (fun e => ?_)).trans hk
 subst e
 have := hi.symm.trans hk
 simp at this
def setF (c : UInt8) (n : Int) (x : SIns) : SIns := if c = 68 then { x with f1 := n } else if c = 65 then { x with f2 := n } else if c = 66 then { x with f3 := n } else x
def fillR (ws : List ByteArray) : List UInt8 → Nat → SIns → Int × SIns
 | [], _, x => (0, x)
 | c :: r, at_, x =>
  if c = 78 then (match ws[at_]? with | some t => if nameOk t = true then fillR ws r (at_ + 1) { x with f4 := t } else (80, x) | none => (80, x))
  else if c = 76 then (match (ws.drop at_).mapM numOf with | some l => fillR ws r at_ { x with f5 := x.f5 ++ l } | none => (81, x))
  else (match ws[at_]? with | some t => (match numOf t with | some n => fillR ws r (at_ + 1) (setF c n x) | none => (81, x)) | none => (81, x))
def wants : List UInt8 → Nat
 | [] => 0
 | c :: r => (if c = 76 then 0 else 1) + wants r
def WordsAt (gw o : Nat) (ws : List ByteArray) (w : World) : Prop := ∃ cs : Array Value, w.heap[gw]? = some (.cells cs 9 (0, 0)) ∧ ∀ (i : Nat) t, ws[i]? = some t → cs[o + i]? = some (.string t)
theorem WordsAt.cell {gw o : Nat} {ws : List ByteArray} {w : World} (h : WordsAt gw o ws w) {i : Nat} {t : ByteArray} (ht : ws[i]? = some t) : w.cell? ⟨gw, o + i, none⟩ = some (.string t) := by
 obtain ⟨cs, hk, hc⟩ := h
 exact (blk_cell hk (o + i)).trans (hc i t ht)
theorem WordsAt.low {gw o D : Nat} {ws : List ByteArray} {w w' : World} (h : WordsAt gw o ws w) (hg : gw < D) (hb : Below D w w') : WordsAt gw o ws w' := by
 obtain ⟨cs, hk, hc⟩ := h
 exact ⟨cs, (hb.block gw hg).trans hk, hc⟩
theorem WordsAt.tail {gw o : Nat} {a : ByteArray} {ws : List ByteArray} {w : World} (h : WordsAt gw o (a :: ws) w) : WordsAt gw (o + 1) ws w := by
 obtain ⟨cs, hk, hc⟩ := h
 exact ⟨cs, hk, fun i t ht => by have := hc (i + 1) t (by simpa using ht); rwa [show o + (i + 1) = o + 1 + i by omega] at this⟩
structure FillAt (D gx : Nat) (x : SIns) (w : World) : Prop where
 ge : D ≤ gx
 at_ : ∃ v5, w.heap[gx]? = some (.cells #[.int .i64 x.f0, .int .i64 x.f1, .int .i64 x.f2, .int .i64 x.f3, .string x.f4, v5] 44 (0, 0)) ∧ Kd.R (Kd.int .i64) 3 w D (fun _ => True) v5 x.f5
section
variable {D gx gf k0 gw : Nat} {cf : Array Value} {fs : ByteArray} {ws : List ByteArray} {w0 w w1 w2 : World} {i : Nat} {x : SIns}
theorem FillAt.below (h : FillAt D gx x w) (hb : Below w.heap.size w w1) : FillAt D gx x w1 := by
 obtain ⟨ge, v5, hk, hr⟩ := h
 exact ⟨ge, v5, blk_below hk hb, Kd.R_below hr hb⟩
structure FillSt (gx gf k0 : Nat) (cf : Array Value) (fs : ByteArray) (w0 w : World) (i : Nat) (x : SIns) (w' : World) : Prop where
 hD : w0.heap.size ≤ w.heap.size
 hx : gx < w.heap.size
 hf : w.heap.size ≤ gf
 hi : w.heap.size ≤ k0
 fx : FillAt w0.heap.size gx x w'
 it : w'.heap[k0]? = some (.stringIter fs i)
 bf : w'.heap[gf]? = some (.cells cf 102 (0, 0))
 bl : Below w0.heap.size w0 w'
theorem FillSt.next (s : FillSt gx gf k0 cf fs w0 w i x w1) (j : Nat) : FillSt gx gf k0 cf fs w0 w j x (w1.iterAt k0 fs j) where
 hD := s.hD
 hx := s.hx
 hf := s.hf
 hi := s.hi
 fx := by
  obtain ⟨ge, v5, hk, hr⟩ := s.fx
  refine ⟨ge, v5, iter_cells2 s.it hk, Kd.R_mono (Kd.R_step (Kd.R_bound hr) (fun k hk _ => ?_)) (fun k hk => hk.1)⟩
  obtain ⟨_, _, _, q, hq, cells, hk2⟩ := hk
  exact (iter_cells2 s.it hk2).trans hk2.symm
 it := Lib.iterAt_heap w1 k0 fs i j s.it
 bf := iter_cells2 s.it s.bf
 bl := Lib.below_iterAt s.bl (Nat.le_trans s.hD s.hi) fs j
theorem FillSt.later (s : FillSt gx gf k0 cf fs w0 w i x w1) (hb : Below w1.heap.size w1 w2) : FillSt gx gf k0 cf fs w0 w i x w2 where
 hD := s.hD
 hx := s.hx
 hf := s.hf
 hi := s.hi
 fx := s.fx.below hb
 it := (hb.block k0 (Array.getElem?_eq_some_iff.1 s.it).1).trans s.it
 bf := blk_below s.bf hb
 bl := below_step s.bl hb
theorem FillSt.gx_ne (s : FillSt gx gf k0 cf fs w0 w i x w1) : gf ≠ gx ∧ k0 ≠ gx := ⟨by have := s.hx; have := s.hf; omega, by have := s.hx; have := s.hi; omega⟩
theorem other_iter {k0 g j p : Nat} {u : Value} {s : ByteArray} (h : w.heap[k0]? = some (.stringIter s p)) (hn : k0 ≠ g) : (w.setCell ⟨g, j, none⟩ u).heap[k0]? = some (.stringIter s p) := (heap_setCell_other _ _ _ _ hn).trans h
theorem FillSt.set {y : SIns} (s : FillSt gx gf k0 cf fs w0 w i x w1) (j : Nat) (u : Value) (h5 : y.f5 = x.f5) (hc : ∀ v5 : Value, (#[Value.int .i64 x.f0, .int .i64 x.f1, .int .i64 x.f2, .int .i64 x.f3, .string x.f4, v5] : Array Value).setIfInBounds j u = #[.int .i64 y.f0, .int .i64 y.f1, .int .i64 y.f2, .int .i64 y.f3, .string y.f4, v5]) :
 FillSt gx gf k0 cf fs w0 w i y (w1.setCell ⟨gx, j, none⟩ u) where
 hD := s.hD
 hx := s.hx
 hf := s.hf
 hi := s.hi
 fx := by
  obtain ⟨ge, v5, hk, hr⟩ := s.fx
  refine ⟨ge, v5, ?_, ?_⟩
  ·rw [← hc v5]; exact blk_put hk j u rfl
  ·rw [h5]; exact Kd.R_set hr hk (by decide) j u
 it := other_iter s.it s.gx_ne.2
 bf := blk_far s.bf (p := ⟨gx, j, none⟩) s.gx_ne.1 _
 bl := s.bl.setCell (p := ⟨gx, j, none⟩) s.fx.ge u
theorem FillSt.app {v5 v1 : Value} {n : Int} (s : FillSt gx gf k0 cf fs w0 w i x w1) (hk : w1.heap[gx]? = some (.cells #[.int .i64 x.f0, .int .i64 x.f1, .int .i64 x.f2, .int .i64 x.f3, .string x.f4, v5] 44 (0, 0))) (hr : Kd.R (Kd.int .i64) 3 w1 w0.heap.size (fun _ => True) v5 x.f5)
 (ho : Kd.R (Kd.int .i64) 3 w2 w0.heap.size (fun _ => True) v1 (x.f5 ++ [n])) (hb : Below w0.heap.size w1 w2) (hg : w1.grownBy w2 v5.ownBlock) : FillSt gx gf k0 cf fs w0 w i { x with f5 := x.f5 ++ [n] } (w2.setCell ⟨gx, 5, none⟩ v1) := by
 have keep : ∀ (k : Nat) (o : Obj), w1.heap[k]? = some o → (∀ cs, o ≠ .cells cs 3 (0, 0)) → w2.heap[k]? = some o := fun k o hk2 hn => (hg.block k (Array.getElem?_eq_some_iff.1 hk2).1 (fun e => by
  obtain ⟨cs, h2⟩ := Kd.R_typed hr k e.symm
  exact hn cs (zI (hk2.symm.trans h2)))).trans hk2
 have hk2 := keep gx _ hk (fun cs e => by injection e with _ e2 _; exact absurd e2 (by decide))
 exact ⟨s.hD, s.hx, s.hf, s.hi, ⟨s.fx.ge, v1, blk_put hk2 5 v1 rfl, Kd.R_set ho hk2 (by decide) 5 v1⟩, other_iter (keep k0 _ s.it (fun cs e => by cases e)) s.gx_ne.2, blk_far (keep gf _ s.bf (fun cs e => by injection e with _ e2 _; exact absurd e2 (by decide))) (p := ⟨gx, 5, none⟩) s.gx_ne.1 _, (s.bl.trans hb).setCell (p := ⟨gx, 5, none⟩) s.fx.ge v1⟩
end
theorem fillR_name {ws : List ByteArray} {r : List UInt8} {at_ : Nat} {x : SIns} {t : ByteArray} (h : ws[at_]? = some t) : fillR ws (78 :: r) at_ x = if nameOk t = true then fillR ws r (at_ + 1) { x with f4 := t } else (80, x) := by
 rw [fillR, zC rfl, h]
theorem fillR_num {ws : List ByteArray} {c : UInt8} {r : List UInt8} {at_ : Nat} {x : SIns} {t : ByteArray} (h1 : c ≠ 78) (h2 : c ≠ 76) (h : ws[at_]? = some t) : fillR ws (c :: r) at_ x = match numOf t with | some n => fillR ws r (at_ + 1) (setF c n x) | none => (81, x) := by
 rw [fillR, zD h1, zD h2, h]
theorem mapM_at {ws : List ByteArray} {j : Nat} {t : ByteArray} (h : ws[j]? = some t) : (ws.drop j).mapM numOf = (numOf t).bind fun v => ((ws.drop (j + 1)).mapM numOf).map (v :: ·) := by
 obtain ⟨h1, h2⟩ := List.getElem?_eq_some_iff.1 h
 rw [List.drop_eq_getElem_cons h1, h2, List.mapM_cons]
 cases numOf t with
 | none => rfl
 | some v => cases (ws.drop (j + 1)).mapM numOf <;> rfl
theorem fillR_rest {ws : List ByteArray} {r : List UInt8} {at_ : Nat} {x : SIns} : fillR ws (76 :: r) at_ x = match (ws.drop at_).mapM numOf with | some l => fillR ws r at_ { x with f5 := x.f5 ++ l } | none => (81, x) := by
 rw [fillR, zD (by decide), zC rfl]
set_option maxHeartbeats 8000000 in
set_option maxRecDepth 100000 in
theorem fill_calls {w0 w : World} (hL : LaidW w0) (hB : Below w0.heap.size w0 w) (gx gw : Nat) (x : SIns) (hx : FillAt w0.heap.size gx x w) (hlt : gx < w.heap.size) (op : Int) (wd fs : ByteArray) (ws : List ByteArray) (c : Nat) (hw : WordsAt gw 1 ws w0)
 (hfs : ∀ b ∈ fs.data.toList, b = 68 ∨ b = 65 ∨ b = 66 ∨ b = 78 ∨ b = 76) (hn : wants fs.data.toList ≤ ws.length) (hwl : ws.length ≤ 100000) (hws : ∀ t ∈ ws, t.size ≤ 100000) (hf : fs.size ≤ 10) (h5 : x.f5.length + 10 * ws.length ≤ 10000000) (hc : ws.length ≤ c) :
 Calls Tryz.prog 67 #[.pointer (some ⟨gx, 0, none⟩), .agg #[.int .i64 op, .string wd, .string fs], .slice (some ⟨gw, 1, none⟩) ws.length c] w fun e w' => e = .returned (.int .i64 (fillR ws fs.data.toList 0 x).1) ∧ ((fillR ws fs.data.toList 0 x).1 = 0 → FillAt w0.heap.size gx (fillR ws fs.data.toList 0 x).2 w') ∧ Below w0.heap.size w0 w' := by
 obtain ⟨R, hR⟩ : ∃ R, R = fillR ws fs.data.toList 0 x := ⟨_, rfl⟩
 rw [← hR]
 have hB0 := zA hB
 have HLd := zA hL
 have HX := zA hx
 have HB := zA hB
 have HW := zA hw
 have HF := zA hfs
 have HR := zA hR
 have HN := zA hn
 have HWs := zA hws
 have HLt := zA hlt
 have HBw := zA (Below.refl w.heap.size w)
 clear hL hx hB hw hfs hR hn hws hlt
 have hu94 := Tryz.underlying102
 go_enter Tryz.func67, Tryz.ntmps67
 go_wp2_with ((with_reducible refine gate_dst (N := 4) rfl ?_); refine box_event (by rfl) (N := 4) (by rfl) (cs := #[.int .i64 op, .string wd, .string fs]) (t := 102) ?hr ?_; (case hr => go_simp <;> rfl); intro gf hg w1 hbox hb; have BF := zA hbox; have HGf := zA (show w.heap.size ≤ gf by rw [hg]; exact Nat.le_refl _); replace HX := zA (HX.out.below hb); replace HB := zA (below_step HB.out hb); replace HBw := zA (below_step HBw.out hb); clear hb hbox hg; have z3 := bk3 BF.out)
 have hWI : Below w.heap.size w (World.iter w1 fs 0) := below_alloc HBw.out _
 have hWJ : Below w0.heap.size w0 (World.iter w1 fs 0) := below_alloc HB.out _
 have hIT : (World.iter w1 fs 0).heap[w1.heap.size]? = some (.stringIter fs 0) := World.iter_heap w1 fs 0
 have hBF : (World.iter w1 fs 0).heap[gf]? = some (.cells #[.int .i64 op, .string wd, .string fs] 102 (0, 0)) := blk_alloc BF.out _
 have hFX : FillAt w0.heap.size gx x (World.iter w1 fs 0) := HX.out.below (below_alloc (Below.refl _ _) _)
 generalize World.iter w1 fs 0 = wI at hWI hWJ hIT hBF hFX ⊢
 have HS := zA (show FillSt gx gf w1.heap.size #[.int .i64 op, .string wd, .string fs] fs w0 w 0 x wI from ⟨hB0.out.size, HLt.out, HGf.out, HBw.out.size, hFX, hIT, hBF, hWJ⟩)
 clear hWI hWJ hIT hBF hFX HX HB z3 BF
 go_loopg [7] fs.size (fun kq v7 w' => ∃ (i at_ : Nat) (y : SIns), v7 = .int .i64 (at_ : Int) ∧ Aside0 (kq + i = fs.size) ∧ Aside0 (FillSt gx gf w1.heap.size #[.int .i64 op, .string wd, .string fs] fs w0 w i y w') ∧ Aside0 (R = fillR ws (fs.data.toList.drop i) at_ y) ∧ Aside0 (at_ + wants (fs.data.toList.drop i) ≤ ws.length) ∧ Aside0 (y.f5.length + kq * ws.length ≤ 10000000))
 case atStart => exact ⟨0, 0, x, by first | rfl | simp, ⟨by omega⟩, HS, ⟨by rw [List.drop_zero]; exact HR.out⟩, ⟨by rw [List.drop_zero]; have := HN.out; omega⟩, ⟨by have h9 : fs.size * ws.length ≤ 10 * ws.length := Nat.mul_le_mul_right _ hf; omega⟩⟩
 case round =>
  clear HS HR HN
  obtain ⟨i, at_, y, rfl, HK, HS, HR, HN, H5⟩ := hrel
  cases gk with
  | zero =>
   have hif : i = fs.size := by have := HK.out; omega
   have hnx : ∀ ty, (Instr.next (.pointer (some ⟨w1.heap.size, 0, none⟩)) true ty).run Tryz.prog wr = .ok (.tuple #[.bool false]) wr := fun ty => Lib.run_next_end_at wr _ fs i ty HS.out.it (by omega)
   have hd : fs.data.toList.drop i = [] := List.drop_eq_nil_of_le (by have : fs.data.toList.length = fs.size := (by simp); omega)
   rw [hd] at HR
   have HR2 := zA (show R = (0, y) from HR.out)
   go_wp2_with fail
   go_ret
   exact ⟨by rw [HR2.out]; rfl, fun _ => by rw [HR2.out]; exact HS.out.fx, HS.out.bl⟩
  | succ k1 =>
   have hi : i < fs.size := by have := HK.out; omega
   obtain ⟨c, hc⟩ : ∃ c, c = fs[i]'hi := ⟨_, rfl⟩
   have hgl : fs.data.toList[i]? = some c := by rw [hc]; simp [ByteArray.getElem_eq_getElem_data]
   have hdr : fs.data.toList.drop i = c :: fs.data.toList.drop (i + 1) := by
    obtain ⟨h1, h2⟩ := List.getElem?_eq_some_iff.1 hgl
    rw [List.drop_eq_getElem_cons h1, h2]
   have hm : c ∈ fs.data.toList := List.mem_of_getElem? hgl
   obtain ⟨wi, hwi⟩ : ∃ wi, wi = wr.iterAt w1.heap.size fs (i + 1) := ⟨_, rfl⟩
   have HS1 := zA (HS.out.next (i + 1))
   rw [← hwi] at HS1
   have hgen : ∀ n : Nat, c.toNat = n → n < 128 → ∀ ty, (Instr.next (.pointer (some ⟨w1.heap.size, 0, none⟩)) true ty).run Tryz.prog wr = .ok (.tuple #[.bool true, .int .i64 i, .int .i32 (n : Int)]) wi := fun n hn h8 ty => by
    rw [Lib.run_next_ascii_at wr _ fs i ty HS.out.it hi (by rw [← hc, hn]; exact h8), ← hc, hn, hwi]
   rw [hdr] at HR HN
   have hcc := HF.out c hm
   clear hc hgl hm hwi hdr
   rcases hcc with rfl | rfl | rfl | rfl | rfl
   ·have hnx := hgen 68 rfl (by decide)
    clear hgen
    have hat : at_ < ws.length := by have h9 : wants (68 :: fs.data.toList.drop (i + 1)) = 1 + wants (fs.data.toList.drop (i + 1)) := rfl; have := HN.out; omega
    have hatI : (at_ : Int) < (ws.length : Int) := by omega
    obtain ⟨t, ht⟩ : ∃ t, ws[at_]? = some t := ⟨_, List.getElem?_eq_getElem hat⟩
    have hts := HWs.out t (List.mem_of_getElem? ht)
    have hx1 := WordsAt.cell (WordsAt.low HW.out (by obtain ⟨_, hk, _⟩ := HW.out; exact blk_lt hk) HS1.out.bl) ht
    have HR1 : Aside0 (R = match numOf t with | some n => fillR ws (fs.data.toList.drop (i + 1)) (at_ + 1) (setF 68 n y) | none => (81, y)) := ⟨HR.out.trans (fillR_num (by decide) (by decide) ht)⟩
    have HLr := zA (HLd.out.below HS1.out.bl)
    clear ht
    cases hnm : numOf t with
    | none =>
     rw [hnm] at HR1
     have HNm := zA hnm
     clear hnm
     go_wp2_with (go_at_call 64; refine (textnumber_calls t wi HLr.out (by omega)).mono ?_; rintro e w5 ⟨n, rfl, _, hb⟩; rw [HNm.out]; have HS5 := zA (HS1.out.later hb); clear hb hx1)
     go_ret
     exact ⟨by rw [HR1.out]; rfl, fun h => by rw [HR1.out] at h; exact absurd (show (81 : Int) = 0 from h) (by decide), HS5.out.bl⟩
    | some v =>
     rw [hnm] at HR1
     have HNm := zA hnm
     clear hnm
     go_wp2_with (go_at_call 64; refine (textnumber_calls t wi HLr.out (by omega)).mono ?_; rintro e w5 ⟨n, rfl, hv, hb⟩; obtain rfl := hv v HNm.out; rw [HNm.out]; have HS5 := zA (HS1.out.later hb); obtain ⟨_, v5, hk5, _⟩ := HS5.out.fx; have z5 := bk6 hk5; clear hb hx1 hk5 hv)
     go_roundg k1
     case measure => have := HK.out; omega
     case rel => exact ⟨i + 1, at_ + 1, setF 68 n y, by go_num, ⟨by have := HK.out; omega⟩, ⟨HS5.out.set 1 (.int .i64 n) rfl (fun v5 => rfl)⟩, ⟨HR1.out⟩, ⟨by have h9 : wants (68 :: fs.data.toList.drop (i + 1)) = 1 + wants (fs.data.toList.drop (i + 1)) := rfl; have := HN.out; omega⟩, ⟨by have h9 : (k1 + 1) * ws.length = k1 * ws.length + ws.length := Nat.succ_mul _ _; have := H5.out; show y.f5.length + _ ≤ _; omega⟩⟩
   ·have hnx := hgen 65 rfl (by decide)
    clear hgen
    have hat : at_ < ws.length := by have h9 : wants (65 :: fs.data.toList.drop (i + 1)) = 1 + wants (fs.data.toList.drop (i + 1)) := rfl; have := HN.out; omega
    have hatI : (at_ : Int) < (ws.length : Int) := by omega
    obtain ⟨t, ht⟩ : ∃ t, ws[at_]? = some t := ⟨_, List.getElem?_eq_getElem hat⟩
    have hts := HWs.out t (List.mem_of_getElem? ht)
    have hx1 := WordsAt.cell (WordsAt.low HW.out (by obtain ⟨_, hk, _⟩ := HW.out; exact blk_lt hk) HS1.out.bl) ht
    have HR1 : Aside0 (R = match numOf t with | some n => fillR ws (fs.data.toList.drop (i + 1)) (at_ + 1) (setF 65 n y) | none => (81, y)) := ⟨HR.out.trans (fillR_num (by decide) (by decide) ht)⟩
    have HLr := zA (HLd.out.below HS1.out.bl)
    clear ht
    cases hnm : numOf t with
    | none =>
     rw [hnm] at HR1
     have HNm := zA hnm
     clear hnm
     go_wp2_with (go_at_call 64; refine (textnumber_calls t wi HLr.out (by omega)).mono ?_; rintro e w5 ⟨n, rfl, _, hb⟩; rw [HNm.out]; have HS5 := zA (HS1.out.later hb); clear hb hx1)
     go_ret
     exact ⟨by rw [HR1.out]; rfl, fun h => by rw [HR1.out] at h; exact absurd (show (81 : Int) = 0 from h) (by decide), HS5.out.bl⟩
    | some v =>
     rw [hnm] at HR1
     have HNm := zA hnm
     clear hnm
     go_wp2_with (go_at_call 64; refine (textnumber_calls t wi HLr.out (by omega)).mono ?_; rintro e w5 ⟨n, rfl, hv, hb⟩; obtain rfl := hv v HNm.out; rw [HNm.out]; have HS5 := zA (HS1.out.later hb); obtain ⟨_, v5, hk5, _⟩ := HS5.out.fx; have z5 := bk6 hk5; clear hb hx1 hk5 hv)
     go_roundg k1
     case measure => have := HK.out; omega
     case rel => exact ⟨i + 1, at_ + 1, setF 65 n y, by go_num, ⟨by have := HK.out; omega⟩, ⟨HS5.out.set 2 (.int .i64 n) rfl (fun v5 => rfl)⟩, ⟨HR1.out⟩, ⟨by have h9 : wants (65 :: fs.data.toList.drop (i + 1)) = 1 + wants (fs.data.toList.drop (i + 1)) := rfl; have := HN.out; omega⟩, ⟨by have h9 : (k1 + 1) * ws.length = k1 * ws.length + ws.length := Nat.succ_mul _ _; have := H5.out; show y.f5.length + _ ≤ _; omega⟩⟩
   ·have hnx := hgen 66 rfl (by decide)
    clear hgen
    have hat : at_ < ws.length := by have h9 : wants (66 :: fs.data.toList.drop (i + 1)) = 1 + wants (fs.data.toList.drop (i + 1)) := rfl; have := HN.out; omega
    have hatI : (at_ : Int) < (ws.length : Int) := by omega
    obtain ⟨t, ht⟩ : ∃ t, ws[at_]? = some t := ⟨_, List.getElem?_eq_getElem hat⟩
    have hts := HWs.out t (List.mem_of_getElem? ht)
    have hx1 := WordsAt.cell (WordsAt.low HW.out (by obtain ⟨_, hk, _⟩ := HW.out; exact blk_lt hk) HS1.out.bl) ht
    have HR1 : Aside0 (R = match numOf t with | some n => fillR ws (fs.data.toList.drop (i + 1)) (at_ + 1) (setF 66 n y) | none => (81, y)) := ⟨HR.out.trans (fillR_num (by decide) (by decide) ht)⟩
    have HLr := zA (HLd.out.below HS1.out.bl)
    clear ht
    cases hnm : numOf t with
    | none =>
     rw [hnm] at HR1
     have HNm := zA hnm
     clear hnm
     go_wp2_with (go_at_call 64; refine (textnumber_calls t wi HLr.out (by omega)).mono ?_; rintro e w5 ⟨n, rfl, _, hb⟩; rw [HNm.out]; have HS5 := zA (HS1.out.later hb); clear hb hx1)
     go_ret
     exact ⟨by rw [HR1.out]; rfl, fun h => by rw [HR1.out] at h; exact absurd (show (81 : Int) = 0 from h) (by decide), HS5.out.bl⟩
    | some v =>
     rw [hnm] at HR1
     have HNm := zA hnm
     clear hnm
     go_wp2_with (go_at_call 64; refine (textnumber_calls t wi HLr.out (by omega)).mono ?_; rintro e w5 ⟨n, rfl, hv, hb⟩; obtain rfl := hv v HNm.out; rw [HNm.out]; have HS5 := zA (HS1.out.later hb); obtain ⟨_, v5, hk5, _⟩ := HS5.out.fx; have z5 := bk6 hk5; clear hb hx1 hk5 hv)
     go_roundg k1
     case measure => have := HK.out; omega
     case rel => exact ⟨i + 1, at_ + 1, setF 66 n y, by go_num, ⟨by have := HK.out; omega⟩, ⟨HS5.out.set 3 (.int .i64 n) rfl (fun v5 => rfl)⟩, ⟨HR1.out⟩, ⟨by have h9 : wants (66 :: fs.data.toList.drop (i + 1)) = 1 + wants (fs.data.toList.drop (i + 1)) := rfl; have := HN.out; omega⟩, ⟨by have h9 : (k1 + 1) * ws.length = k1 * ws.length + ws.length := Nat.succ_mul _ _; have := H5.out; show y.f5.length + _ ≤ _; omega⟩⟩
   ·have hnx := hgen 78 rfl (by decide)
    clear hgen
    have hat : at_ < ws.length := by have h9 : wants (78 :: fs.data.toList.drop (i + 1)) = 1 + wants (fs.data.toList.drop (i + 1)) := rfl; have := HN.out; omega
    have hatI : (at_ : Int) < (ws.length : Int) := by omega
    obtain ⟨t, ht⟩ : ∃ t, ws[at_]? = some t := ⟨_, List.getElem?_eq_getElem hat⟩
    have hx1 := WordsAt.cell (WordsAt.low HW.out (by obtain ⟨_, hk, _⟩ := HW.out; exact blk_lt hk) HS1.out.bl) ht
    have HR1 := zA (HR.out.trans (fillR_name ht))
    have HT := zA ht
    clear ht
    by_cases hn : nameOk t = true
    ·rw [zC hn] at HR1
     have HNm := zA (show ir_Name.f t = some true by rw [name_eq, hn])
     clear hn
     go_wp2_with (go_at_call 30; refine (ir_Name.calls t true _ HNm.out).mono ?_; rintro e w5 ⟨rfl, hb⟩; have HS5 := zA (HS1.out.later hb); obtain ⟨_, v5, hk5, _⟩ := HS5.out.fx; have z5 := bk6 hk5; have hx2 := WordsAt.cell (WordsAt.low HW.out (by obtain ⟨_, hk, _⟩ := HW.out; exact blk_lt hk) HS5.out.bl) HT.out; clear hb hx1 hk5)
     go_roundg k1
     case measure => have := HK.out; omega
     case rel => exact ⟨i + 1, at_ + 1, { y with f4 := t }, by go_num, ⟨by have := HK.out; omega⟩, ⟨HS5.out.set 4 (.string t) rfl (fun v5 => rfl)⟩, ⟨HR1.out⟩, ⟨by have h9 : wants (78 :: fs.data.toList.drop (i + 1)) = 1 + wants (fs.data.toList.drop (i + 1)) := rfl; have := HN.out; omega⟩, ⟨by have h9 : (k1 + 1) * ws.length = k1 * ws.length + ws.length := Nat.succ_mul _ _; have := H5.out; show y.f5.length + _ ≤ _; omega⟩⟩
    ·rw [zD hn] at HR1
     have HNm := zA (show ir_Name.f t = some false by rw [name_eq]; cases h : nameOk t with | true => exact absurd h hn | false => rfl)
     clear hn
     go_wp2_with (go_at_call 30; refine (ir_Name.calls t false _ HNm.out).mono ?_; rintro e w5 ⟨rfl, hb⟩; have HS5 := zA (HS1.out.later hb); clear hb hx1)
     go_ret
     exact ⟨by rw [HR1.out]; rfl, fun h => by rw [HR1.out] at h; exact absurd (show (80 : Int) = 0 from h) (by decide), HS5.out.bl⟩
   ·have hnx := hgen 76 rfl (by decide)
    clear hgen
    have hat : at_ ≤ ws.length := by have := HN.out; omega
    have hatI : (at_ : Int) ≤ (ws.length : Int) := by omega
    have hatc : (ws.length : Int) ≤ (c : Int) := by omega
    by_cases hca : c = at_
    ·have hwe : ws.length = at_ := by omega
     have hRR : R = fillR ws (fs.data.toList.drop (i + 1)) at_ y := by
      rw [HR.out, fillR_rest, List.drop_eq_nil_of_le (by omega)]
      show fillR ws _ at_ { y with f5 := y.f5 ++ [] } = _
      rw [List.append_nil]
     have HRR := zA hRR
     have hz1 : ws.length - at_ = 0 := by omega
     have hz2 : c - at_ = 0 := by omega
     have hz3 : (c = at_) = True := eq_true hca
     clear hRR hwe hca
     go_wp2_with fail
     go_loopg [46] 0 (fun kq2 v46 w' => v46 = .int .i64 0 ∧ Aside0 (kq2 = 0) ∧ Aside0 (FillSt gx gf w1.heap.size #[.int .i64 op, .string wd, .string fs] fs w0 w (i + 1) y w'))
     case atStart => exact ⟨rfl, ⟨rfl⟩, HS1⟩
     case round =>
      clear HS1 HS
      obtain ⟨rfl, HJ, HS2⟩ := hrel
      cases gk with
      | succ k2 => exact absurd HJ.out (by omega)
      | zero =>
       go_wp2_with fail
       go_roundg k1
       case measure => have := HK.out; omega
       case rel => exact ⟨i + 1, at_, y, rfl, ⟨by have := HK.out; omega⟩, HS2, HRR, ⟨by have h9 : wants (76 :: fs.data.toList.drop (i + 1)) = 0 + wants (fs.data.toList.drop (i + 1)) := rfl; have := HN.out; omega⟩, ⟨by have h9 : (k1 + 1) * ws.length = k1 * ws.length + ws.length := Nat.succ_mul _ _; have := H5.out; omega⟩⟩
    have hac : ¬ at_ = c := fun e => hca e.symm
    go_wp2_with fail
    go_loopg [46] (ws.length - at_) (fun kq2 v46 w' => ∃ (j : Nat) (l : List Int), v46 = .int .i64 (j : Int) ∧ Aside0 (kq2 + j = ws.length - at_) ∧ Aside0 (FillSt gx gf w1.heap.size #[.int .i64 op, .string wd, .string fs] fs w0 w (i + 1) { y with f5 := y.f5 ++ l } w') ∧ Aside0 ((ws.drop at_).mapM numOf = ((ws.drop (at_ + j)).mapM numOf).map (l ++ ·)) ∧ Aside0 (l.length = j))
    case atStart => exact ⟨0, [], by first | rfl | simp, ⟨by omega⟩, ⟨by simpa using HS1.out⟩, ⟨by simp⟩, ⟨rfl⟩⟩
    case round =>
     clear HS1 HS
     obtain ⟨j, l, rfl, HJ, HS2, HM, HL⟩ := hrel
     cases gk with
     | zero =>
      have hj : at_ + j = ws.length := by have := HJ.out; omega
      have d1b := zG (show ¬ ((j : Int) < ((ws.length - at_ : Nat) : Int)) by omega)
      have d1c := zG (show ¬ (j < ws.length - at_) by omega)
      have HRR : Aside0 (R = fillR ws (fs.data.toList.drop (i + 1)) at_ { y with f5 := y.f5 ++ l }) := ⟨by
       rw [HR.out, fillR_rest, HM.out, hj, List.drop_length]
       show fillR ws _ at_ { y with f5 := y.f5 ++ (l ++ []) } = _
       rw [List.append_nil]⟩
      go_wp2_with fail
      go_roundg k1
      case measure => have := HK.out; omega
      case rel => exact ⟨i + 1, at_, _, rfl, ⟨by have := HK.out; omega⟩, HS2, HRR, ⟨by have h9 : wants (76 :: fs.data.toList.drop (i + 1)) = 0 + wants (fs.data.toList.drop (i + 1)) := rfl; have := HN.out; omega⟩, ⟨by have h9 : (k1 + 1) * ws.length = k1 * ws.length + ws.length := Nat.succ_mul _ _; have := H5.out; have := HL.out; show (y.f5 ++ l).length + _ ≤ _; rw [List.length_append]; omega⟩⟩
     | succ k2 =>
      have hj : at_ + j < ws.length := by have := HJ.out; omega
      have hj2 : j < ws.length - at_ := by omega
      have hj3 : (j : Int) < ((ws.length - at_ : Nat) : Int) := by omega
      have d1b := zF hj3
      have d1c := zF hj2
      obtain ⟨t, ht⟩ : ∃ t, ws[at_ + j]? = some t := ⟨_, List.getElem?_eq_getElem hj⟩
      have hts := HWs.out t (List.mem_of_getElem? ht)
      have hx1 := WordsAt.cell (WordsAt.low HW.out (by obtain ⟨_, hk, _⟩ := HW.out; exact blk_lt hk) HS2.out.bl) ht
      rw [← Nat.add_assoc] at hx1
      have HMM := zA (HM.out.trans (congrArg (Option.map (l ++ ·)) (mapM_at ht)))
      have HLr := zA (HLd.out.below HS2.out.bl)
      clear ht
      cases hnm : numOf t with
      | none =>
       have HNm := zA hnm
       have HR1 : Aside0 (R = (81, y)) := ⟨by rw [HR.out, fillR_rest, HMM.out, hnm]; rfl⟩
       clear hnm
       go_wp2_with (go_at_call 64; refine (textnumber_calls t wr HLr.out (by omega)).mono ?_; rintro e w5 ⟨n, rfl, _, hb⟩; rw [HNm.out]; have HS5 := zA (HS2.out.later hb); clear hb hx1)
       go_ret
       exact ⟨by rw [HR1.out]; rfl, fun h => by rw [HR1.out] at h; exact absurd (show (81 : Int) = 0 from h) (by decide), HS5.out.bl⟩
      | some v =>
       have HNm := zA hnm
       have HM2 : Aside0 ((ws.drop at_).mapM numOf = ((ws.drop (at_ + (j + 1))).mapM numOf).map ((l ++ [v]) ++ ·)) := ⟨by
        rw [HMM.out, hnm, Nat.add_assoc]
        cases (ws.drop (at_ + (j + 1))).mapM numOf <;> simp⟩
       clear hnm
       have hyl : (y.f5 ++ l).length ≤ 10000000 := by
        have h9 : (k1 + 1) * ws.length = k1 * ws.length + ws.length := Nat.succ_mul _ _
        have := H5.out
        have := HL.out
        rw [List.length_append]; omega
       go_wp2_with (first
        | (go_at_call 64; refine (textnumber_calls t wr HLr.out (by omega)).mono ?_; rintro e w5 ⟨n, rfl, hv, hb⟩; obtain rfl := hv v HNm.out; rw [HNm.out]; have HS5 := zA (HS2.out.later hb); obtain ⟨_, v5, hk5, hr5⟩ := HS5.out.fx; have z5 := bk6 hk5; have HK5 := zA hk5; have HR5 := zA hr5; clear hb hx1 hk5 hv hr5)
        | ((with_reducible refine gate_builtin (b := .append) (xs := #[.tmp 61, .tmp 63]) rfl ?_); at_builtin; (refine Kd.R_append (Kd.int .i64) (w0 := w5) w0.heap.size rfl (.tmp 61) (.tmp 63) 42 3 (.int .i64 0) 8 rfl Tryz.underlying42 info3 rfl (by decide) (by omega) v5 (y.f5 ++ l) n [.int .i64 n] (fun _ => True) (fun _ => False) rfl rfl ?aP (fun _ hk => hk.elim) ?aF ?aO ?aB ?aS ?aL ?_; (case aP => exact rfl); (case aF => exact fun _ _ => trivial); (case aO => exact HR5.out); (case aB => exact Below.refl _ _); (case aS => exact HS5.out.bl.size); (case aL => omega); intro v1 w6 ho3 hb3 hg3 _; obtain ⟨A1, c1, rfl⟩ := Kd.R_slice ho3; have HS6 := zA (HS5.out.app HK5.out HR5.out ho3 hb3 hg3); have hk6 : w6.heap[gx]? = some (.cells #[.int .i64 y.f0, .int .i64 y.f1, .int .i64 y.f2, .int .i64 y.f3, .string y.f4, v5] 44 (0, 0)) := (hg3.block gx (blk_lt HK5.out) (fun e => by obtain ⟨cs, h2⟩ := Kd.R_typed HR5.out gx e.symm; have := HK5.out.symm.trans h2; simp at this)).trans HK5.out; have z6 := bk6 hk6; clear ho3 hb3 hg3 z5 hk6)))
       go_roundg k2
       case measure => have := HJ.out; omega
       case rel => exact ⟨j + 1, l ++ [n], by go_num, ⟨by have := HJ.out; omega⟩, ⟨by have h9 := HS6.out; simpa using h9⟩, HM2, ⟨by rw [List.length_append, HL.out]; rfl⟩⟩
structure PS where
 code : Bool
 first : ByteArray
 heads : Int
 name : ByteArray
 head : List Int
 blocks : List (List SIns)
def insOp (op : Int) : SIns := ⟨op, 0, 0, 0, ⟨#[]⟩, []⟩
def openF (fs : ByteArray) : Bool := Lib.hasSuffix fs.data.toList [76]
def lineP (s : PS) (ws : List ByteArray) : Int × PS :=
 match ws with
 | [] => (80, s)
 | w0 :: rest =>
  if w0.toList = [98, 108, 111, 99, 107] ∧ rest = [] then (0, { s with blocks := s.blocks ++ [[]] })
  else match byOf w0 s.code with
   | none => (80, s)
   | some (op, wd, fs) =>
    if s.blocks = [] then (80, s)
    else if openF fs = false ∧ rest.length ≠ fs.size ∨ openF fs = true ∧ rest.length + 1 < fs.size then (80, s)
    else if (fillR rest fs.data.toList 0 (insOp op)).1 = 0 then (0, { s with blocks := s.blocks.set (s.blocks.length - 1) (s.blocks.getD (s.blocks.length - 1) [] ++ [(fillR rest fs.data.toList 0 (insOp op)).2]) })
    else ((fillR rest fs.data.toList 0 (insOp op)).1, s)
structure PsAt (D gp : Nat) (s : PS) (w : World) : Prop where
 lt : gp < D
 at_ : ∃ vh vb, w.heap[gp]? = some (.cells #[.bool s.code, .string s.first, .int .i64 s.heads, .string s.name, vh, vb] 63 (0, 0)) ∧ Kd.R (Kd.int .i64) 3 w D (fun _ => True) vh s.head ∧ Kd.S (Kd.slice 44 kIns) 41 w D (fun _ => True) vb s.blocks
def KeptD (gp D : Nat) (w w' : World) : Prop := w.heap.size ≤ w'.heap.size ∧ ∀ k, k < D → k ≠ gp → k < w.heap.size → w'.heap[k]? = w.heap[k]?
theorem KeptD.refl (gp D : Nat) (w : World) : KeptD gp D w w := ⟨Nat.le_refl _, fun _ _ _ _ => rfl⟩
theorem KeptD.trans {gp D : Nat} {w w1 w2 : World} (h : KeptD gp D w w1) (h2 : KeptD gp D w1 w2) : KeptD gp D w w2 := ⟨Nat.le_trans h.1 h2.1, fun k hk hg hs => (h2.2 k hk hg (Nat.lt_of_lt_of_le hs h.1)).trans (h.2 k hk hg hs)⟩
theorem KeptD.of_below {gp D B : Nat} {w w1 : World} (hb : Below B w w1) (hD : D ≤ B) : KeptD gp D w w1 := ⟨hb.size, fun k hk _ _ => hb.block k (Nat.lt_of_lt_of_le hk hD)⟩
theorem KeptD.set {gp D : Nat} {w w1 : World} (h : KeptD gp D w w1) (j : Nat) (v : Value) : KeptD gp D w (w1.setCell ⟨gp, j, none⟩ v) := by
 refine h.trans ⟨by simp [World.setCell], fun k _ hg _ => heap_setCell_other _ _ _ _ hg⟩
theorem PsAt.below {D gp : Nat} {s : PS} {w w1 : World} (h : PsAt D gp s w) (hb : Below w.heap.size w w1) : PsAt D gp s w1 := by
 obtain ⟨lt, vh, vb, hk, hr, hs⟩ := h
 exact ⟨lt, vh, vb, blk_below hk hb, Kd.R_below hr hb, Kd.S_below hs hb⟩
theorem byVal_form (r : Option (Int × ByteArray × ByteArray)) : ∃ o wd fs is, byVal r = .tuple #[.agg #[.int .i64 o, .string wd, .string fs], .bool is] ∧ r = if is = true then some (o, wd, fs) else none := by
 cases r with
 | none => exact ⟨0, ⟨#[]⟩, ⟨#[]⟩, false, rfl, rfl⟩
 | some r => obtain ⟨o, wd, fs⟩ := r; exact ⟨o, wd, fs, true, rfl, rfl⟩
def parser_line.T4 : Bool × List (List Nat × List Nat) := (true, [([], []), ([0], [0]), ([1], [1]), ([], []), ([3], [3]), ([4], [4]), ([5], [5]), ([2, 6], [2, 6]), ([7], [7]), ([8], [8]), ([8], [8]), ([], []), ([11, 9, 7, 0, 1, 2, 3, 4, 5, 6, 7, 8, 9, 11], [9, 11]), ([10, 12, 0, 1, 2, 3, 4, 5, 6, 7, 8, 9, 10, 11, 12], [10])])
def parser_line.B4 : List Nat := [0, 1, 3, 0, 8, 24, 56, 127, 255, 511, 511, 0, 3071, 8191]
theorem parser_line.tab4 : rtab .any (opsOf Tryz.f50 4) = parser_line.T4 := by kernel_rfl
theorem parser_line.bits4 : waitsOk parser_line.T4.2 parser_line.B4 = true := by kernel_rfl
def FsOk (is : Bool) (fs : ByteArray) : Prop := fs.size ≤ 3 ∧ (∀ b ∈ fs.data.toList, b = 68 ∨ b = 65 ∨ b = 66 ∨ b = 78 ∨ b = 76) ∧ (is = true → 1 ≤ wants fs.data.toList)
theorem wants_le : ∀ l : List UInt8, wants l ≤ l.length
 | [] => Nat.le_refl _
 | c :: l => by have := wants_le l; unfold wants; split <;> simp <;> omega
theorem wants_mem : ∀ {l : List UInt8}, (76 : UInt8) ∈ l → wants l + 1 ≤ l.length
 | c :: l, h => by
  unfold wants
  rcases List.mem_cons.1 h with rfl | h
  ·have := wants_le l; simp; omega
  ·have := wants_mem h; split <;> simp <;> omega
theorem wants_open {fs : ByteArray} {n : Nat} (h : ¬ (openF fs = false ∧ n ≠ fs.size ∨ openF fs = true ∧ n + 1 < fs.size)) : wants fs.data.toList ≤ n := by
 have hl : fs.data.toList.length = fs.size := by simp
 have h1 := wants_le fs.data.toList
 cases ho : openF fs with
 | false =>
  have : n = fs.size := Classical.byContradiction fun e => h (.inl ⟨ho, e⟩)
  omega
 | true =>
  have h2 : ¬ n + 1 < fs.size := fun e => h (.inr ⟨ho, e⟩)
  have h3 : (76 : UInt8) ∈ fs.data.toList := by
   unfold openF Lib.hasSuffix at ho
   obtain ⟨t, ht⟩ := List.isSuffixOf_iff_suffix.1 ho
   rw [← ht]; simp
  have := wants_mem h3
  omega
theorem of_fs {op o : Int} {code is : Bool} {wd fs : ByteArray} (h : text_of.f op code = some (o, wd, fs, is)) : FsOk is fs := by
 have go : ∀ (r : Option (Int × ByteArray × ByteArray × Bool)), (∀ o wd fs is, r = some (o, wd, fs, is) → FsOk is fs) → r = text_of.f op code → FsOk is fs := fun r hr e => hr o wd fs is (e.trans h)
 have st : ∀ {c : Prop} [Decidable c] {a b : Option (Int × ByteArray × ByteArray × Bool)}, (∀ o wd fs is, a = some (o, wd, fs, is) → FsOk is fs) → (∀ o wd fs is, b = some (o, wd, fs, is) → FsOk is fs) → (∀ o wd fs is, (if c then a else b) = some (o, wd, fs, is) → FsOk is fs) := fun ha hb o wd fs is e => by
  split at e
  ·exact ha _ _ _ _ e
  ·exact hb _ _ _ _ e
 refine go _ ?_ rfl
 unfold text_of.f
 repeat' first
  | refine st ?_ ?_
  | (intro o wd fs is e
     simp only [Option.some.injEq, Prod.mk.injEq] at e
     obtain ⟨-, -, rfl, rfl⟩ := e
     exact ⟨by decide, by decide, fun h_ => by first | decide | cases h_⟩)
theorem byOf_fs {wd0 : ByteArray} {code : Bool} {o : Int} {wd fs : ByteArray} (h : byOf wd0 code = some (o, wd, fs)) : FsOk true fs := by
 have key : ∀ (k : Nat) (i : Int), byFrom wd0 code k i = some (o, wd, fs) → FsOk true fs := by
  intro k
  induction k with
  | zero => intro i h; cases h
  | succ k ih =>
   intro i h
   unfold byFrom at h
   split at h
   ·next r hr =>
    obtain ⟨⟨o1, w1, f1, is⟩, hof⟩ := text_of_total i code
    unfold isBy at hr
    rw [hof] at hr
    cases is with
    | false => cases hr
    | true =>
     dsimp only at hr
     split at hr
     ·injection hr with hr
      rw [← hr] at h
      injection h with h
      simp only [Prod.mk.injEq] at h
      rw [← h.2.2]
      exact of_fs hof
     ·cases hr
   ·exact ih _ h
 exact key _ _ h
def parser_line.T13 : Bool × List (List Nat × List Nat) := (true, [([], []), ([], []), ([1], [1]), ([0, 2], [0, 2]), ([3, 3, 0, 1, 2, 3], [3])])
def parser_line.B13 : List Nat := [0, 0, 2, 7, 15]
theorem parser_line.tab13 : rtab .any (opsOf Tryz.f50 13) = parser_line.T13 := by kernel_rfl
theorem parser_line.bits13 : waitsOk parser_line.T13.2 parser_line.B13 = true := by kernel_rfl
def parser_line.T16 : Bool × List (List Nat × List Nat) := (true, [([], []), ([0], [0]), ([1], [1]), ([2], [2]), ([], []), ([], []), ([5], [5]), ([6], [6]), ([7], [7]), ([], []), ([8, 9], [8, 9]), ([10], [10]), ([], []), ([12], [12]), ([11, 13], [11, 13]), ([3, 4, 0, 1, 2, 3, 4, 5, 6, 7, 8, 9, 10, 11, 12, 13, 14], [3, 4]), ([15, 14, 14, 0, 1, 2, 3, 4, 5, 6, 7, 8, 9, 10, 11, 12, 13, 14], [14, 15])])
def parser_line.B16 : List Nat := [0, 1, 3, 7, 0, 0, 32, 96, 224, 0, 992, 2016, 0, 4096, 16352, 32767, 65535]
theorem parser_line.tab16 : rtab .any (opsOf Tryz.f50 16) = parser_line.T16 := by kernel_rfl
theorem parser_line.bits16 : waitsOk parser_line.T16.2 parser_line.B16 = true := by kernel_rfl
theorem infoLIns : (Tryz.prog.info? 41).map (fun i => (i.zero, i.size, i.bytes)) = some (some (.slice none 0 0), 1, 24) := by kernel_rfl
theorem infoIns : (Tryz.prog.info? 44).map (fun i => (i.zero, i.size, i.bytes)) = some (some (.agg #[.int .i64 0, .int .i64 0, .int .i64 0, .int .i64 0, .string ⟨#[]⟩, .slice none 0 0]), 6, 72) := by kernel_rfl
set_option maxHeartbeats 8000000 in
set_option maxRecDepth 100000 in
theorem line_calls2 {w0 w : World} (hL : LaidW w0) (hB : Below w0.heap.size w0 w) (gp gw D : Nat) (hD : w0.heap.size ≤ gp) (s : PS) (hs : PsAt D gp s w) (hDw : D ≤ w.heap.size) (ws : List ByteArray) (hw : WordsAt gw 0 ws w) (h0 : ws ≠ []) (hwl : ws.length ≤ 95000) (hws : ∀ t ∈ ws, t.size ≤ 95000) (hb : s.blocks.length ≤ 100000) (hbb : ∀ b ∈ s.blocks, b.length ≤ 100000) :
 Calls Tryz.prog 50 #[.pointer (some ⟨gp, 0, none⟩), .slice (some ⟨gw, 0, none⟩) ws.length ws.length] w fun e w' => e = .returned (.int .i64 (lineP s ws).1) ∧ ((lineP s ws).1 = 0 → PsAt D gp (lineP s ws).2 w') ∧ KeptD gp D w w' ∧ Below w0.heap.size w0 w' := by
 obtain ⟨w0d, rest, rfl⟩ : ∃ a l, ws = a :: l := by
  cases ws with
  | nil => exact absurd rfl h0
  | cons a l => exact ⟨a, l, rfl⟩
 obtain ⟨R, hR⟩ : ∃ R, R = lineP s (w0d :: rest) := ⟨_, rfl⟩
 rw [← hR]
 have hx0 := WordsAt.cell hw (i := 0) (t := w0d) rfl
 have HLd := zA hL
 have HB := zA hB
 have HS := zA hs
 have HW := zA hw
 have HR := zA hR
 have HWs := zA hws
 have HBB := zA hbb
 have hlen : (w0d :: rest).length = rest.length + 1 := rfl
 rw [hlen] at hwl ⊢
 clear hL hB hs hw hR hws hlen h0 hbb
 by_cases c0 : w0d.toList = [98, 108, 111, 99, 107] ∧ rest = []
 ·obtain ⟨c1, c2⟩ := c0
  subst c2
  have HR2 := zA (show R = (0, { s with blocks := s.blocks ++ [[]] }) from by rw [HR.out]; unfold lineP; simp only [c1, and_self, if_true])
  obtain ⟨c1a, c1b⟩ := qe c1
  obtain ⟨lt, vh, vb, hk, hr, hsb⟩ := HS.out
  obtain ⟨Ab, cb, rfl⟩ := Kd.S_slice hsb
  have HE := zA (show (s.blocks ++ [([] : List SIns)]).length = s.blocks.length + 1 from by simp)
  have z6 := bk6 hk
  have HK := zA hk
  have HRh := zA hr
  have HSb := zA hsb
  clear hk hr hsb c1
  go_enter Tryz.func50, Tryz.ntmps50
  go_wp2_with (first
   | ((with_reducible refine gate_dst (N := 26) rfl ?_); refine Kd.R_lit kIns (w0 := w) w.heap.size 44 (by rfl) (N := 26) (by rfl) (xs := ([] : List SIns)) (inner := []) (ok := fun _ => True) (okp := fun _ => True) ?hr ?hp (fun _ hk => hk) trivial (Below.refl _ _) (Nat.le_refl _) (by simp) ?_; (case hr => go_simp <;> rfl); (case hp => exact Reps.none _ _); intro v26 w1 ho_ hb_ hg_ hnew_; obtain ⟨A26, c26, rfl⟩ := Kd.R_slice ho_; have HO := zA ho_; have HB1 := zA hb_; have z7 := bk6 (blk_below HK.out hb_); clear ho_ hb_ hg_ hnew_ z6)
   | ((with_reducible refine gate_builtin (b := .append) (xs := #[.tmp 25, .tmp 27]) rfl ?_); at_builtin; (refine Kd.S_append (Kd.slice 44 kIns) (w0 := w1) D rfl (.tmp 25) (.tmp 27) 22 41 (.slice none 0 0) 24 rfl Tryz.underlying22 infoLIns rfl (by decide) (by omega) (.slice Ab s.blocks.length cb) s.blocks [] [.slice A26 0 c26] (fun _ => True) (fun q => w.heap.size ≤ q) rfl rfl ⟨_, rfl, Kd.R_lower (Kd.R_mono (Kd.R_bound HO.out) (fun q hq => hq.2.1)) hDw⟩ (fun q hq => ⟨trivial, fun e => by have := Kd.S_lt HSb.out q e.symm; omega⟩) (fun _ _ => trivial) (Kd.S_mono (Kd.S_old HSb.out HB1.out) (fun q hq => ⟨trivial, by omega⟩)) (Below.refl _ _) (Nat.le_trans hDw HB1.out.size) ?aL ?_; (case aL => omega)); intro v28 w2 ho_ hb_ hg_ hat_; obtain ⟨A28, c28, rfl⟩ := Kd.S_slice ho_; rw [HE.out] at ho_; have HO2 := zA ho_; have HB2 := zA hb_; have hk2 := (hb_.block gp lt).trans (blk_below HK.out HB1.out); have HK2 := zA hk2; have z8 := bk6 hk2; have HH2 := zA (show Kd.R (Kd.int .i64) 3 w2 D (fun _ => True) vh s.head from Kd.R_over' (Kd.R_below HRh.out HB1.out) (fun k hk => by obtain ⟨cs, h⟩ := Kd.S_typed HSb.out k hk; exact ⟨cs, blk_below h HB1.out⟩) (by decide) hg_); clear ho_ hb_ hg_ hat_ z7 hk2))
  go_ret
  have HKp := ((KeptD.of_below (gp := gp) HB1.out hDw).trans (KeptD.of_below HB2.out (Nat.le_refl D))).set 5 (.slice A28 (s.blocks.length + 1) c28)
  refine ⟨by rw [HR2.out]; rfl, fun _ => ?_, HKp, ?_⟩
  ·rw [HR2.out]
   exact ⟨lt, vh, _, blk_put HK2.out 5 _ rfl, Kd.R_set HH2.out HK2.out (by decide) 5 _, Kd.S_set HO2.out HK2.out (by decide) 5 _⟩
  ·exact ((below_step HB.out HB1.out).trans (HB2.out.mono (Nat.le_trans hD (Nat.le_of_lt lt)))).setCell (p := ⟨gp, 5, none⟩) hD _
 have HR2 : Aside0 (R = match byOf w0d s.code with
  | none => (80, s)
  | some (op, wd, fs) => if s.blocks = [] then (80, s) else if openF fs = false ∧ rest.length ≠ fs.size ∨ openF fs = true ∧ rest.length + 1 < fs.size then (80, s) else if (fillR rest fs.data.toList 0 (insOp op)).1 = 0 then (0, { s with blocks := s.blocks.set (s.blocks.length - 1) (s.blocks.getD (s.blocks.length - 1) [] ++ [(fillR rest fs.data.toList 0 (insOp op)).2]) }) else ((fillR rest fs.data.toList 0 (insOp op)).1, s)) := ⟨by rw [HR.out]; unfold lineP; simp only [zD c0]⟩
 clear HR
 go_enter Tryz.func50, Tryz.ntmps50
 go_upto_region 1 with fail
 go_cut [20] (fun v20 wc => v20 = .bool false ∧ w = wc)
 case first =>
  by_cases c1 : w0d.toList = [98, 108, 111, 99, 107]
  ·obtain ⟨c1a, c1b⟩ := qe c1
   have c2 : ¬ rest.length + 1 = 1 := fun e => c0 ⟨c1, List.length_eq_zero_iff.1 (by omega)⟩
   have c2i : ¬ (rest.length : Int) + 1 = 1 := by omega
   obtain ⟨c2a, c2b⟩ := qn c2
   obtain ⟨c2c, c2d⟩ := qn c2i
   clear c1 c0
   go_wp2_with fail
   go_meet
   case rel => exact ⟨rfl, rfl⟩
  ·obtain ⟨c1a, c1b⟩ := qn c1
   clear c1 c0
   go_wp2_with fail
   go_meet
   case rel => exact ⟨rfl, rfl⟩
 case rest =>
  obtain ⟨rfl, rfl⟩ := hcut
  obtain ⟨lt, vh, vb, hk, hr, hsb⟩ := HS.out
  obtain ⟨Ab, cb, rfl⟩ := Kd.S_slice hsb
  have z6 := bk6 hk
  have HK := zA hk
  have HRh := zA hr
  have HSb := zA hsb
  clear hk hr hsb c0
  go_upto_region 4 with fail
  obtain ⟨o, wd, fs, is, hbv, hby⟩ := byVal_form (byOf w0d s.code)
  have HBv := zA hbv
  have HBy := zA hby
  clear hbv hby
  have hz0 : w.cell? ⟨gp, 0, none⟩ = some (.bool s.code) := z6.1
  have hx00 : w.cell? ⟨gw, 0, none⟩ = some (.string w0d) := hx0
  have hu94 := Tryz.underlying102
  clear z6 hx0
  go_cut [5, 6] (fun v5 v6 wc => ∃ gf, v5 = .pointer (some ⟨gf, 0, none⟩) ∧ v6 = .bool is ∧ Aside0 (wc.heap[gf]? = some (.cells #[.int .i64 o, .string wd, .string fs] 102 (0, 0))) ∧ Aside0 (Below w.heap.size w wc) ∧ Aside0 (w.heap.size ≤ gf))
  case first =>
   refine start_ (n := 14) (S := fun w' => w'.cell? ⟨gw, 0, none⟩ = some (.string w0d) ∧ w'.cell? ⟨gp, 0, none⟩ = some (.bool s.code)) (ds := [12]) (bA 14 0) (by kernel_rfl) rfl rfl ⟨hx00, hz0⟩ (fun hHeld => ?_); refine with_tabW parser_line.tab4 parser_line.bits4 (fun HT_ HW_ => ?_)
   have HBd := zA (below_drew (Below.refl w.heap.size w))
   generalize w.drew = wd_ at HBd hHeld ⊢
   refine pu_ (i := 0) (N := some 32) (bA 14 1) ?_
   refine pu_ (i := 1) (N := some 33) (bA 14 3) ?_
   refine pu_ (i := 3) (N := some 35) (bA 14 11) ?_
   refine pu_ (i := 4) (N := some 36) (bA 14 27) ?_
   refine pu_ (i := 5) (N := some 37) (bA 14 59) ?_
   refine tk_ (i := 2) (N := some 34) (bA 14 63) ?_
   refine tk_ (i := 6) (N := some 38) (bA 14 127) ?_
   refine two_ (i := 7) (j := 11) (Ni := some 39) (Nj := some 5) (bA 14 255) (bA 14 2175) rfl rfl rfl rfl (two_of HT_.out (by kernel_rfl)) (by decide) (by decide) (fun K hK => ?_) (fun K hK => ?_)
   ·refine goes_ Tryz.func65 (by kernel_rfl) rfl #[.string w0d, .bool s.code] (by rfl) rfl rfl qL ?_
    refine (by_calls w0d s.code _).mono ?_
    rintro e w2 ⟨rfl, hb⟩
    refine ⟨_, rfl, ?_⟩
    rw [HBv.out]
    have HB2 := zA (below_step HBd.out hb)
    have hh2 : w2.cell? ⟨gw, 0, none⟩ = some (.string w0d) ∧ w2.cell? ⟨gp, 0, none⟩ = some (.bool s.code) := ⟨(hb.cell (zE _ _ hHeld.1)).trans hHeld.1, (hb.cell (zE _ _ hHeld.2)).trans hHeld.2⟩
    clear hb hHeld
    refine hK.out _ _ hh2 (fun hHeld => ?_)
    clear hK K hh2
    refine norm_ (a' := ?_) ?_ ?_
    rotate_left
    ·show Act.put _ (some 39) _ = _
     simp only [Act.put, List.setIfInBounds_toArray, List.set_cons_zero, List.set_cons_succ, i64_w, i32_w]
     rfl
    refine pu_ (i := 8) (N := some 31) (bA 14 511) ?_
    refine pu_ (i := 9) (N := some 40) (bA 14 1023) ?_
    refine pu_ (i := 10) (N := some 41) (bA 14 2047) ?_
    refine one_ (i := 11) (N := some 5) (bA 14 4095) rfl rfl (one_of HT_.out (by kernel_rfl)) (by decide) (fun K hK => ?_)
    refine box_step (by rfl) (N := 5) (by rfl) (cs := #[.int .i64 0, .string (⟨#[]⟩ : ByteArray), .string (⟨#[]⟩ : ByteArray)]) (t := 102) ?hr ?_
    case hr => first | (go_simp; done) | (go_simp; rfl)
    intro gf hg w3 hbox hb
    have HGf := zA (show w.heap.size ≤ gf by rw [hg]; exact HB2.out.size)
    have HB3 := zA (below_step HB2.out hb)
    have BF := zA hbox
    have z3 := bk3 hbox
    have hh2 : w3.cell? ⟨gw, 0, none⟩ = some (.string w0d) ∧ w3.cell? ⟨gp, 0, none⟩ = some (.bool s.code) := ⟨(hb.cell (zE _ _ hHeld.1)).trans hHeld.1, (hb.cell (zE _ _ hHeld.2)).trans hHeld.2⟩
    clear hb hHeld hbox hg
    refine hK.out _ _ hh2 (fun hHeld => ?_)
    clear hK K hh2
    refine norm_ (a' := ?_) ?_ ?_
    rotate_left
    ·show Act.put _ (some 5) _ = _
     simp only [Act.put, List.setIfInBounds_toArray, List.set_cons_zero, List.set_cons_succ, i64_w, i32_w]
     rfl
    refine last_ (i := 12) (N := none) (bA 14 8191) rfl rfl (one_of HT_.out (by kernel_rfl)) (by decide) (fun K hK => ?_)
    refine skip_ (w1 := ?_) (by rfl) rfl ?_ ?_
    rotate_left
    ·first | (go_simp; done) | (go_simp; rfl)
    refine hK.out _ _ ?_
    clear hK K
    refine pu_ (i := 13) (N := some 6) (bA 14 16383) ?_
    refine done_ (done_of HT_.out (by kernel_rfl)) ?_
    go_wp2_with fail
    go_meet
    case rel => exact ⟨gf, rfl, rfl, ⟨blk_put (blk_put (blk_put BF.out 0 _ rfl) 1 _ rfl) 2 _ rfl⟩, ⟨((HB3.out.setCell (p := ⟨gf, 0, none⟩) HGf.out _).setCell (p := ⟨gf, 1, none⟩) HGf.out _).setCell (p := ⟨gf, 2, none⟩) HGf.out _⟩, HGf⟩
   ·refine box_step (by rfl) (N := 5) (by rfl) (cs := #[.int .i64 0, .string (⟨#[]⟩ : ByteArray), .string (⟨#[]⟩ : ByteArray)]) (t := 102) ?hr ?_
    case hr => first | (go_simp; done) | (go_simp; rfl)
    intro gf hg w2 hbox hb
    have HGf := zA (show w.heap.size ≤ gf by rw [hg]; exact HBd.out.size)
    have HB2 := zA (below_step HBd.out hb)
    have BF2 := zA hbox
    have hh2 : w2.cell? ⟨gw, 0, none⟩ = some (.string w0d) ∧ w2.cell? ⟨gp, 0, none⟩ = some (.bool s.code) := ⟨(hb.cell (zE _ _ hHeld.1)).trans hHeld.1, (hb.cell (zE _ _ hHeld.2)).trans hHeld.2⟩
    clear hb hHeld hbox hg
    refine hK.out _ _ hh2 (fun hHeld => ?_)
    clear hK K hh2
    refine norm_ (a' := ?_) ?_ ?_
    rotate_left
    ·show Act.put _ (some 5) _ = _
     simp only [Act.put, List.setIfInBounds_toArray, List.set_cons_zero, List.set_cons_succ, i64_w, i32_w]
     rfl
    refine one_ (i := 7) (N := some 39) (bA 14 2303) rfl rfl (one_of HT_.out (by kernel_rfl)) (by decide) (fun K hK => ?_)
    refine goes_ Tryz.func65 (by kernel_rfl) rfl #[.string w0d, .bool s.code] (by rfl) rfl rfl qL ?_
    refine (by_calls w0d s.code _).mono ?_
    rintro e w3 ⟨rfl, hb⟩
    refine ⟨_, rfl, ?_⟩
    rw [HBv.out]
    have HB3 := zA (below_step HB2.out hb)
    have BF := zA (blk_below BF2.out hb)
    have z3 := bk3 BF.out
    have hh2 : w3.cell? ⟨gw, 0, none⟩ = some (.string w0d) ∧ w3.cell? ⟨gp, 0, none⟩ = some (.bool s.code) := ⟨(hb.cell (zE _ _ hHeld.1)).trans hHeld.1, (hb.cell (zE _ _ hHeld.2)).trans hHeld.2⟩
    clear hb hHeld
    refine hK.out _ _ hh2 (fun hHeld => ?_)
    clear hK K hh2
    refine norm_ (a' := ?_) ?_ ?_
    rotate_left
    ·show Act.put _ (some 39) _ = _
     simp only [Act.put, List.setIfInBounds_toArray, List.set_cons_zero, List.set_cons_succ, i64_w, i32_w]
     rfl
    refine pu_ (i := 8) (N := some 31) (bA 14 2559) ?_
    refine pu_ (i := 9) (N := some 40) (bA 14 3071) ?_
    refine pu_ (i := 10) (N := some 41) (bA 14 4095) ?_
    refine last_ (i := 12) (N := none) (bA 14 8191) rfl rfl (one_of HT_.out (by kernel_rfl)) (by decide) (fun K hK => ?_)
    refine skip_ (w1 := ?_) (by rfl) rfl ?_ ?_
    rotate_left
    ·first | (go_simp; done) | (go_simp; rfl)
    refine hK.out _ _ ?_
    clear hK K
    refine pu_ (i := 13) (N := some 6) (bA 14 16383) ?_
    refine done_ (done_of HT_.out (by kernel_rfl)) ?_
    go_wp2_with fail
    go_meet
    case rel => exact ⟨gf, rfl, rfl, ⟨blk_put (blk_put (blk_put BF.out 0 _ rfl) 1 _ rfl) 2 _ rfl⟩, ⟨((HB3.out.setCell (p := ⟨gf, 0, none⟩) HGf.out _).setCell (p := ⟨gf, 1, none⟩) HGf.out _).setCell (p := ⟨gf, 2, none⟩) HGf.out _⟩, HGf⟩
  case rest =>
   obtain ⟨gf, rfl, rfl, BF, HBc, HGf⟩ := hcut
   have z3 := bk3 BF.out
   have hkc := blk_below HK.out HBc.out
   have z6 := bk6 hkc
   clear hx00 hz0
   cases is with
   | false =>
    have HR3 := zA (show R = (80, s) from by rw [HR2.out, HBy.out]; rfl)
    go_wp2_with fail
    go_ret
    exact ⟨by rw [HR3.out]; rfl, fun h => by rw [HR3.out] at h; exact absurd (show (80 : Int) = 0 from h) (by decide), KeptD.of_below HBc.out hDw, below_step HB.out HBc.out⟩
   | true =>
   have HR3 : Aside0 (R = if s.blocks = [] then (80, s) else if openF fs = false ∧ rest.length ≠ fs.size ∨ openF fs = true ∧ rest.length + 1 < fs.size then (80, s) else if (fillR rest fs.data.toList 0 (insOp o)).1 = 0 then (0, { s with blocks := s.blocks.set (s.blocks.length - 1) (s.blocks.getD (s.blocks.length - 1) [] ++ [(fillR rest fs.data.toList 0 (insOp o)).2]) }) else ((fillR rest fs.data.toList 0 (insOp o)).1, s)) := ⟨by rw [HR2.out, HBy.out]; rfl⟩
   clear HR2 HBv
   by_cases c3 : s.blocks = []
   ·have HR4 := zA (show R = (80, s) from by rw [HR3.out, zC c3])
    have hl0 : (s.blocks.length : Int) - 1 < 0 := by rw [c3]; decide
    have hl1 := zF hl0
    clear c3
    go_wp2_with fail
    go_ret
    exact ⟨by rw [HR4.out]; rfl, fun h => by rw [HR4.out] at h; exact absurd (show (80 : Int) = 0 from h) (by decide), KeptD.of_below HBc.out hDw, below_step HB.out HBc.out⟩
   obtain ⟨hfs3, hfsl, hfsw⟩ := byOf_fs (HBy.out.trans (zC rfl))
   have HFw := zA (hfsw rfl)
   clear hfsw
   have hfsz : fs.size ≤ 9223372036854775807 := by omega
   have hlp : 0 < s.blocks.length := List.length_pos_iff.2 c3
   rw [zD c3] at HR3
   have hl0 : ¬ (s.blocks.length : Int) - 1 < 0 := by omega
   have hl1 := zG hl0
   clear c3
   obtain ⟨b, hbo⟩ : ∃ b, b = openF fs := ⟨_, rfl⟩
   have HBo := zA hbo
   clear hbo
   go_upto_region 10 with (go_at_call 66; refine (Any.strings_HasSuffix Tryz.lays100 fs (⟨#[76]⟩ : ByteArray) _ ?hsz).mono ?_; (case hsz => exact hfsz); rintro e w' ⟨rfl, rfl⟩; rw [show Lib.hasSuffix fs.data.toList (⟨#[76]⟩ : ByteArray).data.toList = b from HBo.out.symm])
   go_cut [79] (fun v79 wq => v79 = .bool (decide (b = false ∧ rest.length ≠ fs.size ∨ b = true ∧ rest.length + 1 < fs.size)) ∧ w' = wq)
   case first =>
    clear z6
    cases b with
    | false =>
     by_cases e1 : rest.length = fs.size
     ·obtain ⟨e2, e3⟩ := qe e1
      obtain ⟨e4, e5⟩ := qe (show (rest.length : Int) = (fs.size : Int) by omega)
      have hd := zG (show ¬ (false = false ∧ rest.length ≠ fs.size ∨ false = true ∧ rest.length + 1 < fs.size) from fun h => by rcases h with h | h; exact h.2 e1; cases h.1)
      have HD := zA hd
      clear hd e1
      go_wp2_with fail
      go_meet
      case rel => exact ⟨by rw [HD.out], rfl⟩
     ·obtain ⟨e2, e3⟩ := qn e1
      obtain ⟨e4, e5⟩ := qn (show ¬ (rest.length : Int) = (fs.size : Int) by omega)
      have hd := zF (show (false = false ∧ rest.length ≠ fs.size ∨ false = true ∧ rest.length + 1 < fs.size) from .inl ⟨rfl, e1⟩)
      have HD := zA hd
      clear hd e1
      go_wp2_with fail
      go_meet
      case rel => exact ⟨by rw [HD.out], rfl⟩
    | true =>
     by_cases e1 : rest.length + 1 < fs.size
     ·have e2 := zF (show (rest.length : Int) < (fs.size : Int) - 1 by omega)
      have e3 := zF e1
      have e4 := zF (show (rest.length : Int) + 1 < (fs.size : Int) by omega)
      have hd := zF (show (true = false ∧ rest.length ≠ fs.size ∨ true = true ∧ rest.length + 1 < fs.size) from .inr ⟨rfl, e1⟩)
      have HD := zA hd
      clear hd e1
      go_wp2_with fail
      go_meet
      case rel => exact ⟨by rw [HD.out], rfl⟩
     ·have e2 := zG (show ¬ (rest.length : Int) < (fs.size : Int) - 1 by omega)
      have e3 := zG e1
      have e4 := zG (show ¬ (rest.length : Int) + 1 < (fs.size : Int) by omega)
      have hd := zG (show ¬ (true = false ∧ rest.length ≠ fs.size ∨ true = true ∧ rest.length + 1 < fs.size) from fun h => by rcases h with h | h; cases h.1; exact e1 h.2)
      have HD := zA hd
      clear hd e1
      go_wp2_with fail
      go_meet
      case rel => exact ⟨by rw [HD.out], rfl⟩
   case rest =>
   obtain ⟨rfl, hwq⟩ := hcut
   subst hwq
   rw [← HBo.out] at HR3
   by_cases c4 : b = false ∧ rest.length ≠ fs.size ∨ b = true ∧ rest.length + 1 < fs.size
   ·have HR4 := zA (show R = (80, s) from by rw [HR3.out, zC c4])
    rw [zF c4]
    clear c4
    go_wp2_with fail
    go_ret
    exact ⟨by rw [HR4.out]; rfl, fun h => by rw [HR4.out] at h; exact absurd (show (80 : Int) = 0 from h) (by decide), KeptD.of_below HBc.out hDw, below_step HB.out HBc.out⟩
   rw [zD c4] at HR3
   rw [zG c4]
   have HC4 := zA c4
   clear c4
   have hu43 := Tryz.underlying44
   go_upto_region 13 with ((with_reducible refine gate_dst (N := 10) rfl ?_); refine box_event (by rfl) (N := 10) (by rfl) (cs := #[.int .i64 0, .int .i64 0, .int .i64 0, .int .i64 0, .string (⟨#[]⟩ : ByteArray), .slice none 0 0]) (t := 44) ?hr ?_; (case hr => go_simp <;> rfl); intro gx hg w4 hbox hb4; have BX := zA hbox; have HGx := zA hg; have HB4 := zA hb4; have z7 := bk6 hbox; have BF4 := zA (blk_below BF.out hb4); clear hg hbox hb4)
   have hwn : wants fs.data.toList ≤ rest.length := wants_open (by rw [← HBo.out]; exact HC4.out)
   have hr1 : 1 ≤ rest.length := Nat.le_trans HFw.out hwn
   have BX5 := zA (blk_put (blk_put (blk_put (blk_put (blk_put (blk_put BX.out 0 (.int .i64 o) rfl) 1 (.int .i64 0) rfl) 2 (.int .i64 0) rfl) 3 (.int .i64 0) rfl) 4 (.string (⟨#[]⟩ : ByteArray)) rfl) 5 (.slice none 0 0) rfl)
   have hgx : w'.heap.size ≤ gx := by rw [HGx.out]; exact Nat.le_refl _
   have HB5 := zA (((((((HB4.out.setCell (p := ⟨gx, 0, none⟩) hgx (.int .i64 o)).setCell (p := ⟨gx, 1, none⟩) hgx (.int .i64 0)).setCell (p := ⟨gx, 2, none⟩) hgx (.int .i64 0)).setCell (p := ⟨gx, 3, none⟩) hgx (.int .i64 0)).setCell (p := ⟨gx, 4, none⟩) hgx (.string (⟨#[]⟩ : ByteArray))).setCell (p := ⟨gx, 5, none⟩) hgx (.slice none 0 0)))
   clear z7 BX z3 HB4 BF4
   generalize ((((((w4.setCell ⟨gx, 0, none⟩ (.int .i64 o)).setCell ⟨gx, 1, none⟩ (.int .i64 0)).setCell ⟨gx, 2, none⟩ (.int .i64 0)).setCell ⟨gx, 3, none⟩ (.int .i64 0)).setCell ⟨gx, 4, none⟩ (.string (⟨#[]⟩ : ByteArray))).setCell ⟨gx, 5, none⟩ (.slice none 0 0)) = w5 at BX5 HB5 ⊢
   have BF5 := zA (blk_below BF.out HB5.out)
   have HB6 := zA (below_drew HB5.out)
   have BX6 := zA (blk_drew BX5.out)
   have hrz : (rest.length = 0) = False := eq_false (by omega)
   have hr1i := eq_true (show (1 : Int) ≤ (rest.length : Int) + 1 by omega)
   refine start_ (n := 5) (S := fun w' => w'.cell? ⟨gf, 0, none⟩ = some (.int .i64 o) ∧ w'.cell? ⟨gf, 1, none⟩ = some (.string wd) ∧ w'.cell? ⟨gf, 2, none⟩ = some (.string fs)) (ds := []) (bA 5 0) (by kernel_rfl) rfl rfl ⟨(blk_cell BF5.out 0).trans rfl, (blk_cell BF5.out 1).trans rfl, (blk_cell BF5.out 2).trans rfl⟩ (fun hHeld => ?_); refine with_tabW parser_line.tab13 parser_line.bits13 (fun HT_ HW_ => ?_)
   generalize w5.drew = w6 at HB6 BX6 hHeld ⊢
   refine pu_ (i := 1) (N := some 84) (bA 5 2) ?_
   refine pu_ (i := 2) (N := some 85) (bA 5 6) ?_
   refine tk_ (i := 0) (N := some 83) (bA 5 7) ?_
   refine one_ (i := 3) (N := some 86) (bA 5 15) rfl rfl (one_of HT_.out (by kernel_rfl)) (by decide) (fun K hK => ?_)
   obtain ⟨F, hF⟩ : ∃ F, F = fillR rest fs.data.toList 0 (insOp o) := ⟨_, rfl⟩
   rw [← hF] at HR3
   have hsmall : (0 : Nat) + 10 * rest.length ≤ 10000000 := by omega
   have HLw := zA (HLd.out.below (below_step HB.out HBc.out))
   have hw1 := WordsAt.tail HW.out
   have hfc := fill_calls HLw.out HB6.out gx gw (insOp o) ⟨hgx, .slice none 0 0, BX6.out, Kd.R_nil _ _ _ _ _⟩ (blk_lt BX6.out) o wd fs rest rest.length (WordsAt.low hw1 (by obtain ⟨_, hk, _⟩ := hw1; exact blk_lt hk) HBc.out) hfsl hwn (by omega) (fun t ht => by have := HWs.out t (List.mem_cons_of_mem _ ht); omega) (by omega) hsmall (Nat.le_refl _)
   rw [← hF] at hfc
   clear hF
   refine goes_ Tryz.func67 (by kernel_rfl) rfl #[.pointer (some ⟨gx, 0, none⟩), .agg #[.int .i64 o, .string wd, .string fs], .slice (some ⟨gw, 1, none⟩) rest.length rest.length] (by rfl) rfl rfl qL ?_
   refine hfc.mono ?_
   clear hfc hw1
   rintro e w7 ⟨rfl, hfx, hb7⟩
   refine ⟨_, rfl, ?_⟩
   have HFx := zA hfx
   have HB7 := zA hb7
   have BF7 := zA (blk_below BF.out hb7)
   clear hb7 hfx hHeld BF5 HB6 BX6 HB5 BX5
   refine hK.out _ _ ⟨(blk_cell BF7.out 0).trans rfl, (blk_cell BF7.out 1).trans rfl, (blk_cell BF7.out 2).trans rfl⟩ (fun hHeld => ?_)
   clear hK K
   refine norm_ (a' := ?_) ?_ ?_
   rotate_left
   ·show Act.put _ (some 86) _ = _
    simp only [Act.put, List.setIfInBounds_toArray, List.set_cons_zero, List.set_cons_succ, i64_w, i32_w]
    rfl
   refine pu_ (i := 4) (N := some 11) (bA 5 31) ?_
   refine done_ (done_of HT_.out (by kernel_rfl)) ?_
   clear HT_ HW_ hHeld hrz hr1i hr1 hwn hsmall
   by_cases c5 : F.1 = 0
   case neg =>
    have HR4 := zA (show R = (F.1, s) from by rw [HR3.out, zD c5])
    obtain ⟨c6, c7⟩ := qn c5
    have HC5 := zA c5
    clear c5
    go_wp2_with fail
    go_ret
    exact ⟨by rw [HR4.out]; rfl, fun h => by rw [HR4.out] at h; exact absurd (show F.1 = 0 from h) HC5.out, (KeptD.of_below HBc.out hDw).trans (KeptD.of_below HB7.out (Nat.le_trans hDw HBc.out.size)), below_step (below_step HB.out HBc.out) HB7.out⟩
   have HR4 := zA (show R = (0, { s with blocks := s.blocks.set (s.blocks.length - 1) (s.blocks.getD (s.blocks.length - 1) [] ++ [F.2]) }) from by rw [HR3.out, zC c5])
   have HX := zA (HFx.out c5)
   obtain ⟨c6, c7⟩ := qe c5
   clear c5
   go_upto_region 16 with fail
   -- the last block takes the instruction in
   obtain ⟨gb, cb2, eb, hgb, -, -⟩ := Kd.S_form HSb.out hlp
   injection eb with e1 e2 e3
   subst e1
   subst e3
   have HSc := Kd.S_below HSb.out HBc.out
   have HSo := zA (Kd.S_old HSc HB7.out)
   have HK7 := zA (blk_below (blk_below HK.out HBc.out) HB7.out)
   have HR7 := zA (Kd.R_below (Kd.R_below HRh.out HBc.out) HB7.out)
   clear HSc
   have hi0 : (0 : Int) ≤ (s.blocks.length : Int) - 1 := by omega
   have hi1 : (s.blocks.length : Int) - 1 < (s.blocks.length : Int) := by omega
   obtain ⟨oki, cv, hcl, hM, hcc, hfz, hoki, hH⟩ := Kd.S_elem HSo.out [] ((s.blocks.length : Int) - 1) hi0 hi1
   obtain ⟨vk, rfl, hrk⟩ := hM
   have hto : ((s.blocks.length : Int) - 1).toNat = s.blocks.length - 1 := by omega
   have hvk : w7.cell? ⟨gb, ((s.blocks.length : Int) - 1).toNat * 1 + 0, none⟩ = some vk := hcc 0 vk rfl
   have hfk : w7.frozen? ⟨gb, ((s.blocks.length : Int) - 1).toNat * 1 + 0, none⟩ = false := hfz 0
   rw [Nat.mul_one, Nat.add_zero, hto] at hvk hfk
   rw [hto] at hrk
   obtain ⟨hgx2, v5, hkx, hr5⟩ := HX.out
   obtain ⟨xk, hxk⟩ : ∃ xk, xk = s.blocks.getD (s.blocks.length - 1) [] := ⟨_, rfl⟩
   rw [← hxk] at hrk
   have hxl : xk.length ≤ 100000 := by
    rw [hxk, List.getD_eq_getElem?_getD, List.getElem?_eq_getElem (by omega)]
    exact HBB.out _ (List.getElem_mem _)
   obtain ⟨Ak, ck, ek⟩ := Kd.R_slice hrk
   subst ek
   obtain ⟨A5, c5, e5⟩ := Kd.R_slice hr5
   subst e5
   have HH := zA (Kd.H_drew hH)
   have HRk := zA (Kd.R_drew hrk)
   have HR5 := zA (Kd.R_drew hr5)
   have HOk := zA hoki
   have HXk := zA hxk
   have HKx := zA (blk_drew hkx)
   have HTo := zA hto
   have HK8 := zA (blk_drew HK7.out)
   have HR8 := zA (Kd.R_drew HR7.out)
   have HB8 := zA (below_drew HB7.out)
   have hl2 := eq_true (show (1 : Int) ≤ (s.blocks.length : Int) by omega)
   have hvk8 : w7.drew.cell? ⟨gb, s.blocks.length - 1, none⟩ = some (.slice Ak xk.length ck) := hvk
   have hfk8 : w7.drew.frozen? ⟨gb, s.blocks.length - 1, none⟩ = false := hfk
   clear hcl hcc hfz hoki hH hrk hr5 hkx hvk hfk hto hxk HK7 HR7
   refine start_ (n := 17) (S := fun w' => w'.cell? ⟨gp, 5, none⟩ = some (.slice (some ⟨gb, 0, none⟩) s.blocks.length cb) ∧ w'.cell? ⟨gb, s.blocks.length - 1, none⟩ = some (.slice Ak xk.length ck) ∧ w'.cell? ⟨gx, 0, none⟩ = some (.int .i64 F.2.f0) ∧ w'.cell? ⟨gx, 1, none⟩ = some (.int .i64 F.2.f1) ∧ w'.cell? ⟨gx, 2, none⟩ = some (.int .i64 F.2.f2) ∧ w'.cell? ⟨gx, 3, none⟩ = some (.int .i64 F.2.f3) ∧ w'.cell? ⟨gx, 4, none⟩ = some (.string F.2.f4) ∧ w'.cell? ⟨gx, 5, none⟩ = some (.slice A5 F.2.f5.length c5)) (ds := [16]) (bA 17 0) (by kernel_rfl) rfl rfl ⟨(blk_cell HK8.out 5).trans rfl, hvk8, (blk_cell HKx.out 0).trans rfl, (blk_cell HKx.out 1).trans rfl, (blk_cell HKx.out 2).trans rfl, (blk_cell HKx.out 3).trans rfl, (blk_cell HKx.out 4).trans rfl, (blk_cell HKx.out 5).trans rfl⟩ (fun hHeld => ?_); refine with_tabW parser_line.tab16 parser_line.bits16 (fun HT_ HW_ => ?_)
   have HFk := zA hfk8
   have HVk := zA hvk8
   clear hfk8 hvk8
   generalize w7.drew = w8 at HH HRk HR5 HKx HK8 HR8 HB8 HFk HVk hHeld ⊢
   refine pu_ (i := 0) (N := some 90) (bA 17 1) ?_
   refine pu_ (i := 1) (N := some 91) (bA 17 3) ?_
   refine pu_ (i := 2) (N := some 92) (bA 17 7) ?_
   refine pu_ (i := 4) (N := some 94) (bA 17 23) ?_
   refine pu_ (i := 5) (N := some 95) (bA 17 55) ?_
   refine pu_ (i := 6) (N := some 96) (bA 17 119) ?_
   refine pu_ (i := 7) (N := some 97) (bA 17 247) ?_
   refine pu_ (i := 9) (N := some 99) (bA 17 759) ?_
   refine tk_ (i := 3) (N := some 93) (bA 17 767) ?_
   refine tk_ (i := 8) (N := some 98) (bA 17 1023) ?_
   refine pu_ (i := 10) (N := some 100) (bA 17 2047) ?_
   refine tk_ (i := 11) (N := some 101) (bA 17 4095) ?_
   refine tk_ (i := 12) (N := some 102) (bA 17 8191) ?_
   refine one_ (i := 13) (N := some 103) (bA 17 16383) rfl rfl (one_of HT_.out (by kernel_rfl)) (by decide) (fun K hK => ?_)
   refine value_ (v := .slice (some ⟨w8.heap.size, 0, none⟩) 1 1) (w1 := w8.alloc (.cells #[.int .i64 F.2.f0, .int .i64 F.2.f1, .int .i64 F.2.f2, .int .i64 F.2.f3, .string F.2.f4, .slice A5 F.2.f5.length c5] 44)) rfl rfl (by first | (go_simp; done) | (go_simp; with_reducible rfl)) ?_
   have hba := below_alloc (Below.refl w8.heap.size w8) (.cells #[.int .i64 F.2.f0, .int .i64 F.2.f1, .int .i64 F.2.f2, .int .i64 F.2.f3, .string F.2.f4, .slice A5 F.2.f5.length c5] 44)
   refine hK.out _ _ ⟨(hba.cell (zE _ _ hHeld.1)).trans hHeld.1, (hba.cell (zE _ _ hHeld.2.1)).trans hHeld.2.1, (hba.cell (zE _ _ hHeld.2.2.1)).trans hHeld.2.2.1, (hba.cell (zE _ _ hHeld.2.2.2.1)).trans hHeld.2.2.2.1, (hba.cell (zE _ _ hHeld.2.2.2.2.1)).trans hHeld.2.2.2.2.1, (hba.cell (zE _ _ hHeld.2.2.2.2.2.1)).trans hHeld.2.2.2.2.2.1, (hba.cell (zE _ _ hHeld.2.2.2.2.2.2.1)).trans hHeld.2.2.2.2.2.2.1, (hba.cell (zE _ _ hHeld.2.2.2.2.2.2.2)).trans hHeld.2.2.2.2.2.2.2⟩ (fun hHeld2 => ?_)
   clear hK K hHeld hba
   refine norm_ (a' := ?_) ?_ ?_
   rotate_left
   ·show Act.put _ (some 103) _ = _
    simp only [Act.put, List.setIfInBounds_toArray, List.set_cons_zero, List.set_cons_succ, i64_w, i32_w]
    rfl
   have hDw8 : D ≤ w8.heap.size := Nat.le_trans hDw (Nat.le_trans HBc.out.size HB8.out.size)
   refine one_ (i := 14) (N := some 104) (bA 17 32767) rfl rfl (one_of HT_.out (by kernel_rfl)) (by decide) (fun K hK => ?_)
   refine Kd.R_append_step kIns (w0 := w8) D (by rfl) (.tmp 101) (.tmp 103) 41 44 (.agg #[(.int .i64 0), (.int .i64 0), (.int .i64 0), (.int .i64 0), (.string ⟨#[]⟩), (.slice none 0 0)]) 72 rfl Tryz.underlying41 infoIns rfl (by decide) (by omega) (.slice Ak xk.length ck) xk F.2 [.int .i64 F.2.f0, .int .i64 F.2.f1, .int .i64 F.2.f2, .int .i64 F.2.f3, .string F.2.f4, .slice A5 F.2.f5.length c5] (fun q => oki q ∨ w'.heap.size ≤ q) (fun q => w'.heap.size ≤ q) rfl rfl ?hp ?hokp ?hfresh ?HO (Below.refl _ _) hDw8 (by omega) ?_
   case hp => exact kIns_mkM w8 D _ F.2 (Kd.R_lower (Kd.R_mono (Kd.R_bound HR5.out) (fun q hq => hq.2.1)) (Nat.le_trans hDw HBc.out.size))
   case hokp => exact fun q hq => ⟨.inr hq, fun e => by have := (HOk.out q (HRk.out.1 q e.symm)).1.2; omega⟩
   case hfresh => exact fun q hq => .inr (Nat.le_trans HB8.out.size hq)
   case HO => exact Kd.R_mono HRk.out (fun q hq => .inl hq)
   intro v104 w9 ho hb9 hg9 _
   obtain ⟨A9, c9, e9⟩ := Kd.R_slice ho
   subst e9
   rw [show (xk ++ [F.2]).length = xk.length + 1 by simp] at ho ⊢
   have hkb : w9.heap[gb]? = w8.heap[gb]? := hg9.block gb (zE _ _ HVk.out) (fun e => (HOk.out gb (HRk.out.1 gb e.symm)).2 rfl)
   have hkg : w9.heap[gx]? = w8.heap[gx]? := hg9.block gx (blk_lt HKx.out) (fun e => by have := (HOk.out gx (HRk.out.1 gx e.symm)).1.2; omega)
   obtain ⟨csb, hcsb⟩ := Kd.S_typed HSb.out gb (by simp [Value.ownBlock])
   have HCb := zA (hkb.trans (blk_below (blk_below hcsb HBc.out) HB8.out))
   clear hcsb
   have hv9 : w9.cell? ⟨gb, s.blocks.length - 1, none⟩ = some (.slice Ak xk.length ck) := (World.cell?_of_block (w := w8) hkb).trans HVk.out
   have hf9 : w9.frozen? ⟨gb, s.blocks.length - 1, none⟩ = false := (World.frozen?_of_block (w := w8) hkb).trans HFk.out
   have hkp9 := (hb9.block gp lt).trans HK8.out
   have hkx9 := hkg.trans HKx.out
   have HK9 := zA hkp9
   have HR9 := zA (show Kd.R (Kd.int .i64) 3 w9 D (fun _ => True) vh s.head from Kd.R_over' HR8.out (fun k hk => Kd.R_typed HRk.out k hk) (by decide) hg9)
   have HB9 := zA hb9
   have HRn := zA ho
   have HH9 := zA (Kd.H_grown HH.out hg9 (fun k hk => HRk.out.1 k hk))
   clear ho hb9 hkb hkg hg9 hHeld2
   refine hK.out _ _ ⟨(blk_cell hkp9 5).trans rfl, hv9, (blk_cell hkx9 0).trans rfl, (blk_cell hkx9 1).trans rfl, (blk_cell hkx9 2).trans rfl, (blk_cell hkx9 3).trans rfl, (blk_cell hkx9 4).trans rfl, (blk_cell hkx9 5).trans rfl⟩ (fun hHeld => ?_)
   clear hK K hkp9 hkx9
   refine norm_ (a' := ?_) ?_ ?_
   rotate_left
   ·show Act.put _ (some 104) _ = _
    simp only [Act.put, List.setIfInBounds_toArray, List.set_cons_zero, List.set_cons_succ, i64_w, i32_w]
    rfl
   refine pu_ (i := 15) (N := some 105) (bA 17 65535) ?_
   refine last_ (i := 16) (N := none) (bA 17 131071) rfl rfl (one_of HT_.out (by kernel_rfl)) (by decide) (fun K hK => ?_)
   refine skip_ (w1 := ?_) (by rfl) rfl ?_ ?_
   rotate_left
   ·first | (go_simp; done) | (go_simp; rfl)
   refine hK.out _ _ ?_
   clear hK K hv9 hf9 hHeld
   refine done_ (done_of HT_.out (by kernel_rfl)) ?_
   go_wp2_with fail
   go_ret
   have hgbD : D ≤ gb := hgb
   have hgb' : gb < w'.heap.size := by
    have := Kd.S_lt HSb.out gb (by simp [Value.ownBlock])
    exact Nat.lt_of_lt_of_le this HBc.out.size
   obtain ⟨hS9, hg10⟩ := Kd.S_seg (d := Kd.slice 44 kIns) (ok := fun _ => True) (okg := fun q => w'.heap.size ≤ q) (okp := fun q => oki q ∨ w'.heap.size ≤ q) (Kd.H_mono HH9.out (fun k hk => ⟨trivial, by omega⟩)) hi0 hi1 (seg := [.slice A9 (xk.length + 1) c9]) (j := 0) (Nat.le_refl 1) (x' := xk ++ [F.2]) ⟨_, rfl, HRn.out⟩ (fun k hk => hk) (fun k hk => ⟨trivial, by omega⟩)
   have hsz : (Kd.slice 44 kIns).sz = 1 := rfl
   rw [hsz, Nat.mul_one, Nat.add_zero, HTo.out] at hS9
   have hS10 : Kd.S (Kd.slice 44 kIns) 41 (w9.setCell ⟨gb, s.blocks.length - 1, none⟩ (.slice A9 (xk.length + 1) c9)) D (fun _ => True) (.slice (some ⟨gb, 0, none⟩) s.blocks.length cb) (s.blocks.set (s.blocks.length - 1) (xk ++ [F.2])) := by simpa only [World.setCells] using hS9
   have hgpb : gb ≠ gp := by omega
   have HKp : KeptD gp D w (w9.setCell ⟨gb, s.blocks.length - 1, none⟩ (.slice A9 (xk.length + 1) c9)) := ((((KeptD.of_below HBc.out hDw).trans (KeptD.of_below HB8.out (Nat.le_trans hDw HBc.out.size))).trans (KeptD.of_below HB9.out (Nat.le_refl D)))).trans (KeptD.of_below ((Below.refl D w9).setCell (p := ⟨gb, s.blocks.length - 1, none⟩) hgbD _) (Nat.le_refl D))
   refine ⟨by rw [HR4.out]; rfl, fun _ => ?_, HKp, ?_⟩
   ·rw [HR4.out]
    refine ⟨lt, vh, .slice (some ⟨gb, 0, none⟩) s.blocks.length cb, blk_far HK9.out (p := ⟨gb, s.blocks.length - 1, none⟩) (Ne.symm hgpb) _, ?_, ?_⟩
    ·exact Kd.R_set HR9.out HCb.out (by decide) _ _
    ·show Kd.S _ _ _ _ _ _ (s.blocks.set (s.blocks.length - 1) (s.blocks.getD (s.blocks.length - 1) [] ++ [F.2]))
     rw [← HXk.out]
     exact hS10
   ·exact ((below_step (below_step HB.out HBc.out) HB8.out).trans (HB9.out.mono (Nat.le_trans hD (Nat.le_of_lt lt)))).setCell (p := ⟨gb, s.blocks.length - 1, none⟩) (by show _ ≤ gb; omega) _
def topP (s : PS) (ws : List ByteArray) : Int × PS :=
 match ws with
 | w0 :: w1 :: rest => if w0.toList = s.first.toList ∧ ((rest.length + 2 : Nat) : Int) = s.heads + 2 ∧ nameOk w1 = true then (match rest.mapM numOf with | some l => (0, { s with name := w1, head := l }) | none => (81, s)) else (80, s)
 | _ => (80, s)
def parser_top.T1 : Bool × List (List Nat × List Nat) := (true, [([], []), ([0], [0]), ([1], [1]), ([], []), ([3], [3]), ([4], [4]), ([5], [5]), ([2, 6], [2, 6]), ([7], [7]), ([8], [8]), ([9, 8], [8, 9]), ([8], [8]), ([11, 8], [8, 11]), ([12, 8], [8, 12]), ([13, 8], [8, 13]), ([14, 8], [8, 14]), ([10, 15, 8], [8, 10, 15]), ([8, 16], [8, 16]), ([17, 8], [17]), ([18], [18]), ([19, 18], [18, 19]), ([20, 18], [18, 20]), ([21, 18, 18], [18, 21]), ([22, 18], [18, 22]), ([18, 23], [18, 23])])
def parser_top.B1 : List Nat := [0, 1, 3, 0, 8, 24, 56, 127, 255, 511, 1023, 511, 2559, 6655, 14847, 31231, 65535, 131071, 262143, 524287, 1048575, 2097151, 4194303, 8388607, 16777215]
theorem parser_top.tab1 : rtab .any (opsOf Tryz.f49 1) = parser_top.T1 := by kernel_rfl
theorem parser_top.bits1 : waitsOk parser_top.T1.2 parser_top.B1 = true := by kernel_rfl
def badTop (s : PS) (w0 : ByteArray) (rest : List ByteArray) : Bool := !(w0.toList == s.first.toList && decide ((rest.length : Int) + 1 = s.heads + 2) && (match rest with | w1 :: _ => nameOk w1 | [] => false))
set_option maxHeartbeats 8000000 in
set_option maxRecDepth 100000 in
theorem top_calls {w0 w : World} (hL : LaidW w0) (hB : Below w0.heap.size w0 w) (gp gw D : Nat) (hD : w0.heap.size ≤ gp) (s : PS) (lt : gp < D) (hs : w.heap[gp]? = some (.cells #[.bool s.code, .string s.first, .int .i64 s.heads, .string s.name, .slice none 0 0, .slice none 0 0] 63 (0, 0))) (hh : s.head = []) (hbk : s.blocks = []) (hhd : 1 ≤ s.heads ∧ s.heads ≤ 100) (hDw : D ≤ w.heap.size) (ws : List ByteArray) (hw : WordsAt gw 0 ws w) (h0 : ws ≠ []) (hwl : ws.length ≤ 95000) (hws : ∀ t ∈ ws, t.size ≤ 95000) :
 Calls Tryz.prog 49 #[.pointer (some ⟨gp, 0, none⟩), .slice (some ⟨gw, 0, none⟩) ws.length ws.length] w fun e w' => e = .returned (.int .i64 (topP s ws).1) ∧ ((topP s ws).1 = 0 → PsAt D gp (topP s ws).2 w') ∧ KeptD gp D w w' ∧ Below w0.heap.size w0 w' := by
 obtain ⟨w0d, rest, rfl⟩ : ∃ a l, ws = a :: l := by
  cases ws with
  | nil => exact absurd rfl h0
  | cons a l => exact ⟨a, l, rfl⟩
 have hx0 : w.cell? ⟨gw, 0, none⟩ = some (.string w0d) := WordsAt.cell hw (i := 0) (t := w0d) rfl
 have HLd := zA hL
 have HB := zA hB
 have HK := zA hs
 have HW := zA hw
 have HWs := zA hws
 have hlen : (w0d :: rest).length = rest.length + 1 := rfl
 rw [hlen] at hwl ⊢
 have z6 := bk6 hs
 clear hL hB hs hw hws hlen h0
 go_enter Tryz.func49, Tryz.ntmps49
 go_upto_region 1 with fail
 go_cut [33] (fun v33 wc => v33 = .bool (badTop s w0d rest) ∧ Aside0 (Below w.heap.size w wc))
 case first =>
  by_cases c1 : w0d.toList = s.first.toList
  case neg =>
   obtain ⟨c1a, c1b⟩ := qn c1
   have HD := zA (show badTop s w0d rest = true by unfold badTop; rw [c1a]; rfl)
   clear c1
   refine start_ (n := 25) (S := fun w' => w'.cell? ⟨gw, 0, none⟩ = some (.string w0d) ∧ w'.cell? ⟨gp, 1, none⟩ = some (.string s.first) ∧ w'.cell? ⟨gp, 2, none⟩ = some (.int .i64 s.heads)) (ds := []) (bA 25 0) (by kernel_rfl) rfl rfl ⟨hx0, z6.2.1, z6.2.2.1⟩ (fun hHeld => ?_); refine with_tabW parser_top.tab1 parser_top.bits1 (fun HT_ HW_ => ?_)
   have HBd := zA (below_drew (Below.refl w.heap.size w))
   generalize w.drew = w1 at HBd hHeld ⊢
   refine pu_ (i := 0) (N := some 9) (bA 25 1) ?_
   refine pu_ (i := 1) (N := some 10) (bA 25 3) ?_
   refine pu_ (i := 3) (N := some 12) (bA 25 11) ?_
   refine pu_ (i := 4) (N := some 13) (bA 25 27) ?_
   refine pu_ (i := 5) (N := some 14) (bA 25 59) ?_
   refine tk_ (i := 2) (N := some 11) (bA 25 63) ?_
   refine tk_ (i := 6) (N := some 15) (bA 25 127) ?_
   refine pu_ (i := 7) (N := some 16) (bA 25 255) ?_
   refine pu_ (i := 8) (N := some 17) (bA 25 511) ?_
   refine pu_ (i := 9) (N := some 18) (v := undef) (bA 25 1023) ?_ (hy := Or.inr ⟨by rfl, rfl⟩)
   refine pu_ (i := 10) (N := some 19) (v := undef) (bA 25 2047) ?_ (hy := Or.inr ⟨by rfl, rfl⟩)
   refine pu_ (i := 11) (N := some 20) (v := undef) (bA 25 4095) ?_ (hy := Or.inr ⟨by rfl, rfl⟩)
   refine pu_ (i := 12) (N := some 21) (v := undef) (bA 25 8191) ?_ (hy := Or.inr ⟨by rfl, rfl⟩)
   refine pu_ (i := 13) (N := some 22) (v := undef) (bA 25 16383) ?_ (hy := Or.inr ⟨by rfl, rfl⟩)
   refine pu_ (i := 14) (N := some 23) (v := undef) (bA 25 32767) ?_ (hy := Or.inr ⟨by rfl, rfl⟩)
   refine pu_ (i := 15) (N := some 24) (v := undef) (bA 25 65535) ?_ (hy := Or.inr ⟨by rfl, rfl⟩)
   refine pu_ (i := 16) (N := some 25) (v := undef) (bA 25 131071) ?_ (hy := Or.inr ⟨by rfl, rfl⟩)
   refine pu_ (i := 17) (N := some 26) (bA 25 262143) ?_
   refine pu_ (i := 18) (N := some 27) (bA 25 524287) ?_
   refine pu_ (i := 19) (N := some 28) (v := undef) (bA 25 1048575) ?_ (hy := Or.inr ⟨by rfl, rfl⟩)
   refine pu_ (i := 20) (N := some 29) (v := undef) (bA 25 2097151) ?_ (hy := Or.inr ⟨by rfl, rfl⟩)
   refine pu_ (i := 21) (N := some 30) (v := undef) (bA 25 4194303) ?_ (hy := Or.inr ⟨by rfl, rfl⟩)
   refine pu_ (i := 22) (N := some 31) (v := undef) (bA 25 8388607) ?_ (hy := Or.inr ⟨by rfl, rfl⟩)
   refine pu_ (i := 23) (N := some 32) (v := undef) (bA 25 16777215) ?_ (hy := Or.inr ⟨by rfl, rfl⟩)
   refine pu_ (i := 24) (N := some 33) (bA 25 33554431) ?_
   refine done_ (done_of HT_.out (by kernel_rfl)) ?_
   go_wp2_with fail
   go_meet
   case rel => exact ⟨by rw [HD.out], HBd⟩
  obtain ⟨c1a, c1b⟩ := qe c1
  by_cases c2 : (rest.length : Int) + 1 = s.heads + 2
  case neg =>
   obtain ⟨c2a, c2b⟩ := qn c2
   have HD := zA (show badTop s w0d rest = true by unfold badTop; rw [c1a, zG c2]; rfl)
   have hh3 : wrap64 (s.heads + 2) = s.heads + 2 := by unfold wrap64; omega
   clear c1 c2
   refine start_ (n := 25) (S := fun w' => w'.cell? ⟨gw, 0, none⟩ = some (.string w0d) ∧ w'.cell? ⟨gp, 1, none⟩ = some (.string s.first) ∧ w'.cell? ⟨gp, 2, none⟩ = some (.int .i64 s.heads)) (ds := []) (bA 25 0) (by kernel_rfl) rfl rfl ⟨hx0, z6.2.1, z6.2.2.1⟩ (fun hHeld => ?_); refine with_tabW parser_top.tab1 parser_top.bits1 (fun HT_ HW_ => ?_)
   have HBd := zA (below_drew (Below.refl w.heap.size w))
   generalize w.drew = w1 at HBd hHeld ⊢
   refine pu_ (i := 0) (N := some 9) (bA 25 1) ?_
   refine pu_ (i := 1) (N := some 10) (bA 25 3) ?_
   refine pu_ (i := 3) (N := some 12) (bA 25 11) ?_
   refine pu_ (i := 4) (N := some 13) (bA 25 27) ?_
   refine pu_ (i := 5) (N := some 14) (bA 25 59) ?_
   refine tk_ (i := 2) (N := some 11) (bA 25 63) ?_
   refine tk_ (i := 6) (N := some 15) (bA 25 127) ?_
   refine pu_ (i := 7) (N := some 16) (bA 25 255) ?_
   refine pu_ (i := 8) (N := some 17) (bA 25 511) ?_
   refine pu_ (i := 9) (N := some 18) (bA 25 1023) ?_
   refine pu_ (i := 10) (N := some 19) (bA 25 2047) ?_
   refine pu_ (i := 11) (N := some 20) (bA 25 4095) ?_
   refine pu_ (i := 12) (N := some 21) (bA 25 8191) ?_
   refine pu_ (i := 13) (N := some 22) (bA 25 16383) ?_
   refine tk_ (i := 14) (N := some 23) (bA 25 32767) ?_
   refine pu_ (i := 15) (N := some 24) (bA 25 65535) ?_
   refine pu_ (i := 16) (N := some 25) (bA 25 131071) ?_
   refine pu_ (i := 17) (N := some 26) (bA 25 262143) ?_
   refine pu_ (i := 18) (N := some 27) (bA 25 524287) ?_
   refine pu_ (i := 19) (N := some 28) (v := undef) (bA 25 1048575) ?_ (hy := Or.inr ⟨by rfl, rfl⟩)
   refine pu_ (i := 20) (N := some 29) (v := undef) (bA 25 2097151) ?_ (hy := Or.inr ⟨by rfl, rfl⟩)
   refine pu_ (i := 21) (N := some 30) (v := undef) (bA 25 4194303) ?_ (hy := Or.inr ⟨by rfl, rfl⟩)
   refine pu_ (i := 22) (N := some 31) (v := undef) (bA 25 8388607) ?_ (hy := Or.inr ⟨by rfl, rfl⟩)
   refine pu_ (i := 23) (N := some 32) (v := undef) (bA 25 16777215) ?_ (hy := Or.inr ⟨by rfl, rfl⟩)
   refine pu_ (i := 24) (N := some 33) (bA 25 33554431) ?_
   refine done_ (done_of HT_.out (by kernel_rfl)) ?_
   go_wp2_with fail
   go_meet
   case rel => exact ⟨by rw [HD.out], HBd⟩
  obtain ⟨w1d, r, rfl⟩ : ∃ w1d r, rest = w1d :: r := by
   cases rest with
   | nil => exact absurd c2 (by simp; omega)
   | cons a l => exact ⟨a, l, rfl⟩
  have hx1 : w.cell? ⟨gw, 1, none⟩ = some (.string w1d) := WordsAt.cell HW.out (i := 1) (t := w1d) rfl
  rw [List.length_cons] at *
  obtain ⟨b, hb⟩ : ∃ b, b = nameOk w1d := ⟨_, rfl⟩
  have HNm := zA (show ir_Name.f w1d = some b by rw [name_eq, hb])
  have HD := zA (show badTop s w0d (w1d :: r) = !b by unfold badTop; rw [c1a, zF (by rw [List.length_cons]; omega), hb]; rfl)
  clear hb
  obtain ⟨c2a, c2b⟩ := qe (show (r.length : Int) + 1 + 1 = s.heads + 2 by simpa using c2)
  have hh3 : wrap64 (s.heads + 2) = s.heads + 2 := by unfold wrap64; omega
  have hr1 := eq_true (show (1 : Int) < (r.length : Int) + 1 + 1 by omega)
  have hr0 := eq_true (show (0 : Int) < (r.length : Int) + 1 + 1 by omega)
  clear c1 c2
  refine start_ (n := 25) (S := fun w' => w'.cell? ⟨gw, 0, none⟩ = some (.string w0d) ∧ w'.cell? ⟨gp, 1, none⟩ = some (.string s.first) ∧ w'.cell? ⟨gp, 2, none⟩ = some (.int .i64 s.heads) ∧ w'.cell? ⟨gw, 1, none⟩ = some (.string w1d)) (ds := []) (bA 25 0) (by kernel_rfl) rfl rfl ⟨hx0, z6.2.1, z6.2.2.1, hx1⟩ (fun hHeld => ?_); refine with_tabW parser_top.tab1 parser_top.bits1 (fun HT_ HW_ => ?_)
  have HBd := zA (below_drew (Below.refl w.heap.size w))
  generalize w.drew = w1 at HBd hHeld ⊢
  refine pu_ (i := 0) (N := some 9) (bA 25 1) ?_
  refine pu_ (i := 1) (N := some 10) (bA 25 3) ?_
  refine pu_ (i := 3) (N := some 12) (bA 25 11) ?_
  refine pu_ (i := 4) (N := some 13) (bA 25 27) ?_
  refine pu_ (i := 5) (N := some 14) (bA 25 59) ?_
  refine tk_ (i := 2) (N := some 11) (bA 25 63) ?_
  refine tk_ (i := 6) (N := some 15) (bA 25 127) ?_
  refine pu_ (i := 7) (N := some 16) (bA 25 255) ?_
  refine pu_ (i := 8) (N := some 17) (bA 25 511) ?_
  refine pu_ (i := 9) (N := some 18) (bA 25 1023) ?_
  refine pu_ (i := 10) (N := some 19) (bA 25 2047) ?_
  refine pu_ (i := 11) (N := some 20) (bA 25 4095) ?_
  refine pu_ (i := 12) (N := some 21) (bA 25 8191) ?_
  refine pu_ (i := 13) (N := some 22) (bA 25 16383) ?_
  refine tk_ (i := 14) (N := some 23) (bA 25 32767) ?_
  refine pu_ (i := 15) (N := some 24) (bA 25 65535) ?_
  refine pu_ (i := 16) (N := some 25) (bA 25 131071) ?_
  refine pu_ (i := 17) (N := some 26) (bA 25 262143) ?_
  refine pu_ (i := 18) (N := some 27) (bA 25 524287) ?_
  refine pu_ (i := 19) (N := some 28) (bA 25 1048575) ?_
  refine pu_ (i := 20) (N := some 29) (bA 25 2097151) ?_
  refine tk_ (i := 21) (N := some 30) (bA 25 4194303) ?_
  refine one_ (i := 22) (N := some 31) (bA 25 8388607) rfl rfl (one_of HT_.out (by kernel_rfl)) (by decide) (fun K hK => ?_)
  refine goes_ Tryz.func30 (by kernel_rfl) rfl #[.string w1d] (by rfl) rfl rfl qL ?_
  refine (ir_Name.calls w1d b _ HNm.out).mono ?_
  rintro e w2 ⟨rfl, hb⟩
  refine ⟨_, rfl, ?_⟩
  have HB2 := zA (below_step HBd.out hb)
  have hh2 : w2.cell? ⟨gw, 0, none⟩ = some (.string w0d) ∧ w2.cell? ⟨gp, 1, none⟩ = some (.string s.first) ∧ w2.cell? ⟨gp, 2, none⟩ = some (.int .i64 s.heads) ∧ w2.cell? ⟨gw, 1, none⟩ = some (.string w1d) := ⟨(hb.cell (zE _ _ hHeld.1)).trans hHeld.1, (hb.cell (zE _ _ hHeld.2.1)).trans hHeld.2.1, (hb.cell (zE _ _ hHeld.2.2.1)).trans hHeld.2.2.1, (hb.cell (zE _ _ hHeld.2.2.2)).trans hHeld.2.2.2⟩
  clear hb hHeld
  refine hK.out _ _ hh2 (fun hHeld => ?_)
  clear hK K hh2
  refine norm_ (a' := ?_) ?_ ?_
  rotate_left
  ·show Act.put _ (some 31) _ = _
   simp only [Act.put, List.setIfInBounds_toArray, List.set_cons_zero, List.set_cons_succ, i64_w, i32_w]
   rfl
  refine pu_ (i := 23) (N := some 32) (bA 25 16777215) ?_
  refine pu_ (i := 24) (N := some 33) (bA 25 33554431) ?_
  refine done_ (done_of HT_.out (by kernel_rfl)) ?_
  go_wp2_with fail
  go_meet
  case rel => exact ⟨by rw [HD.out], HB2⟩
 case rest =>
  obtain ⟨rfl, HBc⟩ := hcut
  have HKc := zA (blk_below HK.out HBc.out)
  have HWc := zA (WordsAt.low HW.out (by obtain ⟨_, hk, _⟩ := HW.out; exact blk_lt hk) HBc.out)
  clear z6 hx0
  by_cases c1 : badTop s w0d rest = true
  ·have hR : topP s (w0d :: rest) = (80, s) := by
    unfold badTop at c1
    cases rest with
    | nil => rfl
    | cons w1d r =>
     unfold topP
     dsimp only
     rw [zD]
     rintro ⟨h1, h2, h3⟩
     have e2 : decide ((((w1d :: r).length : Nat) : Int) + 1 = s.heads + 2) = true := zF (by rw [List.length_cons]; omega)
     dsimp only at c1
     rw [h1, e2, h3] at c1
     simp at c1
   have HR := zA hR
   clear hR
   rw [c1]
   clear c1
   go_wp2_with fail
   go_ret
   exact ⟨by rw [HR.out]; rfl, fun h => by rw [HR.out] at h; exact absurd (show (80 : Int) = 0 from h) (by decide), KeptD.of_below HBc.out hDw, below_step HB.out HBc.out⟩
  have c2 : badTop s w0d rest = false := by simpa using c1
  rw [c2]
  have hc : w0d.toList = s.first.toList ∧ (rest.length : Int) + 1 = s.heads + 2 ∧ ∃ w1d r, rest = w1d :: r ∧ nameOk w1d = true := by
   unfold badTop at c2
   simp only [Bool.not_eq_false', Bool.and_eq_true, beq_iff_eq, decide_eq_true_eq] at c2
   obtain ⟨⟨h1, h2⟩, h3⟩ := c2
   refine ⟨h1, h2, ?_⟩
   cases rest with
   | nil => cases h3
   | cons a l => exact ⟨a, l, rfl, h3⟩
  obtain ⟨h1, h2, w1d, r, rfl, h3⟩ := hc
  have HR : Aside0 (topP s (w0d :: w1d :: r) = match r.mapM numOf with | some l => (0, { s with name := w1d, head := l }) | none => (81, s)) := ⟨by
   unfold topP
   dsimp only
   rw [zC ⟨h1, by rw [List.length_cons] at h2; omega, h3⟩]⟩
  have hr1 : 1 ≤ r.length := by rw [List.length_cons] at h2; omega
  clear h1 h2 h3 c1 c2
  rw [List.length_cons] at *
  have hx1 : wc.cell? ⟨gw, 1, none⟩ = some (.string w1d) := WordsAt.cell HWc.out (i := 1) (t := w1d) rfl
  have HW2 := zA (WordsAt.tail (WordsAt.tail HWc.out))
  have z6 := bk6 HKc.out
  have hrz : (r.length = 0) = False := eq_false (by omega)
  have hr2 := eq_true (show (2 : Int) ≤ (r.length : Int) + 1 + 1 by omega)
  have hr3 := eq_true (show (1 : Int) < (r.length : Int) + 1 + 1 by omega)
  go_wp2_with fail
  have HK1 := zA (show (wc.setCell ⟨gp, 3, none⟩ (.string w1d)).heap[gp]? = some (.cells #[.bool s.code, .string s.first, .int .i64 s.heads, .string w1d, .slice none 0 0, .slice none 0 0] 63 (0, 0)) from blk_put HKc.out 3 _ rfl)
  have HKp := zA ((KeptD.of_below (gp := gp) HBc.out hDw).set 3 (.string w1d))
  have HB1 := zA ((below_step HB.out HBc.out).setCell (p := ⟨gp, 3, none⟩) hD (.string w1d))
  have HWr := zA (show WordsAt gw 2 r (wc.setCell ⟨gp, 3, none⟩ (.string w1d)) by
   obtain ⟨cs, hk, hcs⟩ := HW2.out
   refine ⟨cs, (heap_setCell_other _ _ _ _ (fun e => ?_)).trans hk, hcs⟩
   subst e
   have := HKc.out.symm.trans hk
   simp at this)
  have hDc : D ≤ (wc.setCell ⟨gp, 3, none⟩ (.string w1d)).heap.size := Nat.le_trans hDw HKp.out.1
  generalize wc.setCell ⟨gp, 3, none⟩ (.string w1d) = w4 at HK1 HKp HB1 HWr hDc ⊢
  have HGw := zA (show ∃ cs : Array Value, w4.heap[gw]? = some (.cells cs 9 (0, 0)) ∧ ∀ (i : Nat) t, r[i]? = some t → cs[2 + i]? = some (.string t) from HWr.out)
  clear z6 hx1 hrz hr2 hr3 HKc HWc HW2 HBc
  go_loopg [43] r.length (fun kq v43 w' => ∃ (j : Nat) (l : List Int) (vh : Value), v43 = .int .i64 (j : Int) ∧ Aside0 (kq + j = r.length) ∧ Aside0 (w'.heap[gp]? = some (.cells #[.bool s.code, .string s.first, .int .i64 s.heads, .string w1d, vh, .slice none 0 0] 63 (0, 0))) ∧ Aside0 (Kd.R (Kd.int .i64) 3 w' D (fun _ => True) vh l) ∧ Aside0 (WordsAt gw 2 r w') ∧ Aside0 (KeptD gp D w w') ∧ Aside0 (Below w0.heap.size w0 w') ∧ Aside0 (r.mapM numOf = ((r.drop j).mapM numOf).map (l ++ ·)) ∧ Aside0 (l.length = j))
  case atStart => exact ⟨0, [], .slice none 0 0, by first | rfl | simp, ⟨by omega⟩, HK1, ⟨Kd.R_nil _ _ _ _ _⟩, HWr, HKp, HB1, ⟨by simp⟩, ⟨rfl⟩⟩
  case round =>
   clear HK1 HKp HB1 HWr HGw
   obtain ⟨j, l, vh, rfl, HJ, HK1, HRw, HWr, HKp, HB1, HM, HL⟩ := hrel
   have hDr : D ≤ wr.heap.size := Nat.le_trans hDw HKp.out.1
   cases gk with
   | zero =>
    have hj : j = r.length := by have := HJ.out; omega
    have d1b := zG (show ¬ ((j : Int) < (r.length : Int)) by omega)
    have d1c := zG (show ¬ (j < r.length) by omega)
    have HR2 := zA (show topP s (w0d :: w1d :: r) = (0, { s with name := w1d, head := l }) from by
     rw [HR.out, HM.out, hj, List.drop_length]
     simp)
    go_wp2_with fail
    go_ret
    refine ⟨by rw [HR2.out]; rfl, fun _ => ?_, HKp.out, HB1.out⟩
    rw [HR2.out]
    exact ⟨lt, vh, .slice none 0 0, HK1.out, HRw.out, by show Kd.S _ _ _ _ _ _ s.blocks; rw [hbk]; exact Kd.S_nil _ _ _ _ _⟩
   | succ k2 =>
    have hj : j < r.length := by have := HJ.out; omega
    have d1b := zF (show ((j : Int) < (r.length : Int)) by omega)
    have d1c := zF hj
    obtain ⟨t, ht⟩ : ∃ t, r[j]? = some t := ⟨_, List.getElem?_eq_getElem hj⟩
    have hts := HWs.out t (List.mem_cons_of_mem _ (List.mem_cons_of_mem _ (List.mem_of_getElem? ht)))
    have hx1 := WordsAt.cell HWr.out ht
    have HMM := zA (HM.out.trans (congrArg (Option.map (l ++ ·)) (mapM_at ht)))
    have HLr := zA (HLd.out.below HB1.out)
    clear ht
    cases hnm : numOf t with
    | none =>
     have HNm := zA hnm
     have HR1 := zA (show topP s (w0d :: w1d :: r) = (81, s) by rw [HR.out, HMM.out, hnm]; rfl)
     clear hnm
     go_wp2_with (go_at_call 64; refine (textnumber_calls t wr HLr.out (by omega)).mono ?_; rintro e w5 ⟨n, rfl, _, hb⟩; rw [HNm.out]; have HB5 := zA hb; clear hb hx1)
     go_ret
     exact ⟨by rw [HR1.out]; rfl, fun h => by rw [HR1.out] at h; exact absurd (show (81 : Int) = 0 from h) (by decide), HKp.out.trans (KeptD.of_below HB5.out hDr), below_step HB1.out HB5.out⟩
    | some v =>
     have HNm := zA hnm
     have HM2 : Aside0 (r.mapM numOf = ((r.drop (j + 1)).mapM numOf).map ((l ++ [v]) ++ ·)) := ⟨by
      rw [HMM.out, hnm]
      cases (r.drop (j + 1)).mapM numOf <;> simp⟩
     clear hnm
     have hll : l.length ≤ 95000 := by have := HL.out; omega
     have HE := zA (show (l ++ [v]).length = l.length + 1 from by simp)
     go_wp2_with (first
      | (go_at_call 64; refine (textnumber_calls t wr HLr.out (by omega)).mono ?_; rintro e w5 ⟨n, rfl, hv, hb⟩; obtain rfl := hv v HNm.out; rw [HNm.out]; have HB5 := zA hb; have hk5 := blk_below HK1.out hb; have z5 := bk6 hk5; have HK5 := zA hk5; have HR5 := zA (Kd.R_below HRw.out hb); clear hb hx1 hk5 hv)
      | ((with_reducible refine gate_builtin (b := .append) (xs := #[.tmp 58, .tmp 60]) rfl ?_); at_builtin; (refine Kd.R_append (Kd.int .i64) (w0 := w5) D rfl (.tmp 58) (.tmp 60) 42 3 (.int .i64 0) 8 rfl Tryz.underlying42 info3 rfl (by decide) (by omega) vh l n [.int .i64 n] (fun _ => True) (fun _ => False) rfl rfl ?aP (fun _ hk => hk.elim) ?aF ?aO ?aB ?aS ?aL ?_; (case aP => exact rfl); (case aF => exact fun _ _ => trivial); (case aO => exact HR5.out); (case aB => exact Below.refl _ _); (case aS => exact Nat.le_trans hDr HB5.out.size); (case aL => omega); intro v1 w6 ho3 hb3 hg3 _; obtain ⟨A1, c1, rfl⟩ := Kd.R_slice ho3; rw [HE.out] at ho3; have hk6 := (hb3.block gp lt).trans HK5.out; have z6 := bk6 hk6; have HK6 := zA hk6; have HR6 := zA ho3; have HB6 := zA hb3; have HW6 := zA (show WordsAt gw 2 r w6 by obtain ⟨cs, hk, hcs⟩ := HWr.out; exact ⟨cs, (hg3.block gw (blk_lt (blk_below hk HB5.out)) (fun e => by obtain ⟨c2, h2⟩ := Kd.R_typed HR5.out gw e.symm; have := (blk_below hk HB5.out).symm.trans h2; simp at this)).trans (blk_below hk HB5.out), hcs⟩); clear ho3 hb3 hg3 z5 hk6)))
     have HNe := zA (show gw ≠ gp by intro e; subst e; obtain ⟨cs, hk, _⟩ := HW6.out; have := HK6.out.symm.trans hk; simp at this)
     go_roundg k2
     case measure => have := HJ.out; omega
     case rel => exact ⟨j + 1, l ++ [n], _, by go_num, ⟨by have := HJ.out; omega⟩, ⟨blk_put HK6.out 4 _ rfl⟩, ⟨Kd.R_set HR6.out HK6.out (by decide) 4 _⟩, ⟨by obtain ⟨cs, hk, hcs⟩ := HW6.out; exact ⟨cs, (heap_setCell_other _ _ _ _ HNe.out).trans hk, hcs⟩⟩, ⟨((HKp.out.trans (KeptD.of_below HB5.out hDr)).trans (KeptD.of_below HB6.out (Nat.le_refl D))).set 4 _⟩, ⟨((below_step HB1.out HB5.out).trans (HB6.out.mono (Nat.le_trans hD (Nat.le_of_lt lt)))).setCell (p := ⟨gp, 4, none⟩) hD _⟩, HM2, ⟨by rw [List.length_append, HL.out]; rfl⟩⟩
end Go.Proofs.YtniknpjeknmpjaaGreatDoor.Q
namespace Go.Proofs.YtniknpjeknmpjaaGreatDoor.Q
open Go.RowKit Go.Shelf Go.Proofs.YtniknpjeknmpjaaGreatDoor.Plain Go.Proofs.YtniknpjeknmpjaaGreatDoor.PlainName Go.Proofs.YtniknpjeknmpjaaGreatDoorW.PrintWords Go.Proofs.YtniknpjeknmpjaaGreatDoorW.PrintLast Go.Proofs.YtniknpjeknmpjaaGreatDoorW.PrintMore
set_option linter.unusedVariables false
set_option linter.unusedSimpArgs false
attribute [local go_sem] Oper.semAt_some
def wholeB (l : ByteArray) : Bool := Lib.hasSuffix l.data.toList [10]
def trimB (l : ByteArray) : ByteArray := ⟨(Lib.trimSuffix l.data.toList [10]).toArray⟩
def stepP (n : Nat) (st : PS) (l : ByteArray) : Int × PS := if wholeB l = false then (80, st) else if n = 0 then topP st (wordsOf (trimB l)) else lineP st (wordsOf (trimB l))
def parseR : Nat → Nat → PS → ByteArray → Int × Int × PS
 | 0, _, st, _ => (0, 0, st)
 | k + 1, n, st, s => if s.size = 0 then (0, 0, st) else
  if (stepP n st (cutB s).1).1 = 0 then parseR k (n + 1) (stepP n st (cutB s).1).2 (cutB s).2 else ((n + 1 : Nat), (stepP n st (cutB s).1).1, st)
def TakenAt (D gp n : Nat) (st : PS) (W : World) : Prop :=
 if n = 0 then gp < D ∧ W.heap[gp]? = some (.cells #[.bool st.code, .string st.first, .int .i64 st.heads, .string st.name, .slice none 0 0, .slice none 0 0] 63 (0, 0)) ∧ st.head = [] ∧ st.blocks = [] else PsAt D gp st W
structure PB (gp g2 g4 g5 g6 B D : Nat) (w0 : World) (c n : Nat) (st : PS) (sB : ByteArray) (W : World) : Prop where
 b2 : W.heap[g2]? = some (.cells #[.pointer (some ⟨gp, 0, none⟩)] 61 (0, 0))
 b4 : W.heap[g4]? = some (.cells #[.int .i64 0] 3 (0, 0))
 b5 : W.heap[g5]? = some (.cells #[.int .i64 0] 26 (0, 0))
 b6 : W.heap[g6]? = some (.cells #[.int .i64 (c : Int)] 3 (0, 0))
 bB : W.heap[B]? = some (.cells #[.string sB] 9 (0, 0))
 tk : TakenAt D gp n st W
 hD : D ≤ W.heap.size
 bl : Below w0.heap.size w0 W
 hh : 1 ≤ st.heads ∧ st.heads ≤ 100
 hb : st.blocks.length ≤ n
 hbb : ∀ b ∈ st.blocks, b.length ≤ n
structure Ord (gp g2 g4 g5 g6 B D : Nat) (w0 : World) : Prop where
 o0 : w0.heap.size ≤ gp
 o1 : gp < g2
 o2 : g2 < g4
 o3 : g4 < g5
 o4 : g5 < g6
 o5 : g6 < B
 o6 : B + 1 < D
theorem TakenAt.move {D gp n : Nat} {st : PS} {W W' : World} (h : TakenAt D gp n st W) (hsz : W.heap.size ≤ W'.heap.size) (hm : ∀ k, k = gp ∨ D ≤ k → k < W.heap.size → W'.heap[k]? = W.heap[k]?) : TakenAt D gp n st W' := by
 unfold TakenAt at *
 split at h
 ·next h0 => rw [zC h0]; exact ⟨h.1, (hm gp (.inl rfl) (blk_lt h.2.1)).trans h.2.1, h.2.2⟩
 ·next h0 =>
  rw [zD h0]
  obtain ⟨lt, vh, vb, hk, hr, hs⟩ := h
  exact ⟨lt, vh, vb, (hm gp (.inl rfl) (blk_lt hk)).trans hk, Kd.R_mono (Kd.R_step (Kd.R_bound hr) (fun k hk hl => hm k (.inr hk.2.1) hl)) (fun k hk => hk.1), Kd.S_mono (Kd.S_step (Kd.S_bound hs) (fun k hk hl => hm k (.inr hk.2.1) hl)) (fun k hk => hk.1)⟩
section
variable {gp g2 g4 g5 g6 B D c n : Nat} {w0 W W' : World} {st : PS} {sB : ByteArray}
theorem PB.put (h : PB gp g2 g4 g5 g6 B D w0 c n st sB W) (ho : Ord gp g2 g4 g5 g6 B D w0) {j : Nat} {o : Obj} (h1 : B < j) (h2 : j < D) : PB gp g2 g4 g5 g6 B D w0 c n st sB (W.putObj j o) := by
 have hne : ∀ k, k ≠ j → (W.putObj j o).heap[k]? = W.heap[k]? := fun k hk => World.putObj_heap_other hk
 have := ho.o1; have := ho.o2; have := ho.o3; have := ho.o4; have := ho.o5; have := ho.o0
 have hsz : (W.putObj j o).heap.size = W.heap.size := by simp [World.putObj]
 exact ⟨(hne _ (by omega)).trans h.b2, (hne _ (by omega)).trans h.b4, (hne _ (by omega)).trans h.b5, (hne _ (by omega)).trans h.b6, (hne _ (by omega)).trans h.bB, h.tk.move (Nat.le_of_eq hsz.symm) (fun k hk _ => hne k (by omega)), by rw [hsz]; exact h.hD,
  h.bl.trans ((Below.refl _ W).grown (grownBy_putObj' W j o) h.bl.size (fun k e => by cases e; omega)), h.hh, h.hb, h.hbb⟩
theorem PB.drew (h : PB gp g2 g4 g5 g6 B D w0 c n st sB W) : PB gp g2 g4 g5 g6 B D w0 c n st sB W.drew :=
 ⟨h.b2, h.b4, h.b5, h.b6, h.bB, h.tk.move (Nat.le_refl _) (fun _ _ _ => rfl), h.hD, below_drew h.bl, h.hh, h.hb, h.hbb⟩
theorem PB.setB (h : PB gp g2 g4 g5 g6 B D w0 c n st sB W) (ho : Ord gp g2 g4 g5 g6 B D w0) (s' : ByteArray) : PB gp g2 g4 g5 g6 B D w0 c n st s' (W.setCell ⟨B, 0, none⟩ (.string s')) := by
 have hne : ∀ k, k ≠ B → (W.setCell ⟨B, 0, none⟩ (.string s')).heap[k]? = W.heap[k]? := fun k hk => heap_setCell_other _ _ _ _ hk
 have := ho.o1; have := ho.o2; have := ho.o3; have := ho.o4; have := ho.o5; have := ho.o0; have := ho.o6
 have hsz : (W.setCell ⟨B, 0, none⟩ (.string s')).heap.size = W.heap.size := by simp [World.setCell]
 exact ⟨(hne _ (by omega)).trans h.b2, (hne _ (by omega)).trans h.b4, (hne _ (by omega)).trans h.b5, (hne _ (by omega)).trans h.b6, blk_put h.bB 0 _ rfl, h.tk.move (Nat.le_of_eq hsz.symm) (fun k hk _ => hne k (by omega)), by rw [hsz]; exact h.hD, h.bl.setCell (p := ⟨B, 0, none⟩) (by show _ ≤ B; omega) _, h.hh, h.hb, h.hbb⟩
theorem PB.below (h : PB gp g2 g4 g5 g6 B D w0 c n st sB W) (hb : Below W.heap.size W W') : PB gp g2 g4 g5 g6 B D w0 c n st sB W' :=
 ⟨blk_below h.b2 hb, blk_below h.b4 hb, blk_below h.b5 hb, blk_below h.b6 hb, blk_below h.bB hb, h.tk.move hb.size (fun k _ hl => hb.block k hl), Nat.le_trans h.hD hb.size, below_step h.bl hb, h.hh, h.hb, h.hbb⟩
theorem PB.inc (h : PB gp g2 g4 g5 g6 B D w0 c n st sB W) (ho : Ord gp g2 g4 g5 g6 B D w0) (c' : Nat) (x : Int) (hx : x = (c' : Int)) : PB gp g2 g4 g5 g6 B D w0 c' n st sB (W.setCell ⟨g6, 0, none⟩ (.int .i64 x)) := by
 subst hx
 have hne : ∀ k, k ≠ g6 → (W.setCell ⟨g6, 0, none⟩ (.int .i64 (c' : Int))).heap[k]? = W.heap[k]? := fun k hk => heap_setCell_other _ _ _ _ hk
 have := ho.o1; have := ho.o2; have := ho.o3; have := ho.o4; have := ho.o5; have := ho.o0; have := ho.o6
 have hsz : (W.setCell ⟨g6, 0, none⟩ (.int .i64 (c' : Int))).heap.size = W.heap.size := by simp [World.setCell]
 exact ⟨(hne _ (by omega)).trans h.b2, (hne _ (by omega)).trans h.b4, (hne _ (by omega)).trans h.b5, blk_put h.b6 0 _ rfl, (hne _ (by omega)).trans h.bB, h.tk.move (Nat.le_of_eq hsz.symm) (fun k hk _ => hne k (by omega)), by rw [hsz]; exact h.hD, h.bl.setCell (p := ⟨g6, 0, none⟩) (by show _ ≤ g6; omega) _, h.hh, h.hb, h.hbb⟩
theorem PB.took (h : PB gp g2 g4 g5 g6 B D w0 c n st sB W) (ho : Ord gp g2 g4 g5 g6 B D w0) {st2 : PS} (hk : KeptD gp D W W') (hbl : Below w0.heap.size w0 W') (hp : PsAt D gp st2 W') (k1 : st2.heads = st.heads) (k2 : st2.blocks.length ≤ n + 1) (k3 : ∀ b ∈ st2.blocks, b.length ≤ n + 1) : PB gp g2 g4 g5 g6 B D w0 c (n + 1) st2 sB W' := by
 have := ho.o1; have := ho.o2; have := ho.o3; have := ho.o4; have := ho.o5; have := ho.o0; have := ho.o6
 have mv : ∀ {k : Nat} {o : Obj}, k < D → k ≠ gp → W.heap[k]? = some o → W'.heap[k]? = some o := fun h1 h2 h3 => (hk.2 _ h1 h2 (blk_lt h3)).trans h3
 exact ⟨mv (by omega) (by omega) h.b2, mv (by omega) (by omega) h.b4, mv (by omega) (by omega) h.b5, mv (by omega) (by omega) h.b6, mv (by omega) (by omega) h.bB, by unfold TakenAt; rw [zD (Nat.succ_ne_zero n)]; exact hp, Nat.le_trans h.hD hk.1, hbl, by rw [k1]; exact h.hh, k2, k3⟩
theorem PB.stop (b4 : W.heap[g4]? = some (.cells #[.int .i64 0] 3 (0, 0))) (b5 : W.heap[g5]? = some (.cells #[.int .i64 0] 26 (0, 0))) (hbl : Below w0.heap.size w0 W) (ho : Ord gp g2 g4 g5 g6 B D w0) (x y : Int) :
 ((W.setCell ⟨g4, 0, none⟩ (.int .i64 x)).setCell ⟨g5, 0, none⟩ (.int .i64 y)).heap[g4]? = some (.cells #[.int .i64 x] 3 (0, 0)) ∧ ((W.setCell ⟨g4, 0, none⟩ (.int .i64 x)).setCell ⟨g5, 0, none⟩ (.int .i64 y)).heap[g5]? = some (.cells #[.int .i64 y] 26 (0, 0)) ∧ Below w0.heap.size w0 ((W.setCell ⟨g4, 0, none⟩ (.int .i64 x)).setCell ⟨g5, 0, none⟩ (.int .i64 y)) ∧ ∀ k, k ≠ g4 → k ≠ g5 → ((W.setCell ⟨g4, 0, none⟩ (.int .i64 x)).setCell ⟨g5, 0, none⟩ (.int .i64 y)).heap[k]? = W.heap[k]? := by
 have := ho.o1; have := ho.o2; have := ho.o3; have := ho.o0
 refine ⟨(heap_setCell_other _ _ _ _ (by show g4 ≠ g5; omega)).trans (blk_put b4 0 _ rfl), ?_, ?_, fun k h1 h2 => (heap_setCell_other _ _ _ _ h2).trans (heap_setCell_other _ _ _ _ h1)⟩
 ·exact blk_put (cs := #[.int .i64 0]) ((heap_setCell_other W ⟨g4, 0, none⟩ _ _ (by show g5 ≠ g4; omega)).trans b5) 0 _ rfl
 ·exact (hbl.setCell (p := ⟨g4, 0, none⟩) (by show _ ≤ g4; omega) _).setCell (p := ⟨g5, 0, none⟩) (by show _ ≤ g5; omega) _
theorem PB.ps (h : PB gp g2 g4 g5 g6 B D w0 c n st sB W) (hn : n ≠ 0) : PsAt D gp st W := by have := h.tk; unfold TakenAt at this; rwa [zD hn] at this
theorem PB.fresh (h : PB gp g2 g4 g5 g6 B D w0 c n st sB W) (hn : n = 0) : gp < D ∧ W.heap[gp]? = some (.cells #[.bool st.code, .string st.first, .int .i64 st.heads, .string st.name, .slice none 0 0, .slice none 0 0] 63 (0, 0)) ∧ st.head = [] ∧ st.blocks = [] := by have := h.tk; unfold TakenAt at this; rwa [zC hn] at this
end
theorem PsAt.move {D gp : Nat} {st : PS} {W W' : World} (h : PsAt D gp st W) (hm : ∀ k, k = gp ∨ D ≤ k → k < W.heap.size → W'.heap[k]? = W.heap[k]?) : PsAt D gp st W' := by
 obtain ⟨lt, vh, vb, hk, hr, hs⟩ := h
 exact ⟨lt, vh, vb, (hm gp (.inl rfl) (blk_lt hk)).trans hk, Kd.R_mono (Kd.R_step (Kd.R_bound hr) (fun k hk hl => hm k (.inr hk.2.1) hl)) (fun k hk => hk.1), Kd.S_mono (Kd.S_step (Kd.S_bound hs) (fun k hk hl => hm k (.inr hk.2.1) hl)) (fun k hk => hk.1)⟩
theorem cut_at (l : ByteArray) (w : World) (h : l.size ≤ 90000) : Calls Tryz.prog 47 #[.string l, .string ⟨#[10]⟩] w fun e w' => e = .returned (.tuple #[.string (trimB l), .bool (wholeB l)]) ∧ w' = w := Any.strings_CutSuffix Tryz.lays104 l ⟨#[10]⟩ w (by omega)
theorem trimB_le (l : ByteArray) : (trimB l).size ≤ l.size := by
 have h : (trimB l).data.toList.length ≤ l.data.toList.length := by
  show (Lib.trimSuffix l.data.toList [10]).toArray.toList.length ≤ _
  unfold Lib.trimSuffix
  split
  ·simp
  ·simp
 simpa using h
theorem cutB_le (s : ByteArray) : (cutB s).1.size ≤ s.size := by
 unfold cutB
 split
 ·simp only [ByteArray.size_extract]; omega
 ·exact Nat.le_refl _
theorem wordsOf_ne (s : ByteArray) : wordsOf s ≠ [] := fun h => by have := wordsOf_len s; rw [h] at this; cases this
theorem splitB_lenle (s : ByteArray) : (wordsOf s).length ≤ s.size + 1 := by
 rw [wordsOf_len]
 exact Nat.succ_le_succ (Lib.countB_le blank1 (by decide) s.size s (Nat.le_refl _))
def parseAll (st : PS) (s : ByteArray) : Int × Int × PS := if s.size = 0 then (1, 80, st) else parseR (s.size + 1) 0 st s
set_option maxHeartbeats 1000000 in
theorem lines_calls (s : ByteArray) (w : World) : Calls Tryz.prog 46 #[.string s] w fun e w' => e = .returned (.func (.func 60) #[] #[.pointer (some ⟨w.heap.size, 0, none⟩)]) ∧ w' = w.alloc (.cells #[.string s] 9 (0, 0)) := by
 have hmf : ∀ (fn : Fn) (first cap : Array Value) (w : World), (Instr.makeFunc fn first cap).run Tryz.prog w = .ok (.func fn first cap) w := fun _ _ _ _ => rfl
 go_enter Tryz.func46, Tryz.ntmps46
 go_wp2
 go_ret
 exact ⟨rfl, rfl⟩
theorem parse_results {tmps : Array Value} {g4 g5 : Nat} {x y : Int} {W : World} (h4 : tmps[4]? = some (.pointer (some ⟨g4, 0, none⟩))) (h5 : tmps[5]? = some (.pointer (some ⟨g5, 0, none⟩))) (c4 : W.heap[g4]? = some (.cells #[.int .i64 x] 3 (0, 0))) (c5 : W.heap[g5]? = some (.cells #[.int .i64 y] 26 (0, 0))) :
 (results Tryz.f25 tmps).run Tryz.prog W = .ok (.tuple #[.int .i64 x, .int .i64 y]) W := by
 have l4 : W.cell? ⟨g4, 0, none⟩ = some (.int .i64 x) := blk_cell c4 0
 have l5 : W.cell? ⟨g5, 0, none⟩ = some (.int .i64 y) := blk_cell c5 0
 simp [results, Tryz.f25, go_sem, h4, h5, l4, l5]
theorem topP_keep (s : PS) (ws : List ByteArray) : (topP s ws).2.heads = s.heads ∧ (topP s ws).2.blocks = s.blocks := by
 unfold topP
 repeat' split
 all_goals exact ⟨rfl, rfl⟩
theorem lineP_keep (s : PS) (ws : List ByteArray) {n : Nat} (hb : s.blocks.length ≤ n) (hbb : ∀ b ∈ s.blocks, b.length ≤ n) : (lineP s ws).2.heads = s.heads ∧ (lineP s ws).2.blocks.length ≤ n + 1 ∧ ∀ b ∈ (lineP s ws).2.blocks, b.length ≤ n + 1 := by
 have same : s.heads = s.heads ∧ s.blocks.length ≤ n + 1 ∧ ∀ b ∈ s.blocks, b.length ≤ n + 1 := ⟨rfl, by omega, fun b h => by have := hbb b h; omega⟩
 unfold lineP
 split
 ·exact same
 ·split
  ·refine ⟨rfl, by simp; omega, fun b h => ?_⟩
   rcases List.mem_append.1 h with h | h
   ·exact same.2.2 b h
   ·rw [List.mem_singleton.1 h]; simp
  ·split
   ·exact same
   ·split
    ·exact same
    ·split
     ·exact same
     ·split
      ·refine ⟨rfl, by simp; omega, fun b h => ?_⟩
       rcases List.mem_or_eq_of_mem_set h with h | h
       ·exact same.2.2 b h
       ·rw [h, List.length_append]
        have : (s.blocks.getD (s.blocks.length - 1) []).length ≤ n := by
         by_cases hl : s.blocks.length - 1 < s.blocks.length
         ·rw [List.getD_eq_getElem?_getD, List.getElem?_eq_getElem hl]; exact hbb _ (List.getElem_mem hl)
         ·rw [List.getD_eq_getElem?_getD, List.getElem?_eq_none (by omega)]; simp
        simp only [List.length_cons, List.length_nil]; omega
      ·exact same
theorem stepP_keep (n : Nat) (s : PS) (l : ByteArray) (hb : s.blocks.length ≤ n) (hbb : ∀ b ∈ s.blocks, b.length ≤ n) : (stepP n s l).2.heads = s.heads ∧ (stepP n s l).2.blocks.length ≤ n + 1 ∧ ∀ b ∈ (stepP n s l).2.blocks, b.length ≤ n + 1 := by
 unfold stepP
 split
 ·exact ⟨rfl, Nat.le_succ_of_le hb, fun b h => by have := hbb b h; omega⟩
 ·split
  ·obtain ⟨h1, h2⟩ := topP_keep s (wordsOf (trimB l)); rw [h2]; exact ⟨h1, Nat.le_succ_of_le hb, fun b h => by have := hbb b h; omega⟩
  ·exact lineP_keep s _ hb hbb
theorem zip1 (t : Array Value) (p : Tmp) (v : Value) : ((#[p] : Array Tmp).zip #[v]).foldl (fun t (p, v) => t.setIfInBounds p v) t = t.setIfInBounds p v := by simp
theorem eqne (E : Int) : (E = 0 ∧ True) ∨ (¬ E = 0 ∧ (E == 0) = false ∧ (E != 0) = true ∧ decide (E = 0) = false) := by
 by_cases h : E = 0
 ·exact .inl ⟨h, trivial⟩
 ·exact .inr ⟨h, by simpa using h, by simpa using h, zG h⟩
theorem new_at {w : World} {o : Obj} {k : Nat} (h : k = w.heap.size) : (w.alloc o).heap[k]? = some o := by rw [h]; exact World.alloc_heap_new w o
theorem old_at {w : World} {o : Obj} {k : Nat} {x : Obj} (h : w.heap[k]? = some x) : (w.alloc o).heap[k]? = some x := (Below.heap_alloc _ _ _ (blk_lt h)).trans h
theorem leaves_ret {tmps : Array Value} {R : Ending → World → Prop} {g4 g5 : Nat} {x y : Int} {W : World} (h4 : tmps[4]? = some (.pointer (some ⟨g4, 0, none⟩))) (h5 : tmps[5]? = some (.pointer (some ⟨g5, 0, none⟩))) (c4 : W.heap[g4]? = some (.cells #[.int .i64 x] 3 (0, 0))) (c5 : W.heap[g5]? = some (.cells #[.int .i64 y] 26 (0, 0))) (hR : R (.returned (.tuple #[.int .i64 x, .int .i64 y])) W) :
 bodyPostM Fence.wide 5 Tryz.prog Tryz.f25 R .ret { tmps := tmps, defers := [] } W := ⟨_, parse_results h4 h5 c4 c5, hR⟩
theorem leaves_mark {e : Exit} (he : e = .ret ∨ e = .normal) {tmps : Array Value} {R : Ending → World → Prop} {g4 g5 r : Nat} {x y : Int} {W : World} (hr : W.heap[r]? = some (.deferred (some []))) (h4 : tmps[4]? = some (.pointer (some ⟨g4, 0, none⟩))) (h5 : tmps[5]? = some (.pointer (some ⟨g5, 0, none⟩))) (c4 : W.heap[g4]? = some (.cells #[.int .i64 x] 3 (0, 0))) (c5 : W.heap[g5]? = some (.cells #[.int .i64 y] 26 (0, 0))) (hR : R (.returned (.tuple #[.int .i64 x, .int .i64 y])) (W.putObj r (.deferred none))) :
 bodyPostM Fence.wide 5 Tryz.prog Tryz.f25 R e { tmps := tmps, defers := [{ target := .collected r, args := #[] }] } W := by
 have h1 : g4 ≠ r := fun e => by rw [e, hr] at c4; cases c4
 have h2 : g5 ≠ r := fun e => by rw [e, hr] at c5; cases c5
 have := parse_results (W := W.putObj r (.deferred none)) h4 h5 ((World.putObj_heap_other h1).trans c4) ((World.putObj_heap_other h2).trans c5)
 rcases he with rfl | rfl
 ·exact ⟨by simp, .inl ⟨r, _, rfl, run_takeDeferred hr, _, this, hR⟩⟩
 ·exact ⟨by simp, .inl ⟨r, _, rfl, run_takeDeferred hr, _, this, hR⟩⟩
set_option maxHeartbeats 8000000 in
set_option maxRecDepth 100000 in
theorem parse_calls {w0 w : World} (hL : LaidW w0) (hB : Below w0.heap.size w0 w) (gp : Nat) (hgp : w0.heap.size ≤ gp) (st : PS) (hs : w.heap[gp]? = some (.cells #[.bool st.code, .string st.first, .int .i64 st.heads, .string st.name, .slice none 0 0, .slice none 0 0] 63 (0, 0))) (hh : st.head = []) (hbk : st.blocks = []) (hhd : 1 ≤ st.heads ∧ st.heads ≤ 100) (s : ByteArray) (hsz : s.size ≤ 90000) :
 Calls Tryz.prog 25 #[.pointer (some ⟨gp, 0, none⟩), .string s] w fun e w' => e = .returned (.tuple #[.int .i64 (parseAll st s).1, .int .i64 (parseAll st s).2.1]) ∧ ((parseAll st s).2.1 = 0 → ∃ D, w.heap.size ≤ D ∧ PsAt D gp (parseAll st s).2.2 w') ∧ Below w0.heap.size w0 w' := by
 have HLd := zA hL
 have HB := zA hB
 have HK := zA hs
 clear hL hB hs
 obtain ⟨R, hR⟩ : ∃ R, R = parseAll st s := ⟨_, rfl⟩
 rw [← hR]
 have HR := zA hR
 clear hR
 refine (callsIn_wide (n := 5)).1 ?_
 refine callsIn_of_wp_marks Tryz.func25 rfl trivial ?_ rfl
 simp only [Tryz.ntmps25, List.size_toArray, List.length_cons, List.length_nil, Nat.reduceAdd, Nat.reduceSub, Array.replicate_succ, Array.replicate_zero, List.push_toArray, List.append_toArray, List.nil_append, List.cons_append]
 by_cases c1 : s.toList = []
 ·obtain ⟨c1a, c1b⟩ := qe c1
  gi_wp2
  have hR : R = (1, 80, st) := by
   have h1 := toList_data s
   rw [c1] at h1
   have h2 : s.data.toList.length = s.size := by simp
   have hz : s.size = 0 := by rw [← h2, ← h1]; rfl
   rw [HR.out]; unfold parseAll
   rw [zC hz]
  rw [hR]
  refine leaves_ret rfl rfl (x := 1) (y := 80) (old_at (new_at (by simp))) (new_at (by simp)) ⟨rfl, fun h => absurd (show (80 : Int) = 0 from h) (by decide), below_alloc (below_alloc (below_alloc HB.out _) _) _⟩
 ·obtain ⟨c1a, c1b⟩ := qn c1
  have hz0 : s.size ≠ 0 := fun h => c1 (by rw [toList_data]; exact List.eq_nil_of_length_eq_zero (by simpa using h))
  gi_wp2_with (refine ⟨trivial, ?_⟩; gi_at_call 46; refine (callsIn_wide.2 (lines_calls s _)).mono ?_; rintro e w' ⟨rfl, rfl⟩)
  obtain ⟨gA, hgA⟩ : ∃ x, x = w.heap.size := ⟨_, rfl⟩
  obtain ⟨W5, hW5⟩ : ∃ W5, W5 = (((((w.alloc (Obj.cells #[Value.pointer (some { block := gp, off := 0 })] 61)).alloc (Obj.cells #[Value.int IntKind.i64 0] 3)).alloc (Obj.cells #[Value.int IntKind.i64 0] 26)).alloc (Obj.cells #[Value.int IntKind.i64 0] 3)).alloc (Obj.cells #[Value.string s] 9)) := ⟨_, rfl⟩
  rw [← hW5, ← hgA]
  have hsz5 : W5.heap.size = gA + 5 := by rw [hW5, hgA]; simp
  have hPB : ∀ o1 o2, PB gp gA (gA + 1) (gA + 2) (gA + 3) (gA + 4) (gA + 7) w0 0 0 st s ((W5.alloc o1).alloc o2) := by
   intro o1 o2
   rw [hW5]
   subst hgA
   refine ⟨old_at (old_at (old_at (old_at (old_at (old_at (new_at rfl)))))), old_at (old_at (old_at (old_at (old_at (new_at (by simp)))))), old_at (old_at (old_at (old_at (new_at (by simp))))), old_at (old_at (old_at (new_at (by simp)))), old_at (old_at (new_at (by simp))), ?_, by simp, ?_, hhd, by rw [hbk]; exact Nat.le_refl _, by rw [hbk]; intro b hb; cases hb⟩
   ·unfold TakenAt
    rw [zC rfl]
    exact ⟨by have := blk_lt HK.out; omega, old_at (old_at (old_at (old_at (old_at (old_at (old_at HK.out)))))), hh, hbk⟩
   ·exact below_alloc (below_alloc (below_alloc (below_alloc (below_alloc (below_alloc (below_alloc HB.out _) _) _) _) _) _) _
  have hord : Ord gp gA (gA + 1) (gA + 2) (gA + 3) (gA + 4) (gA + 7) w0 := ⟨hgp, by rw [hgA]; exact blk_lt HK.out, by omega, by omega, by omega, by omega, by omega⟩
  have HPB := zA hPB
  have HgA := zA hgA
  have HS5 := zA hsz5
  have HO := zA hord
  clear hPB hW5 hgA
  refine wpIn_lines (B := gA + 4) (by omega) rfl rfl
   (fun s' W => ∃ n st' k, PB gp gA (gA + 1) (gA + 2) (gA + 3) (gA + 4) (gA + 7) w0 n n st' s' W ∧ (n = 0 → s'.size ≠ 0) ∧ R = parseR (k + 1) n st' s' ∧ s'.size ≤ k ∧ n + s'.size ≤ 90000)
   (fun s' W => s'.size ≠ 0 ∧ ∃ n st' k, PB gp gA (gA + 1) (gA + 2) (gA + 3) (gA + 4) (gA + 7) w0 n n st' (cutB s').2 W ∧ R = parseR (k + 1) n st' s' ∧ s'.size ≤ k ∧ n + s'.size ≤ 90000)
   (fun c W => c = .ret ∧ R.2.1 ≠ 0 ∧ W.heap[gA + 1]? = some (.cells #[.int .i64 R.1] 3 (0, 0)) ∧ W.heap[gA + 2]? = some (.cells #[.int .i64 R.2.1] 26 (0, 0)) ∧ Below w0.heap.size w0 W)
   ?_ (by rw [hsz5]; omega) ?_ ?_ ?_ ?_ ?_ s ?_ (fun x => { tmps := #[Value.pointer (some { block := gp, off := 0 }), Value.string s, Value.pointer (some { block := gA, off := 0 }), undef, Value.pointer (some { block := gA + 1, off := 0 }), Value.pointer (some { block := gA + 2, off := 0 }), Value.pointer (some { block := gA + 3, off := 0 }), Value.string x, undef, undef, undef, undef, Value.string s, Value.bool false, Value.string s, Value.func (Fn.func 60) #[] #[Value.pointer (some { block := gA + 4, off := 0 })], Value.string x, undef, undef, undef, undef, undef, undef, undef, undef, undef, undef, undef, undef, undef, undef, undef, undef, undef, undef, undef, undef, undef, undef, undef, undef], defers := [] }) ?_ ?_ ?_ ?_
  ·rintro s' W ⟨n, st', k, h, hn, hr, h1, h2⟩
   exact ⟨blk_cell h.bB 0, blk_frozen h.bB 0, by omega⟩
  ·rintro s' W ⟨n, st', k, h, hn, hr, h1, h2⟩
   exact ⟨n, st', k, h.drew, hn, hr, h1, h2⟩
  ·rintro s' W ⟨n, st', k, h, hn, hr, h1, h2⟩ hz
   exact ⟨hz, n, st', k, h.setB hord _, hr, h1, h2⟩
  ·rintro s' W j o hj1 hj2 ⟨n, st', k, h, hn, hr, h1, h2⟩
   exact ⟨n, st', k, h.put hord (by omega) (by omega), hn, hr, h1, h2⟩
  ·rintro s' W j o hj1 hj2 ⟨hz, n, st', k, h, hr, h1, h2⟩
   exact ⟨hz, n, st', k, h.put hord (by omega) (by omega), hr, h1, h2⟩
  ·rintro c W j o hj1 hj2 ⟨rfl, h1, h2, h3, h4⟩
   refine ⟨rfl, h1, (World.putObj_heap_other (by omega)).trans h2, (World.putObj_heap_other (by omega)).trans h3, ?_⟩
   have := hord.o0; have := hord.o1
   exact h4.trans ((Below.refl _ W).grown (grownBy_putObj' W j o) h4.size (fun k e => by cases e; omega))
  ·intro o1 o2
   refine ⟨0, st, s.size, HPB.out o1 o2, fun _ => hz0, ?_, Nat.le_refl _, by omega⟩
   rw [HR.out]; unfold parseAll; rw [zD hz0]
  ·clear hsz5 hord
   intro l x W K hk
   rw [zip1]
   simp only [List.setIfInBounds_toArray, List.set_cons_succ, List.set_cons_zero]
   gi_wp2
   exact hk
  ·clear hsz5 hord
   rintro l s' W ⟨hz, n, st', k, h, hr, h1, h2⟩
   obtain ⟨L, hL⟩ : ∃ L, L = (cutB s').1 := ⟨_, rfl⟩
   have hLs : L.size ≤ 90000 := by rw [hL]; have := cutB_le s'; omega
   have htl := Nat.le_trans (trimB_le L) hLs
   have hws := splitB_lenle (trimB L)
   have HWS := zA (wordsOf_small (trimB L))
   obtain ⟨k', rfl⟩ : ∃ k', k = k' + 1 := ⟨k - 1, by omega⟩
   have hcl := cutB_less hz
   have hrr : R = if (stepP n st' L).1 = 0 then parseR (k' + 1) (n + 1) (stepP n st' L).2 (cutB s').2 else (((n + 1 : Nat) : Int), (stepP n st' L).1, st') := by rw [hr, hL]; conv => lhs; unfold parseR; rw [zD hz]
   obtain ⟨sk1, sk2, sk3⟩ := stepP_keep n st' L h.hb h.hbb
   have HR2 := zA hrr
   have HSK := zA (And.intro sk1 (And.intro sk2 sk3))
   have hstn : n + 1 ≤ 90000 := by omega
   clear hr hrr sk1 sk2 sk3
   rw [← hL]
   have HL := zA hL
   clear hL
   have HI := zA (h.inc HO.out (n + 1) ((n : Int) + 1) (by omega))
   have HS1 := zA (show ∀ k, k ≠ gA + 3 → (W.setCell ⟨gA + 3, 0, none⟩ (.int .i64 ((n : Int) + 1))).heap[k]? = W.heap[k]? from fun k hk => heap_setCell_other _ _ _ _ hk)
   have z2 := bk1 h.b2
   have z4 := bk1 h.b4
   have z5 := bk1 h.b5
   have z6 := bk1 h.b6
   have HPBn := zA h
   clear h hcl
   cases cw : wholeB L with
   | false =>
    gi_wp2_with (refine ⟨trivial, ?_⟩; gi_at_call 47; refine (CallsIn.inRound l (callsIn_wide.2 (cut_at L _ hLs))).mono ?_; rintro e w' ⟨rfl, rfl⟩; rw [cw])
    have hst : stepP n st' L = (80, st') := by unfold stepP; rw [zC cw]
    have hRR : R = (((n + 1 : Nat) : Int), 80, st') := by rw [HR2.out, hst]; exact zD (show ¬ (80 : Int) = 0 by decide)
    have HX := zA (And.intro HI.out.b4 (And.intro HI.out.b5 HI.out.bl))
    have HXS := zA (fun k (h1 : gA + 5 ≤ k) (h2 : k ≤ gA + 6) => HS1.out k (by omega))
    have hs5 := HS5.out
    obtain ⟨s1, s2, s3, s4⟩ := PB.stop HX.out.1 HX.out.2.1 HX.out.2.2 HO.out ((n : Int) + 1) 80
    refine ⟨⟨?_, ?_⟩, rfl, by rw [hRR]; exact (by decide : ¬ (80 : Int) = 0), by rw [hRR]; exact s1, by rw [hRR]; exact s2, s3⟩
    ·exact (s4 _ (by omega) (by omega)).trans (HXS.out _ (by omega) (by omega))
    ·exact (s4 _ (by omega) (by omega)).trans (HXS.out _ (by omega) (by omega))
   | true =>
    have cwn : wholeB L ≠ false := by rw [cw]; decide
    by_cases cn : n = 0
    ·have hS : stepP n st' L = topP st' (wordsOf (trimB L)) := by unfold stepP; rw [zD cwn, zC cn]
     have HST := zA hS
     clear hS
     have CN := zA cn
     have n1a := zF (show (n : Int) + 1 = 1 by omega)
     have n1b := (show ((n : Int) + 1 == 1) = true by rw [cn]; rfl)
     clear cn
     gi_wp2_with (first
      | (refine ⟨trivial, ?_⟩; gi_at_call 47; refine (CallsIn.inRound l (callsIn_wide.2 (cut_at L _ hLs))).mono ?_; rintro e w' ⟨rfl, rfl⟩; rw [cw])
      | (refine ⟨trivial, ?_⟩; gi_at_call 48; refine (CallsIn.inRound l (callsIn_wide.2 (split_at (trimB L) _ (by omega)))).mono ?_; rintro e w1 ⟨gw, rfl, hk, hb, hgw⟩
         have HIb := zA (HI.out.below hb)
         have HXb := zA (show ∀ k, gA + 5 ≤ k → k ≤ gA + 6 → w1.heap[k]? = W.heap[k]? from fun k h1 h2 => (hb.block k (by have := HPBn.out.hD; simp [World.setCell]; omega)).trans (HS1.out k (by omega)))
         have HW := zA (show WordsAt gw 0 (wordsOf (trimB L)) w1 from ⟨_, hk, fun i t ht => by simp [ht]⟩)
         have y2 := bk1 HIb.out.b2
         have y4 := bk1 HIb.out.b4
         have y5 := bk1 HIb.out.b5
         have y6 := bk1 HIb.out.b6
         clear hk hb hgw)
      | (refine ⟨trivial, ?_⟩; gi_at_call 49; refine (CallsIn.inRound l (callsIn_wide.2 (top_calls HLd.out HIb.out.bl gp gw (gA + 7) hgp st' (HIb.out.fresh CN.out).1 (HIb.out.fresh CN.out).2.1 (HIb.out.fresh CN.out).2.2.1 (HIb.out.fresh CN.out).2.2.2 HIb.out.hh HIb.out.hD _ HW.out (wordsOf_ne _) (by omega) (fun t ht => Nat.le_trans (HWS.out t ht) (by omega))))).mono ?_; rintro e w2 ⟨rfl, hps, hkd, hbl⟩
         obtain ⟨E, hE⟩ : ∃ E, E = (topP st' (wordsOf (trimB L))).1 := ⟨_, rfl⟩
         have hpos := HO.out
         have y4' := bk1 ((hkd.2 _ (by omega) (by have := hpos.o1; omega) (blk_lt HIb.out.b4)).trans HIb.out.b4)
         have y5' := bk1 ((hkd.2 _ (by omega) (by have := hpos.o1; omega) (blk_lt HIb.out.b5)).trans HIb.out.b5)
         have y6' := bk1 ((hkd.2 _ (by omega) (by have := hpos.o1; omega) (blk_lt HIb.out.b6)).trans HIb.out.b6)
         have HX := zA (show _ ∧ _ ∧ _ from ⟨(hkd.2 _ (by omega) (by have := hpos.o1; omega) (blk_lt HIb.out.b4)).trans HIb.out.b4, (hkd.2 _ (by omega) (by have := hpos.o1; omega) (blk_lt HIb.out.b5)).trans HIb.out.b5, hbl⟩)
         have HXS := zA (show ∀ k, gA + 5 ≤ k → k ≤ gA + 6 → w2.heap[k]? = W.heap[k]? from fun k h1 h2 => (hkd.2 k (by omega) (by have := hpos.o1; omega) (by have := HIb.out.hD; omega)).trans (HXb.out k h1 h2))
         have HPS := zA hps
         have HKD := zA hkd
         rw [← hE]
         have HE := zA hE
         clear hE hps hkd hbl hpos
         rcases eqne E with ⟨e0, e0a⟩ | ⟨e0, e0a, e0b, e0c⟩))
     ·obtain ⟨q1, q2, q3⟩ := HSK.out
      rw [HST.out] at q1 q2 q3
      have hRR : R = parseR (k' + 1) (n + 1) (topP st' (wordsOf (trimB L))).2 (cutB s').2 := by rw [HR2.out, HST.out]; exact zC (HE.out.symm.trans e0)
      have hs5 := HS5.out
      refine ⟨⟨HXS.out _ (by omega) (by omega), HXS.out _ (by omega) (by omega)⟩, n + 1, _, k', HIb.out.took HO.out HKD.out HX.out.2.2 (HPS.out (HE.out.symm.trans e0)) q1 q2 q3, fun h => absurd h (Nat.succ_ne_zero n), hRR, ?_, ?_⟩
      ·have := cutB_less hz; omega
      ·have := cutB_less hz; omega
     ·have hRR : R = (((n + 1 : Nat) : Int), E, st') := by rw [HR2.out, HST.out, ← HE.out]; exact zD e0
      have hs5 := HS5.out
      obtain ⟨s1, s2, s3, s4⟩ := PB.stop HX.out.1 HX.out.2.1 HX.out.2.2 HO.out ((n : Int) + 1) E
      refine ⟨⟨?_, ?_⟩, rfl, by rw [hRR]; exact e0, by rw [hRR]; exact s1, by rw [hRR]; exact s2, s3⟩
      ·exact (s4 _ (by omega) (by omega)).trans (HXS.out _ (by omega) (by omega))
      ·exact (s4 _ (by omega) (by omega)).trans (HXS.out _ (by omega) (by omega))
    ·have hS : stepP n st' L = lineP st' (wordsOf (trimB L)) := by unfold stepP; rw [zD cwn, zD cn]
     have HST := zA hS
     clear hS
     have n1a := zG (show ¬ (n : Int) + 1 = 1 by omega)
     have n1b := (show ((n : Int) + 1 == 1) = false by simp; omega)
     gi_wp2_with (first
      | (refine ⟨trivial, ?_⟩; gi_at_call 47; refine (CallsIn.inRound l (callsIn_wide.2 (cut_at L _ hLs))).mono ?_; rintro e w' ⟨rfl, rfl⟩; rw [cw])
      | (refine ⟨trivial, ?_⟩; gi_at_call 48; refine (CallsIn.inRound l (callsIn_wide.2 (split_at (trimB L) _ (by omega)))).mono ?_; rintro e w1 ⟨gw, rfl, hk, hb, hgw⟩
         have HIb := zA (HI.out.below hb)
         have HXb := zA (show ∀ k, gA + 5 ≤ k → k ≤ gA + 6 → w1.heap[k]? = W.heap[k]? from fun k h1 h2 => (hb.block k (by have := HPBn.out.hD; simp [World.setCell]; omega)).trans (HS1.out k (by omega)))
         have HW := zA (show WordsAt gw 0 (wordsOf (trimB L)) w1 from ⟨_, hk, fun i t ht => by simp [ht]⟩)
         have y2 := bk1 HIb.out.b2
         have y4 := bk1 HIb.out.b4
         have y5 := bk1 HIb.out.b5
         have y6 := bk1 HIb.out.b6
         clear hk hb hgw)
      | (refine ⟨trivial, ?_⟩; gi_at_call 50; refine (CallsIn.inRound l (callsIn_wide.2 (line_calls2 HLd.out HIb.out.bl gp gw (gA + 7) hgp st' (HIb.out.ps cn) HIb.out.hD _ HW.out (wordsOf_ne _) (by omega) (fun t ht => Nat.le_trans (HWS.out t ht) (by omega)) (by have := HIb.out.hb; omega) (fun b hb => by have := HIb.out.hbb b hb; omega)))).mono ?_; rintro e w2 ⟨rfl, hps, hkd, hbl⟩
         obtain ⟨E, hE⟩ : ∃ E, E = (lineP st' (wordsOf (trimB L))).1 := ⟨_, rfl⟩
         have hpos := HO.out
         have y4' := bk1 ((hkd.2 _ (by omega) (by have := hpos.o1; omega) (blk_lt HIb.out.b4)).trans HIb.out.b4)
         have y5' := bk1 ((hkd.2 _ (by omega) (by have := hpos.o1; omega) (blk_lt HIb.out.b5)).trans HIb.out.b5)
         have y6' := bk1 ((hkd.2 _ (by omega) (by have := hpos.o1; omega) (blk_lt HIb.out.b6)).trans HIb.out.b6)
         have HX := zA (show _ ∧ _ ∧ _ from ⟨(hkd.2 _ (by omega) (by have := hpos.o1; omega) (blk_lt HIb.out.b4)).trans HIb.out.b4, (hkd.2 _ (by omega) (by have := hpos.o1; omega) (blk_lt HIb.out.b5)).trans HIb.out.b5, hbl⟩)
         have HXS := zA (show ∀ k, gA + 5 ≤ k → k ≤ gA + 6 → w2.heap[k]? = W.heap[k]? from fun k h1 h2 => (hkd.2 k (by omega) (by have := hpos.o1; omega) (by have := HIb.out.hD; omega)).trans (HXb.out k h1 h2))
         have HPS := zA hps
         have HKD := zA hkd
         rw [← hE]
         have HE := zA hE
         clear hE hps hkd hbl hpos
         rcases eqne E with ⟨e0, e0a⟩ | ⟨e0, e0a, e0b, e0c⟩))
     ·obtain ⟨q1, q2, q3⟩ := HSK.out
      rw [HST.out] at q1 q2 q3
      have hRR : R = parseR (k' + 1) (n + 1) (lineP st' (wordsOf (trimB L))).2 (cutB s').2 := by rw [HR2.out, HST.out]; exact zC (HE.out.symm.trans e0)
      have hs5 := HS5.out
      refine ⟨⟨HXS.out _ (by omega) (by omega), HXS.out _ (by omega) (by omega)⟩, n + 1, _, k', HIb.out.took HO.out HKD.out HX.out.2.2 (HPS.out (HE.out.symm.trans e0)) q1 q2 q3, fun h => absurd h (Nat.succ_ne_zero n), hRR, ?_, ?_⟩
      ·have := cutB_less hz; omega
      ·have := cutB_less hz; omega
     ·have hRR : R = (((n + 1 : Nat) : Int), E, st') := by rw [HR2.out, HST.out, ← HE.out]; exact zD e0
      have hs5 := HS5.out
      obtain ⟨s1, s2, s3, s4⟩ := PB.stop HX.out.1 HX.out.2.1 HX.out.2.2 HO.out ((n : Int) + 1) E
      refine ⟨⟨?_, ?_⟩, rfl, by rw [hRR]; exact e0, by rw [hRR]; exact s1, by rw [hRR]; exact s2, s3⟩
      ·exact (s4 _ (by omega) (by omega)).trans (HXS.out _ (by omega) (by omega))
      ·exact (s4 _ (by omega) (by omega)).trans (HXS.out _ (by omega) (by omega))
  ·clear hsz5 hord
   rintro s' W hz ⟨n, st', k, h, hn, hr, h1, h2⟩ hd
   refine ‹∀ (a : Act) (w : World), _ → _› _ _ ?_
   have hn0 : n ≠ 0 := fun e => hn e hz
   have HS := zA (PB.stop h.b4 h.b5 h.bl HO.out 0 0)
   have HPS := zA (h.ps hn0)
   have hRn := zA (show R = (0, 0, st') by rw [hr]; unfold parseR; rw [zC hz])
   have z4 := bk1 h.b4
   have z5 := bk1 h.b5
   have HD := zA hd
   clear h hr hd
   gi_wp2
   obtain ⟨s1, s2, s3, s4⟩ := HS.out
   rw [hRn.out]
   have hs5 := HS5.out
   have := HO.out.o0; have := HO.out.o1
   refine leaves_mark (.inl rfl) ((s4 _ (by omega) (by omega)).trans HD.out) rfl rfl s1 s2 ⟨rfl, fun _ => ⟨gA + 7, by rw [HgA.out]; omega, HPS.out.move ?_⟩, ?_⟩
   ·intro k hk hl
    exact (World.putObj_heap_other (by omega)).trans (s4 k (by omega) (by omega))
   ·exact s3.trans ((Below.refl _ _).grown (grownBy_putObj' _ _ _) s3.size (fun k e => by cases e; omega))
  ·clear hsz5 hord
   rintro c W ⟨rfl, h1, h2, h3, h4⟩ hd
   gi_wp2
   refine leaves_mark (.inl rfl) hd rfl rfl h2 h3 ⟨rfl, fun h => absurd h h1, ?_⟩
   have := HO.out.o0; have := HO.out.o1; have := HS5.out
   exact h4.trans ((Below.refl _ W).grown (grownBy_putObj' W _ _) h4.size (fun k e => by cases e; omega))
def psFunc : PS := ⟨false, ⟨#[102, 117, 110, 99]⟩, 2, ⟨#[]⟩, [], []⟩
def text_Parse.f (a0 : ByteArray) : Option (ByteArray × Int × Int × List (List SIns) × Int × Int) :=
 if a0.size ≤ 90000 then
  if (parseAll psFunc a0).2.1 = 0 then some ((parseAll psFunc a0).2.2.name, (parseAll psFunc a0).2.2.head.getD 0 0, (parseAll psFunc a0).2.2.head.getD 1 0, (parseAll psFunc a0).2.2.blocks, 0, 0)
  else some (⟨#[]⟩, 0, 0, [], (parseAll psFunc a0).1, (parseAll psFunc a0).2.1)
 else none
theorem mapM_len {α β : Type} {g : α → Option β} : ∀ {l : List α} {r : List β}, l.mapM g = some r → r.length = l.length
 | [], r, h => by simp at h; subst h; rfl
 | a :: l, r, h => by
  rw [List.mapM_cons] at h
  simp only [Option.pure_def, Option.bind_eq_bind, Option.bind_eq_some_iff] at h
  obtain ⟨x, hx, y, hy, h⟩ := h
  injection h with h
  subst h
  simp [mapM_len hy]
theorem lineP_head (s : PS) (ws : List ByteArray) : (lineP s ws).2.head = s.head := by
 unfold lineP
 repeat' split
 all_goals rfl
theorem lineP_heads (s : PS) (ws : List ByteArray) : (lineP s ws).2.heads = s.heads := by
 unfold lineP
 repeat' split
 all_goals rfl
theorem topP_head {s : PS} {ws : List ByteArray} (h : (topP s ws).1 = 0) : ((topP s ws).2.head.length : Int) = s.heads := by
 unfold topP at h ⊢
 split at h
 ·next w0 w1 rest =>
  split at h
  ·next hc =>
   rw [zC hc]
   split at h
   ·next l hl =>
    have := mapM_len hl
    dsimp only
    omega
   ·exact absurd (show (81 : Int) = 0 from h) (by decide)
  ·exact absurd (show (80 : Int) = 0 from h) (by decide)
 ·exact absurd (show (80 : Int) = 0 from h) (by decide)
theorem stepP_heads (n : Nat) (s : PS) (l : ByteArray) : (stepP n s l).2.heads = s.heads := by
 unfold stepP
 split
 ·rfl
 ·split
  ·exact (topP_keep s _).1
  ·exact lineP_heads s _
theorem parseR_head : ∀ (k n : Nat) (st : PS) (s : ByteArray), n ≠ 0 → (st.head.length : Int) = st.heads → ((parseR k n st s).2.2.head.length : Int) = st.heads
 | 0, n, st, s, hn, h => h
 | k + 1, n, st, s, hn, h => by
  unfold parseR
  split
  ·exact h
  ·split
   ·have e : (stepP n st (cutB s).1).2.head = st.head := by
     unfold stepP
     split
     ·rfl
     ·exact lineP_head _ _
    rw [← stepP_heads n st (cutB s).1]
    exact parseR_head k (n + 1) _ _ (Nat.succ_ne_zero n) (by rw [e, stepP_heads]; exact h)
   ·exact h
theorem parseAll_head {st : PS} {s : ByteArray} (h : (parseAll st s).2.1 = 0) : ((parseAll st s).2.2.head.length : Int) = st.heads := by
 unfold parseAll at h ⊢
 split at h
 ·exact absurd (show (80 : Int) = 0 from h) (by decide)
 ·next hs =>
  rw [zD hs]
  unfold parseR at h ⊢
  rw [zD hs] at h ⊢
  split at h
  ·next h0 =>
   rw [zC h0]
   have e : stepP 0 st (cutB s).1 = topP st (wordsOf (trimB (cutB s).1)) := by
    unfold stepP at h0 ⊢
    split at h0
    ·exact absurd (show (80 : Int) = 0 from h0) (by decide)
    ·next hw => rw [zD hw, zC rfl]
   rw [← stepP_heads 0 st (cutB s).1]
   refine parseR_head _ 1 _ _ (by decide) ?_
   rw [stepP_heads, e]
   rw [e] at h0
   exact topP_head h0
  ·next h0 => exact absurd h h0
theorem box4 {w : World} {g : Nat} {t : TypeId} {a b c d : Value} (hb : w.heap[g]? = some (.cells #[a, b, c, d] t (0, 0))) (a' b' c' d' : Value) :
 ((((w.setCell ⟨g, 0, none⟩ a').setCell ⟨g, 1, none⟩ b').setCell ⟨g, 2, none⟩ c').setCell ⟨g, 3, none⟩ d').heap[g]? = some (.cells #[a', b', c', d'] t (0, 0)) ∧ (∀ k, k ≠ g → ((((w.setCell ⟨g, 0, none⟩ a').setCell ⟨g, 1, none⟩ b').setCell ⟨g, 2, none⟩ c').setCell ⟨g, 3, none⟩ d').heap[k]? = w.heap[k]?) ∧ ((((w.setCell ⟨g, 0, none⟩ a').setCell ⟨g, 1, none⟩ b').setCell ⟨g, 2, none⟩ c').setCell ⟨g, 3, none⟩ d').heap.size = w.heap.size := by
 refine ⟨blk_put (cs := #[a', b', c', d]) (blk_put (cs := #[a', b', c, d]) (blk_put (cs := #[a', b, c, d]) (blk_put hb 0 _ rfl) 1 _ rfl) 2 _ rfl) 3 _ rfl, fun k hk => ?_, by simp [World.setCell]⟩
 exact (heap_setCell_other _ _ _ _ hk).trans ((heap_setCell_other _ _ _ _ hk).trans ((heap_setCell_other _ _ _ _ hk).trans (heap_setCell_other _ _ _ _ hk)))
theorem box4_below {w0 w : World} {g : Nat} (hb : Below w0.heap.size w0 w) (hg : w0.heap.size ≤ g) (a' b' c' d' : Value) : Below w0.heap.size w0 ((((w.setCell ⟨g, 0, none⟩ a').setCell ⟨g, 1, none⟩ b').setCell ⟨g, 2, none⟩ c').setCell ⟨g, 3, none⟩ d') :=
 (((hb.setCell (p := ⟨g, 0, none⟩) hg a').setCell (p := ⟨g, 1, none⟩) hg b').setCell (p := ⟨g, 2, none⟩) hg c').setCell (p := ⟨g, 3, none⟩) hg d'
def text_Parse.T5 : Bool × List (List Nat × List Nat) := (true, [([], []), ([0], [0]), ([1], [1]), ([2], [2]), ([], []), ([4], [4]), ([5], [5]), ([6], [6]), ([7], [7]), ([8], [8]), ([], []), ([10], [10]), ([11], [11]), ([12], [12]), ([13], [13]), ([14], [14]), ([], []), ([16], [16]), ([17], [17]), ([18], [18]), ([3, 9, 15, 19], [3, 9, 15, 19]), ([20, 0, 1, 2, 3, 4, 5, 6, 7, 8, 9, 10, 11, 12, 13, 14, 15, 16, 17, 18, 19, 20], [20]), ([21, 0, 1, 2, 3, 4, 5, 6, 7, 8, 9, 10, 11, 12, 13, 14, 15, 16, 17, 18, 19, 20, 21], []), ([22, 0, 1, 2, 3, 4, 5, 6, 7, 8, 9, 10, 11, 12, 13, 14, 15, 16, 17, 18, 19, 20, 21, 22], [])])
def text_Parse.B5 : List Nat := [0, 1, 3, 7, 0, 16, 48, 112, 240, 496, 0, 1024, 3072, 7168, 15360, 31744, 0, 65536, 196608, 458752, 1048575, 2097151, 4194303, 8388607]
theorem text_Parse.tab5 : rtab .any (opsOf Tryz.f10 5) = text_Parse.T5 := by kernel_rfl
theorem text_Parse.bits5 : waitsOk text_Parse.T5.2 text_Parse.B5 = true := by kernel_rfl
set_option maxHeartbeats 8000000 in
set_option maxRecDepth 100000 in
theorem text_Parse.calls (a0 : ByteArray) (r1 : ByteArray) (r2 r3 : Int) (r4 : List (List SIns)) (r5 r6 : Int) (w : World) (h : text_Parse.f a0 = some (r1, r2, r3, r4, r5, r6)) (hL : LaidW w) :
 Calls Tryz.prog 10 #[.string a0] w fun e w' => ∃ v : Value, e = .returned (.tuple #[.agg #[.string r1, .int .i64 r2, .int .i64 r3, v], .int .i64 r5, .int .i64 r6]) ∧ Kd.R (Kd.slice 44 kIns) 41 w' w.heap.size (fun _ => True) v r4 ∧ Below w.heap.size w w' := by
 unfold text_Parse.f at h
 by_cases hsz : a0.size ≤ 90000
 case neg => rw [zD hsz] at h; cases h
 rw [zC hsz] at h
 have HLd := zA hL
 have H := zA h
 clear hL h
 go_enter Tryz.func10, Tryz.ntmps10
 go_wp2_with fail
 go_at_call 25
 refine (parse_calls (w0 := w.alloc (.cells #[.string ⟨#[]⟩, .int .i64 0, .int .i64 0, .slice none 0 0] 24 (0, 0))) (LaidW.below HLd.out (below_alloc (Below.refl _ _) _)) (below_alloc (Below.refl _ _) _) (w.heap.size + 1) (by simp) psFunc (new_at (by simp)) rfl rfl ⟨(by show (1:Int) ≤ 2; decide), (by show (2:Int) ≤ 100; decide)⟩ a0 (by omega)).mono ?_
 rintro e w2 ⟨rfl, hps, hbl⟩
 have z2 := bk4 ((hbl.block _ (by simp)).trans (World.alloc_heap_new w _))
 have HPS := zA hps
 have HBL := zA hbl
 clear hps hbl
 obtain ⟨E, hE⟩ : ∃ E, E = (parseAll psFunc a0).2.1 := ⟨_, rfl⟩
 rw [← hE]
 have HE := zA hE
 clear hE
 rcases eqne E with ⟨e0, e0a⟩ | ⟨e0, e0a, e0b, e0c⟩
 ·go_upto_region 5 with fail
  have hE0 := HE.out.symm.trans e0
  obtain ⟨D, hD, lt, vh, vb, hk, hr, hs⟩ := HPS.out hE0
  have hhd : ((parseAll psFunc a0).2.2.head.length : Int) = 2 := parseAll_head hE0
  obtain ⟨st2, hst2⟩ : ∃ st2, st2 = (parseAll psFunc a0).2.2 := ⟨_, rfl⟩
  rw [← hst2] at hk hr hs hhd
  have hH := H.out
  rw [zC hE0, ← hst2] at hH
  have HH := zA hH
  clear hst2 hH
  have HSR := zA (Kd.S_R hs)
  have hl2 : st2.head.length = 2 := by omega
  obtain ⟨ad, ch, rfl⟩ := Kd.R_slice1 hr (by omega)
  obtain ⟨_, hlc, hC⟩ := Kd.R_reads' hr
  obtain ⟨ad0, q0, hx0⟩ := Kd.at_int hC 0 (by decide) (by omega)
  obtain ⟨ad1, q1, hx1⟩ := Kd.at_int hC 1 (by decide) (by omega)
  cases q0
  cases q1
  rw [hl2] at hk hlc
  have hx0 : w2.cell? ad = some (.int .i64 (rd st2.head 0)) := hx0
  have hx1 : w2.cell? { block := ad.block, off := ad.off + 1 } = some (.int .i64 (rd st2.head 1)) := hx1
  obtain ⟨Ab, cb, rfl⟩ := Kd.R_slice (Kd.S_R hs)
  have hbd : D ≤ ad.block := Kd.R_base hr _ rfl
  have HK2 := zA hk
  have z6 := bk6 hk
  obtain ⟨_, _, _, z63, z64, z65, _⟩ := z6
  refine start_ (n := 24) (S := fun w' => w'.cell? ⟨w.heap.size + 1, 3, none⟩ = some (.string st2.name) ∧ w'.cell? ⟨w.heap.size + 1, 4, none⟩ = some (.slice (some ad) 2 ch) ∧ w'.cell? ⟨w.heap.size + 1, 5, none⟩ = some (.slice Ab st2.blocks.length cb) ∧ w'.cell? ad = some (.int .i64 (rd st2.head 0)) ∧ w'.cell? { block := ad.block, off := ad.off + 1 } = some (.int .i64 (rd st2.head 1))) (ds := []) (bA 24 0) (by kernel_rfl) rfl rfl ⟨z63, z64, z65, hx0, hx1⟩ (fun hHeld => ?_); refine with_tabW text_Parse.tab5 text_Parse.bits5 (fun HT_ HW_ => ?_)
  refine pu_ (i := 0) (N := some 21) (bA 24 1) ?_
  refine pu_ (i := 1) (N := some 22) (bA 24 3) ?_
  refine pu_ (i := 2) (N := some 23) (bA 24 7) ?_
  refine pu_ (i := 4) (N := some 25) (bA 24 23) ?_
  refine pu_ (i := 5) (N := some 26) (bA 24 55) ?_
  refine pu_ (i := 6) (N := some 27) (bA 24 119) ?_
  refine pu_ (i := 10) (N := some 31) (bA 24 1143) ?_
  refine pu_ (i := 11) (N := some 32) (bA 24 3191) ?_
  refine pu_ (i := 12) (N := some 33) (bA 24 7287) ?_
  refine pu_ (i := 16) (N := some 37) (bA 24 72823) ?_
  refine pu_ (i := 17) (N := some 38) (bA 24 203895) ?_
  refine pu_ (i := 18) (N := some 39) (bA 24 466039) ?_
  refine tk_ (i := 3) (N := some 24) (bA 24 466047) ?_
  refine tk_ (i := 7) (N := some 28) (bA 24 466175) ?_
  refine pu_ (i := 8) (N := some 29) (bA 24 466431) ?_
  refine tk_ (i := 9) (N := some 30) (bA 24 466943) ?_
  refine tk_ (i := 13) (N := some 34) (bA 24 475135) ?_
  refine pu_ (i := 14) (N := some 35) (bA 24 491519) ?_
  refine tk_ (i := 15) (N := some 36) (bA 24 524287) ?_
  refine tk_ (i := 19) (N := some 40) (bA 24 1048575) ?_
  refine pu_ (i := 20) (N := some 41) (bA 24 2097151) ?_
  have z2d : w2.drew.heap[w.heap.size]? = some (.cells #[.string ⟨#[]⟩, .int .i64 0, .int .i64 0, .slice none 0 0] 24 (0, 0)) := (HBL.out.block _ (by simp)).trans (World.alloc_heap_new w _)
  have HZ2 := zA z2d
  replace z2d := bk4 z2d
  refine one_ (i := 21) (N := none) (bA 24 4194303) rfl rfl (one_of HT_.out (by kernel_rfl)) (by decide) (fun K hK => ?_)
  refine skip_ (w1 := ?_) (by rfl) rfl ?_ ?_
  rotate_left
  ·first | (go_simp; done) | (go_simp; rfl)
  obtain ⟨hq1, hq2, hq3⟩ := box4 (w := w2) HZ2.out (.string st2.name) (.int .i64 (rd st2.head 0)) (.int .i64 (rd st2.head 1)) (.slice Ab st2.blocks.length cb)
  have HBl := zA (below_drew (box4_below (below_step (below_alloc (Below.refl w.heap.size w) (.cells #[.string ⟨#[]⟩, .int .i64 0, .int .i64 0, .slice none 0 0] 24 (0, 0))) HBL.out) (Nat.le_refl w.heap.size) (.string st2.name) (.int .i64 (rd st2.head 0)) (.int .i64 (rd st2.head 1)) (.slice Ab st2.blocks.length cb)))
  have HSR2 := zA (Kd.R_drew (Kd.R_step (Kd.R_bound HSR.out) (fun k hk hl => hq2 k (by have := hk.2.1; simp at hD; omega))))
  have ho : ∀ (W : World) (p : Addr), (∀ k, k ≠ w.heap.size → W.heap[k]? = w2.heap[k]?) → p.block ≠ w.heap.size → W.drew.cell? p = w2.cell? p := fun W p h1 h2 => World.cell?_of_block (h1 _ h2)
  simp at hD
  refine hK.out _ _ ⟨(ho _ _ hq2 (by show w.heap.size + 1 ≠ _; omega)).trans z63, (ho _ _ hq2 (by show w.heap.size + 1 ≠ _; omega)).trans z64, (ho _ _ hq2 (by show w.heap.size + 1 ≠ _; omega)).trans z65, (ho _ _ hq2 (by omega)).trans hx0, (ho _ _ hq2 (by show ad.block ≠ _; omega)).trans hx1⟩ (fun hHeld => ?_)
  clear hK K ho hx0 hx1 z63 z64 z65 z2d
  generalize ((((w2.setCell ⟨w.heap.size, 0, none⟩ (.string st2.name)).setCell ⟨w.heap.size, 1, none⟩ (.int .i64 (rd st2.head 0))).setCell ⟨w.heap.size, 2, none⟩ (.int .i64 (rd st2.head 1))).setCell ⟨w.heap.size, 3, none⟩ (.slice Ab st2.blocks.length cb)) = W4 at hq1 hq2 hq3 HBl HSR2 hHeld ⊢
  have y4 := bk4 hq1
  refine pu_ (i := 22) (N := some 3) (bA 24 8388607) ?_
  refine pu_ (i := 23) (N := some 4) (bA 24 16777215) ?_
  refine done_ (done_of HT_.out (by kernel_rfl)) ?_
  go_wp2_with fail
  refine bodyPost_ret (results_ctt rfl _ _ w.heap.size 24 #[.string st2.name, .int .i64 (rd st2.head 0), .int .i64 (rd st2.head 1), .slice Ab st2.blocks.length cb] (0, 0) _ rfl hq1 Tryz.underlying24 rfl (by kernel_rfl)) rfl ?_
  injection HH.out with he
  simp only [Prod.mk.injEq] at he
  obtain ⟨rfl, rfl, rfl, rfl, rfl, rfl⟩ := he
  exact ⟨_, rfl, Kd.R_mono (Kd.R_lower HSR2.out (by omega)) (fun _ _ => trivial), HBl.out⟩
 ·go_upto_region 5 with fail
  have hE0 : ¬ (parseAll psFunc a0).2.1 = 0 := fun h => e0 (HE.out.trans h)
  have hH := H.out
  rw [zD hE0] at hH
  injection hH with he
  simp only [Prod.mk.injEq] at he
  obtain ⟨rfl, rfl, rfl, rfl, rfl, rfl⟩ := he
  have hz : w2.heap[w.heap.size]? = some (.cells #[.string ⟨#[]⟩, .int .i64 0, .int .i64 0, .slice none 0 0] 24 (0, 0)) := (HBL.out.block _ (by simp)).trans (World.alloc_heap_new w _)
  obtain ⟨hq1, hq2, hq3⟩ := box4 (w := w2) hz (.string ⟨#[]⟩) (.int .i64 0) (.int .i64 0) (.slice none 0 0)
  have hb2 := box4_below (below_step (below_alloc (Below.refl w.heap.size w) _) HBL.out) (Nat.le_refl w.heap.size) (.string ⟨#[]⟩) (.int .i64 0) (.int .i64 0) (.slice none 0 0)
  refine bodyPost_ret (results_ctt rfl _ _ w.heap.size 24 #[.string ⟨#[]⟩, .int .i64 0, .int .i64 0, .slice none 0 0] (0, 0) _ rfl hq1 Tryz.underlying24 rfl (by kernel_rfl)) rfl ?_
  refine ⟨_, ?_, Kd.R_nil _ _ _ _ _, hb2⟩
  rw [← HE.out]
  rfl
-- code
end Go.Proofs.YtniknpjeknmpjaaGreatDoor.Q
